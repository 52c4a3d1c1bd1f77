/- Part 5 of what Nothing rests on: contracts and plain laws. -/
import Derived.Test.YtahdkpoihpcfnaaGreatDoorProg
import Derived.Below
import Derived.WalkKit
import Derived.KernelRfl
import Derived.RowKit3
import Derived.Tactics
import Derived.Outline
import Derived.WalkLawsBesides
import Derived.WalkSpells
import Derived.Laws.EntriesVeiled
import Derived.Shelf.Strings.Builder1
import Derived.Shelf.Strings.Builder2
import Derived.Shelf.Strings.OnBuilder
import Derived.Shelf.Strings.Trim
import Derived.Shelf.Small.Utf8
import Derived.Shelf.Small.Bits
import Derived.Shelf.Small.Strs
import Derived.Shelf.Strings.Builder2Cap
import Derived.Shelf.Strconv.Itoa0
import Derived.Shelf.LaysM
import Derived.Shelf.Strconv.Clone
import Derived.Shelf.Strings.Search1
import Derived.Shelf.Strings.Search2
import Derived.Shelf.Strings.Search3
import Derived.Shelf.Strings.Shaped
import Derived.Shelf.Unicode.Latin
import Derived.Shelf.Strings.Runes
import Derived.Shelf.Strings.AsciiSet
import Derived.Shelf.Bits.Mul64
import Derived.Shelf.Unicode.DecodeSlow
import Derived.Shelf.Unicode.CaseLookup
import Derived.Shelf.Unicode.CaseConvert
import Derived.Shelf.Unicode.CaseTo
import Derived.Shelf.Unicode.CaseLaid
import Derived.Deep.Draws
import Derived.Deep.AppendLies
import Derived.Maps.AppendAt
import Derived.OwnWalk
import Derived.Laws.BytesArg
import Derived.Laws.MakeOwn
import Derived.Laws.OwnMore
import Derived.Deep.OwnRows
import Derived.Lib.ConvBytes
import Derived.Laws.Slices
import Derived.Deep.LoopGhost
import Derived.Deep.QuietTactic
import Derived.BigQuiet
import Derived.WideLaws
import Derived.Deep.DeepCutAuto
import Derived.Deep.CutBlock
import Derived.Deep.RegionHeld3
import Derived.Laws.Rows
import Derived.Lib.AppendStr
import Derived.ArgAppend
import Derived.Laws.IdiomCopy
import Derived.OrdersHeld
import Derived.Laws.BitsLemmas
import Derived.RowKit
import Derived.Laws.CopyRow
import Derived.Lib.IndexLaws
import Derived.RangeFuncBox
import Derived.RangeFuncLeaves
import Derived.Shelf.Abstract
import Derived.OwnWalkIn
import Derived.TacticsInMore
import Derived.LoopNIn
import Derived.LoopIn
import Derived.RegionIn
import Derived.Stop.RegionWithIn
import Derived.BigRegionIn
import Derived.Lib.Hide
import Derived.ChangeAlike
import Derived.Test.YtahdkpoihpcfnaaGreatDoorC4
section
set_option linter.unusedVariables false
set_option linter.unusedSimpArgs false
namespace Go.Proofs.YtahdkpoihpcfnaaGreatDoor.Val
open Go.RowKit
theorem inside_1 (n : Int) (s : ByteArray) (w : World) : Calls Tryz.prog 46 #[.agg #[.int .i64 1, .int .u64 n, .string s]] w fun e w' => e = .returned (.iface 85 (.agg #[.int .u64 n])) ∧ Below w.heap.size w w' := by
 go_enter Tryz.func46, Tryz.ntmps46
 go_wp2
 go_ret
 exact ⟨rfl, (Below.refl _ _).alloc (Nat.le_refl _) _⟩
theorem inside_2 (n : Int) (s : ByteArray) (w : World) : Calls Tryz.prog 46 #[.agg #[.int .i64 2, .int .u64 n, .string s]] w fun e w' => e = .returned (.iface 83 (.agg #[.string s])) ∧ Below w.heap.size w w' := by
 go_enter Tryz.func46, Tryz.ntmps46
 go_wp2
 go_ret
 exact ⟨rfl, (Below.refl _ _).alloc (Nat.le_refl _) _⟩
theorem inside_3 (n : Int) (s : ByteArray) (w : World) : Calls Tryz.prog 46 #[.agg #[.int .i64 3, .int .u64 n, .string s]] w fun e w' => e = .returned (.iface 80 (.agg #[.int .u64 n, .string s])) ∧ Below w.heap.size w w' := by
 go_enter Tryz.func46, Tryz.ntmps46
 go_wp2
 go_ret
 exact ⟨rfl, (Below.refl _ _).alloc (Nat.le_refl _) _⟩
theorem inside_0 (k n : Int) (s : ByteArray) (w : World) (h1 : ¬ k = 1) (h2 : ¬ k = 2) (h3 : ¬ k = 3) : Calls Tryz.prog 46 #[.agg #[.int .i64 k, .int .u64 n, .string s]] w fun e w' => e = .returned (.iface 91 (.agg #[])) ∧ Below w.heap.size w w' := by
 have b1 : (k == 1) = false := by simpa using h1
 have b2 : (k == 2) = false := by simpa using h2
 have b3 : (k == 3) = false := by simpa using h3
 clear h1 h2 h3
 go_enter Tryz.func46, Tryz.ntmps46
 go_wp2
 go_ret
 exact ⟨rfl, (Below.refl _ _).alloc (Nat.le_refl _) _⟩
theorem plain_1 (n : Int) (w : World) : Calls Tryz.prog 203 #[.agg #[.int .u64 n]] w fun e w' => e = .returned (.agg #[.int .i64 1, .int .u64 n, .string ⟨#[]⟩]) ∧ Below w.heap.size w w' := by
 go_enter Tryz.func203, Tryz.ntmps203
 go_wp2
 refine bodyPost_ret (v := .agg #[.int .i64 1, .int .u64 n, .string ⟨#[]⟩]) (by simp [results, Tryz.results203, go_sem]) rfl ⟨rfl, ?_⟩
 exact (((Below.refl _ _).alloc (Nat.le_refl _) _).alloc (by simp) _)
theorem plain_2 (s : ByteArray) (w : World) : Calls Tryz.prog 59 #[.agg #[.string s]] w fun e w' => e = .returned (.agg #[.int .i64 2, .int .u64 0, .string s]) ∧ Below w.heap.size w w' := by
 go_enter Tryz.func59, Tryz.ntmps59
 go_wp2
 refine bodyPost_ret (v := .agg #[.int .i64 2, .int .u64 0, .string s]) (by simp [results, Tryz.results59, go_sem]) rfl ⟨rfl, ?_⟩
 exact (((Below.refl _ _).alloc (Nat.le_refl _) _).alloc (by simp) _)
theorem plain_3 (n : Int) (s : ByteArray) (w : World) : Calls Tryz.prog 48 #[.agg #[.int .u64 n, .string s]] w fun e w' => e = .returned (.agg #[.int .i64 3, .int .u64 n, .string s]) ∧ Below w.heap.size w w' := by
 go_enter Tryz.func48, Tryz.ntmps48
 go_wp2
 refine bodyPost_ret (v := .agg #[.int .i64 3, .int .u64 n, .string s]) (by simp [results, Tryz.results48, go_sem]) rfl ⟨rfl, ?_⟩
 exact (((Below.refl _ _).alloc (Nat.le_refl _) _).alloc (by simp) _)
theorem plain_0 (w : World) : Calls Tryz.prog 204 #[.agg #[]] w fun e w' => e = .returned (.agg #[.int .i64 0, .int .u64 0, .string ⟨#[]⟩]) ∧ Below w.heap.size w w' := by
 go_enter Tryz.func204, Tryz.ntmps204
 go_wp2
 refine bodyPost_ret (v := .agg #[.int .i64 0, .int .u64 0, .string ⟨#[]⟩]) (by simp [results, Tryz.results204, go_sem]) rfl ⟨rfl, ?_⟩
 exact (((Below.refl _ _).alloc (Nat.le_refl _) _).alloc (by simp) _)
theorem bcell {W w1 : World} (hb : Below W.heap.size W w1) : (∀ b o, b < W.heap.size → w1.cell? ⟨b, o, none⟩ = W.cell? ⟨b, o, none⟩) ∧ (∀ b o, b < W.heap.size → w1.frozen? ⟨b, o, none⟩ = W.frozen? ⟨b, o, none⟩) :=
 ⟨fun b o h => hb.cell (p := ⟨b, o, none⟩) h, fun b o h => hb.frozen (p := ⟨b, o, none⟩) h⟩
theorem meth_1 (v : Value) (w : World) : (method 404 85 v "abacus/value.plain").run Tryz.prog w = .ok (203, v) w := by kernel_rfl
set_option maxRecDepth 100000 in
theorem Plain_1 (n : Int) (s : ByteArray) (w : World) : Calls Tryz.prog 28 #[.agg #[.int .i64 1, .int .u64 n, .string s]] w fun e w' => e = .returned (.agg #[.int .i64 1, .int .u64 n, .string ⟨#[]⟩]) ∧ Below w.heap.size w w' := by
 have hm := meth_1
 go_enter Tryz.func28, Tryz.ntmps28
 go_wp2_with (first | (go_at_call 46; refine (inside_1 _ _ _).mono ?_; rintro e w1 ⟨rfl, hb1⟩; obtain ⟨hc1, hf1⟩ := bcell hb1; have hz1 : w.heap.size + 1 < w1.heap.size := by have := hb1.size; simp at this; omega) | (go_at_call 203; refine (plain_1 _ _).mono ?_; rintro e w2 ⟨rfl, hb2⟩; obtain ⟨hc2, hf2⟩ := bcell hb2; have hz2 : w1.heap.size ≤ w2.heap.size := hb2.size; have hz3 : w.heap.size + 1 < w2.heap.size := by omega))
 refine bodyPost_ret (v := .agg #[.int .i64 1, .int .u64 n, .string ⟨#[]⟩]) (by simp [results, Tryz.results28, go_sem, hc1, hf1, hz1, hc2, hf2, hz3]) rfl ⟨rfl, ?_⟩
 exact (((((((Below.refl _ _).alloc (Nat.le_refl _) _).alloc (by simp) _).trans (hb1.mono (by simp; omega))).trans (hb2.mono (by omega))).setCell (by simp) _).setCell (by simp) _).setCell (by simp) _
theorem meth_2 (v : Value) (w : World) : (method 404 83 v "abacus/value.plain").run Tryz.prog w = .ok (59, v) w := by kernel_rfl
set_option maxRecDepth 100000 in
theorem Plain_2 (n : Int) (s : ByteArray) (w : World) : Calls Tryz.prog 28 #[.agg #[.int .i64 2, .int .u64 n, .string s]] w fun e w' => e = .returned (.agg #[.int .i64 2, .int .u64 0, .string s]) ∧ Below w.heap.size w w' := by
 have hm := meth_2
 go_enter Tryz.func28, Tryz.ntmps28
 go_wp2_with (first | (go_at_call 46; refine (inside_2 _ _ _).mono ?_; rintro e w1 ⟨rfl, hb1⟩; obtain ⟨hc1, hf1⟩ := bcell hb1; have hz1 : w.heap.size + 1 < w1.heap.size := by have := hb1.size; simp at this; omega) | (go_at_call 59; refine (plain_2 _ _).mono ?_; rintro e w2 ⟨rfl, hb2⟩; obtain ⟨hc2, hf2⟩ := bcell hb2; have hz2 : w1.heap.size ≤ w2.heap.size := hb2.size; have hz3 : w.heap.size + 1 < w2.heap.size := by omega))
 refine bodyPost_ret (v := .agg #[.int .i64 2, .int .u64 0, .string s]) (by simp [results, Tryz.results28, go_sem, hc1, hf1, hz1, hc2, hf2, hz3]) rfl ⟨rfl, ?_⟩
 exact (((((((Below.refl _ _).alloc (Nat.le_refl _) _).alloc (by simp) _).trans (hb1.mono (by simp; omega))).trans (hb2.mono (by omega))).setCell (by simp) _).setCell (by simp) _).setCell (by simp) _
theorem meth_3 (v : Value) (w : World) : (method 404 80 v "abacus/value.plain").run Tryz.prog w = .ok (48, v) w := by kernel_rfl
set_option maxRecDepth 100000 in
theorem Plain_3 (n : Int) (s : ByteArray) (w : World) : Calls Tryz.prog 28 #[.agg #[.int .i64 3, .int .u64 n, .string s]] w fun e w' => e = .returned (.agg #[.int .i64 3, .int .u64 n, .string s]) ∧ Below w.heap.size w w' := by
 have hm := meth_3
 go_enter Tryz.func28, Tryz.ntmps28
 go_wp2_with (first | (go_at_call 46; refine (inside_3 _ _ _).mono ?_; rintro e w1 ⟨rfl, hb1⟩; obtain ⟨hc1, hf1⟩ := bcell hb1; have hz1 : w.heap.size + 1 < w1.heap.size := by have := hb1.size; simp at this; omega) | (go_at_call 48; refine (plain_3 _ _ _).mono ?_; rintro e w2 ⟨rfl, hb2⟩; obtain ⟨hc2, hf2⟩ := bcell hb2; have hz2 : w1.heap.size ≤ w2.heap.size := hb2.size; have hz3 : w.heap.size + 1 < w2.heap.size := by omega))
 refine bodyPost_ret (v := .agg #[.int .i64 3, .int .u64 n, .string s]) (by simp [results, Tryz.results28, go_sem, hc1, hf1, hz1, hc2, hf2, hz3]) rfl ⟨rfl, ?_⟩
 exact (((((((Below.refl _ _).alloc (Nat.le_refl _) _).alloc (by simp) _).trans (hb1.mono (by simp; omega))).trans (hb2.mono (by omega))).setCell (by simp) _).setCell (by simp) _).setCell (by simp) _
theorem meth_0 (v : Value) (w : World) : (method 404 91 v "abacus/value.plain").run Tryz.prog w = .ok (204, v) w := by kernel_rfl
set_option maxRecDepth 100000 in
theorem Plain_0 (k n : Int) (s : ByteArray) (w : World) (h1 : ¬ k = 1) (h2 : ¬ k = 2) (h3 : ¬ k = 3) : Calls Tryz.prog 28 #[.agg #[.int .i64 k, .int .u64 n, .string s]] w fun e w' => e = .returned (.agg #[.int .i64 0, .int .u64 0, .string ⟨#[]⟩]) ∧ Below w.heap.size w w' := by
 have hm := meth_0
 go_enter Tryz.func28, Tryz.ntmps28
 go_wp2_with (first | (go_at_call 46; refine (inside_0 _ _ _ _ h1 h2 h3).mono ?_; rintro e w1 ⟨rfl, hb1⟩; obtain ⟨hc1, hf1⟩ := bcell hb1; have hz1 : w.heap.size + 1 < w1.heap.size := by have := hb1.size; simp at this; omega) | (go_at_call 204; refine (plain_0  _).mono ?_; rintro e w2 ⟨rfl, hb2⟩; obtain ⟨hc2, hf2⟩ := bcell hb2; have hz2 : w1.heap.size ≤ w2.heap.size := hb2.size; have hz3 : w.heap.size + 1 < w2.heap.size := by omega))
 refine bodyPost_ret (v := .agg #[.int .i64 0, .int .u64 0, .string ⟨#[]⟩]) (by simp [results, Tryz.results28, go_sem, hc1, hf1, hz1, hc2, hf2, hz3]) rfl ⟨rfl, ?_⟩
 exact (((((((Below.refl _ _).alloc (Nat.le_refl _) _).alloc (by simp) _).trans (hb1.mono (by simp; omega))).trans (hb2.mono (by omega))).setCell (by simp) _).setCell (by simp) _).setCell (by simp) _
theorem as_yes (t : TypeId) (v : Value) (w : World) (h : t = 83 ∨ t = 80 ∨ t = 85) : (Instr.typeAssert (.iface t v) 74 t true).run Tryz.prog w = .ok (.tuple #[v, .bool true]) w := by
 rcases h with rfl | rfl | rfl <;> kernel_rfl
theorem as_text_looks (v : Value) (w : World) : (Instr.typeAssert (.iface 80 v) 74 83 true).run Tryz.prog w = .ok (.tuple #[.agg #[.string ⟨#[]⟩], .bool false]) w := by kernel_rfl
theorem as_text_nothing (v : Value) (w : World) : (Instr.typeAssert (.iface 91 v) 74 83 true).run Tryz.prog w = .ok (.tuple #[.agg #[.string ⟨#[]⟩], .bool false]) w := by kernel_rfl
theorem as_looks_nothing (v : Value) (w : World) : (Instr.typeAssert (.iface 91 v) 74 80 true).run Tryz.prog w = .ok (.tuple #[.agg #[.int .u64 0, .string ⟨#[]⟩], .bool false]) w := by kernel_rfl
theorem as_number_nothing (v : Value) (w : World) : (Instr.typeAssert (.iface 91 v) 74 85 true).run Tryz.prog w = .ok (.tuple #[.agg #[.int .u64 0], .bool false]) w := by kernel_rfl
set_option maxRecDepth 100000 in
theorem ToStr_2 (n : Int) (s f : ByteArray) (w : World) : Calls Tryz.prog 32 #[.agg #[.int .i64 2, .int .u64 n, .string s], .string f] w fun e w' => e = .returned (.tuple #[.string s, .int .i64 0]) ∧ Below w.heap.size w w' := by
 have ha := fun v w => as_yes 83 v w (.inl rfl)
 go_enter Tryz.func32, Tryz.ntmps32
 go_wp2_with (go_at_call 46; refine (inside_2 _ _ _).mono ?_; rintro e w1 ⟨rfl, hb1⟩; have hz1 : w.heap.size < w1.heap.size := by have := hb1.size; simp at this; omega)
 go_ret2
 exact ⟨rfl, (((Below.refl _ _).alloc (Nat.le_refl _) _).trans (hb1.mono (by simp))).alloc (by omega) _⟩
set_option maxRecDepth 100000 in
theorem ToStr_3 (n : Int) (s f : ByteArray) (w : World) : Calls Tryz.prog 32 #[.agg #[.int .i64 3, .int .u64 n, .string s], .string f] w fun e w' => e = .returned (.tuple #[.string s, .int .i64 0]) ∧ Below w.heap.size w w' := by
 have ha := fun v w => as_yes 80 v w (.inr (.inl rfl))
 have hb := as_text_looks
 go_enter Tryz.func32, Tryz.ntmps32
 go_wp2_with (go_at_call 46; refine (inside_3 _ _ _).mono ?_; rintro e w1 ⟨rfl, hb1⟩; have hz1 : w.heap.size < w1.heap.size := by have := hb1.size; simp at this; omega)
 go_ret2
 exact ⟨rfl, (((Below.refl _ _).alloc (Nat.le_refl _) _).trans (hb1.mono (by simp))).alloc (by omega) _⟩
set_option maxRecDepth 100000 in
theorem ToStr_0 (k n : Int) (s f : ByteArray) (w : World) (h1 : ¬ k = 1) (h2 : ¬ k = 2) (h3 : ¬ k = 3) : Calls Tryz.prog 32 #[.agg #[.int .i64 k, .int .u64 n, .string s], .string f] w fun e w' => e = .returned (.tuple #[.string ⟨#[]⟩, .int .i64 0]) ∧ Below w.heap.size w w' := by
 have ha := as_text_nothing
 have hb := as_looks_nothing
 have hc := as_number_nothing
 go_enter Tryz.func32, Tryz.ntmps32
 go_wp2_with (go_at_call 46; refine (inside_0 _ _ _ _ h1 h2 h3).mono ?_; rintro e w1 ⟨rfl, hb1⟩; have hz1 : w.heap.size < w1.heap.size := by have := hb1.size; simp at this; omega)
 go_ret2
 exact ⟨rfl, ((Below.refl _ _).alloc (Nat.le_refl _) _).trans (hb1.mono (by simp))⟩
end Go.Proofs.YtahdkpoihpcfnaaGreatDoor.Val
end

section
namespace Go.Proofs
open Go.Shelf
def Tryz.lays156_ren : Go.Shelf.Ren := ⟨fun | 156 => 60 | 165 => 74 | 166 => 75 | 169 => 76 | 240 => 97 | 241 => 98 | 276 => 121 | 277 => 122 | n => n, fun | 31 => 23 | 9 => 9 | 3 => 3 | 4 => 4 | 0 => 0 | 20 => 20 | 72 => 117 | 76 => 121 | 70 => 115 | 37 => 52 | 75 => 120 | 127 => 161 | 164 => 184 | 5 => 5 | 80 => 43 | n => n, fun | n => n⟩
theorem Tryz.lays156 : Go.Proofs.Lays.n156 Tryz.prog Tryz.lays156_ren := {
  mixed := by kernel_rfl
  f156 := Tryz.func60.trans (congrArg some (by kernel_rfl))
  f165 := Tryz.func74.trans (congrArg some (by kernel_rfl))
  f166 := Tryz.func75.trans (congrArg some (by kernel_rfl))
  f169 := Tryz.func76.trans (congrArg some (by kernel_rfl))
  f240 := Tryz.func97.trans (congrArg some (by kernel_rfl))
  f241 := Tryz.func98.trans (congrArg some (by kernel_rfl))
  f276 := Tryz.func121.trans (congrArg some (by kernel_rfl))
  f277 := Tryz.func122.trans (congrArg some (by kernel_rfl))
  t0 := Tryz.underlying0
  a0 := Tryz.isAgg0
  z0 := Tryz.sizeOf0
  v0 := Tryz.zeroValue0
  t3 := Tryz.underlying3
  a3 := Tryz.isAgg3
  z3 := Tryz.sizeOf3
  v3 := Tryz.zeroValue3
  t4 := Tryz.underlying4
  a4 := Tryz.isAgg4
  z4 := Tryz.sizeOf4
  v4 := Tryz.zeroValue4
  t9 := Tryz.underlying9
  a9 := Tryz.isAgg9
  z9 := Tryz.sizeOf9
  v9 := Tryz.zeroValue9
  t20 := Tryz.underlying20
  a20 := Tryz.isAgg20
  z20 := Tryz.sizeOf20
  v20 := Tryz.zeroValue20
  t31 := Tryz.underlying23
  a31 := Tryz.isAgg23
  z31 := Tryz.sizeOf23
  v31 := Tryz.zeroValue23
  t37 := Tryz.underlying52
  a37 := Tryz.isAgg52
  z37 := Tryz.sizeOf52
  v37 := Tryz.zeroValue52
  t70 := Tryz.underlying115
  a70 := Tryz.isAgg115
  z70 := Tryz.sizeOf115
  v70 := Tryz.zeroValue115
  t72 := Tryz.underlying117
  a72 := Tryz.isAgg117
  z72 := Tryz.sizeOf117
  v72 := Tryz.zeroValue117
  t75 := Tryz.underlying120
  a75 := Tryz.isAgg120
  z75 := Tryz.sizeOf120
  v75 := Tryz.zeroValue120
  t76 := Tryz.underlying121
  a76 := Tryz.isAgg121
  z76 := Tryz.sizeOf121
  v76 := Tryz.zeroValue121
  t127 := Tryz.underlying161
  a127 := Tryz.isAgg161
  z127 := Tryz.sizeOf161
  v127 := Tryz.zeroValue161
  t164 := Tryz.underlying184
  a164 := Tryz.isAgg184
  z164 := Tryz.sizeOf184
  v164 := Tryz.zeroValue184 }
theorem Tryz.Builder_Extra_156 : Builder.Extra Tryz.prog Tryz.lays156_ren := {
  sizeBuilder := by kernel_rfl
  liesBuilder := by kernel_rfl
  t5 := Tryz.underlying5
  a5 := Tryz.isAgg5
  z5 := Tryz.sizeOf5
  v5 := Tryz.zeroValue5
  infoByte := by kernel_rfl
  cellsByte := by kernel_rfl
  sizeByte := by kernel_rfl
  neB5 := by decide }
open Go.RowKit in
theorem Tryz.strings_Join_none (a : Option Addr) (c : Nat) (sep : ByteArray) (w : World) :
    Calls Tryz.prog 60 #[.slice a 0 c, .string sep] w fun e w' => e = .returned (.string ⟨#[]⟩) ∧ w' = w := Any.strings_Join_none Tryz.lays156 Tryz.Builder_Extra_156 a c sep w
open Go.RowKit in
theorem Tryz.strings_Join (bk o c : Nat) (xs : List ByteArray) (sep : ByteArray) (w : World) (hcells : ∀ (j : Nat) x, xs[j]? = some x → w.cell? ⟨bk, o + j, none⟩ = some (.string x)) (hbk : bk < w.heap.size) (hN : xs.length ≤ 140737488355328) (hcap : xs.length ≤ c) (hlen : (Lib.join (xs.map (·.data.toList)) sep.data.toList).length ≤ 140737488355328) :
    Calls Tryz.prog 60 #[.slice (some ⟨bk, o, none⟩) xs.length c, .string sep] w fun e w' => e = .returned (.string ⟨(Lib.join (xs.map (·.data.toList)) sep.data.toList).toArray⟩) ∧ Below w.heap.size w w' := Any.strings_Join Tryz.lays156 Tryz.Builder_Extra_156 bk o c xs sep w hcells hbk hN hcap hlen
end Go.Proofs
end

section
set_option linter.unusedVariables false
set_option linter.unusedSimpArgs false
namespace Go.Proofs.YtahdkpoihpcfnaaGreatDoor.Stub
open Go Go.RowKit Go.Shelf Go.Proofs.YtahdkpoihpcfnaaGreatDoorW.PrintWords
section
variable {P : Program} {ops : Array Oper} {rest : List Oper} {o : Oper} {a : Act} {Q : Exit → Act → World → Prop} {α : Type}
theorem R_makecap (d : Kd α) {w0 W : World} (base e : Nat) (hgd : o.guard = none) {N : Tmp} (hd : o.dst = some N) (t : TypeId) (x y : Operand) (ho : o.op = .makeSlice t x y) (n : Int) (hx : a.eval x = .int .i64 0) (hy : a.eval y = .int .i64 n)
    (ht : P.underlying t = some (.slice e)) (z : Value) (bytes : Nat) (hinfo : (P.info? e).map (fun i => (i.zero, i.size, i.bytes)) = some (some z, d.sz, bytes)) (hz : z.cells.size = d.sz) (hs0 : 0 < d.sz) (hb0 : 0 < bytes)
    (z0 : α) {ok okp : Nat → Prop} (hzero : d.M W base okp z0 z.cells.toList) (hok : ∀ k, okp k → ok k) (hfresh : ok W.heap.size) (h0 : 0 ≤ n) (hl : n.toNat * bytes ≤ 281474976710656) (HB : Below base w0 W) (hbase : base ≤ W.heap.size)
    (h : ∀ v1 w1, d.R e w1 base ok v1 (List.replicate 0 z0) → Below base w0 w1 → W.grownBy w1 none → (∃ b, v1.ownBlock = some b ∧ W.heap.size ≤ b) → wpList P ops Q rest (a.put o.dst v1) w1) : wpList P ops Q (o :: rest) a W := by
  obtain ⟨m, rfl⟩ := Int.eq_ofNat_of_zero_le h0
  simp only [Int.toNat_natCast] at hl
  obtain ⟨i0, hi, hzz⟩ := Option.map_eq_some_iff.1 hinfo
  simp only [Prod.mk.injEq] at hzz
  obtain ⟨hz0, hz1, hz2⟩ := hzz
  have hm : m ≤ 281474976710656 := Nat.le_trans (Nat.le_mul_of_pos_right _ hb0) hl
  refine wpList_make_own W hgd x y t ho base e i0 z d.sz ht hi hz0 hz1 .i64 .i64 m m hx hy rfl (by rw [hz2, Nat.mul_comm]; exact hl) (by simp only [maxLen]; omega) hbase ?_
  intro w1 hown hg
  refine h _ w1 ⟨fun k hk => ?_, [], hown, Reps.none _ _⟩ (HB.grown hg hbase (by simp)) hg ⟨W.heap.size, rfl, Nat.le_refl _⟩
  have : W.heap.size = k := by simpa [Value.ownBlock] using hk
  rw [← this]; exact hfresh
end
def value_Plain.f (x0 x1 : Int) (x2 : ByteArray) : Option (Int × Int × ByteArray) :=
  if x0 = 1 then some (1, x1, ⟨#[]⟩) else if x0 = 2 then some (2, 0, x2) else if x0 = 3 then some (3, x1, x2) else some (0, 0, ⟨#[]⟩)
theorem value_Plain.calls (x0 x1 : Int) (x2 : ByteArray) (r0 r1 : Int) (r2 : ByteArray) (w : World) (h : value_Plain.f x0 x1 x2 = some (r0, r1, r2)) :
    Calls Tryz.prog 28 #[.agg #[.int .i64 x0, .int .u64 x1, .string x2]] w fun e w' => e = .returned (.agg #[.int .i64 r0, .int .u64 r1, .string r2]) ∧ Below w.heap.size w w' := by
  unfold value_Plain.f at h
  split at h
  · rename_i h1; subst h1; cases h; exact Val.Plain_1 _ _ _
  · split at h
    · rename_i h2; subst h2; cases h; exact Val.Plain_2 _ _ _
    · split at h
      · rename_i h3; subst h3; cases h; exact Val.Plain_3 _ _ _
      · rename_i h1 h2 h3; cases h; exact Val.Plain_0 _ _ _ _ h1 h2 h3
def value_ToStr.f (_ : Nat) (x0 _x1 : Int) (x2 _a1 : ByteArray) : Option (ByteArray × Int) :=
  if x0 = 1 then none else if x0 = 2 then some (x2, 0) else if x0 = 3 then some (x2, 0) else some (⟨#[]⟩, 0)
theorem value_ToStr.mono (x0 x1 : Int) (x2 a1 : ByteArray) (k : Nat) : LeO (value_ToStr.f k x0 x1 x2 a1) (value_ToStr.f (k + 1) x0 x1 x2 a1) := LeO.refl _
theorem value_ToStr.calls (k : Nat) (x0 x1 : Int) (x2 a1 : ByteArray) (r1 : ByteArray) (r2 : Int) (w : World) (hT : Tabs w) (h : value_ToStr.f k x0 x1 x2 a1 = some (r1, r2)) :
    Calls Tryz.prog 32 #[.agg #[.int .i64 x0, .int .u64 x1, .string x2], .string a1] w fun e w' => e = .returned (.tuple #[.string r1, .int .i64 r2]) ∧ Below w.heap.size w w' := by
  unfold value_ToStr.f at h
  split at h
  · cases h
  · split at h
    · rename_i h2; subst h2; cases h; exact Val.ToStr_2 _ _ _ _
    · split at h
      · rename_i h3; subst h3; cases h; exact Val.ToStr_3 _ _ _ _
      · rename_i h1 h2 h3; cases h; exact Val.ToStr_0 _ _ _ _ _ h1 h2 h3
def strings_Join.f (l0 : List ByteArray) (a1 : ByteArray) : Option ByteArray :=
  if l0.length ≤ 140737488355328 then (if (Lib.join (l0.map (·.data.toList)) a1.data.toList).length ≤ 140737488355328 then some ⟨(Lib.join (l0.map (·.data.toList)) a1.data.toList).toArray⟩ else none) else none
theorem strings_Join.calls (A0 : Option Addr) (c0 : Nat) (l0 : List ByteArray) (a1 r : ByteArray) (w : World) (hr0 : Kd.C Kd.string w A0 l0.length l0) (hc0 : l0.length ≤ c0) (h : strings_Join.f l0 a1 = some r) :
    Calls Tryz.prog 60 #[.slice A0 l0.length c0, .string a1] w fun e w' => e = .returned (.string r) ∧ Below w.heap.size w w' := by
  unfold strings_Join.f at h
  split at h
  · rename_i hN
    split at h
    · rename_i hl
      cases h
      rcases Nat.eq_zero_or_pos l0.length with h0 | hp
      · obtain rfl : l0 = [] := List.eq_nil_of_length_eq_zero h0
        refine (Tryz.strings_Join_none A0 c0 a1 w).mono ?_
        rintro e w' ⟨rfl, rfl⟩
        exact ⟨rfl, Below.refl _ _⟩
      · obtain ⟨ad, rfl, hcell⟩ := hr0.2.2 hp
        have hcells : ∀ (j : Nat) x, l0[j]? = some x → w.cell? (ad.add j) = some (.string x) := by
          intro j x hx
          obtain ⟨c, hc1, hc2, hc3⟩ := hcell j x hx
          have hc2' : c = [.string x] := hc2
          subst hc2'
          have := hc3 0 (.string x) rfl
          simpa [Kd.string, Kd.scalar] using this
        obtain ⟨b, o, sp⟩ := ad
        have h00 := hcells 0 _ (List.getElem?_eq_getElem hp)
        have hsp : sp = none := by
          have : (⟨b, o, sp⟩ : Addr).add 0 = ⟨b, o, sp⟩ := rfl
          rw [this] at h00
          unfold World.cell? at h00
          split at h00
          · cases sp with
            | none => rfl
            | some _ => simp at h00
          · cases h00
        subst hsp
        have hadd : ∀ j, (⟨b, o, none⟩ : Addr).add j = ⟨b, o + j, none⟩ := fun j => by unfold Addr.add; split <;> simp_all
        exact Tryz.strings_Join b o c0 l0 a1 w (fun j x hx => by rw [← hadd]; exact hcells j x hx) (World.block_lt_of_cell? w _ h00) hN hc0 hl
    · cases h
  · cases h
end Go.Proofs.YtahdkpoihpcfnaaGreatDoor.Stub
end

section
namespace Go.Proofs.YtahdkpoihpcfnaaGreatDoor.PD
open Go.Proofs.YtahdkpoihpcfnaaGreatDoor.Stub Go.Proofs.YtahdkpoihpcfnaaGreatDoor.PA Go.Proofs.YtahdkpoihpcfnaaGreatDoor.PB Go.Proofs.YtahdkpoihpcfnaaGreatDoor.PC
open Go.RowKit Go.Proofs.YtahdkpoihpcfnaaGreatDoorW.PrintWords Go.Proofs.YtahdkpoihpcfnaaGreatDoorW.PrintLast Go.Proofs.YtahdkpoihpcfnaaGreatDoorW.PrintMore
attribute [local go_sem] cell_isSome_setCell max2_int min2_int max_two min_two max_three min_three max_four min_four   -- for this text's walks alone
set_option linter.unusedVariables false
set_option linter.unusedSimpArgs false
def errW : Option Int → Value
 | none => .nilIface
 | some c => .iface 0 (.int .i64 c)
theorem errW_none : errW none = .nilIface := rfl
theorem errW_some (c : Int) : errW (some c) = .iface 0 (.int .i64 c) := rfl
theorem info9 : (Tryz.prog.info? 9).map (fun i => (i.zero, i.size, i.bytes)) = some (some (.string ⟨#[]⟩), 1, 16) := by kernel_rfl
theorem info32 : (Tryz.prog.info? 32).map (fun i => (i.zero, i.size, i.bytes)) = some (some (.agg #[(.int .i64 0), (.int .u64 0), (.string ⟨#[]⟩)]), 3, 32) := by kernel_rfl
structure S32 where
 f0 : Int
 f1 : Int
 f2 : ByteArray
def z32 : S32 := ⟨(0 : Int), (0 : Int), (⟨#[]⟩ : ByteArray)⟩
def k32 : Kd S32 := Kd.iso (Kd.pair (Kd.int .i64) (Kd.pair (Kd.int .u64) Kd.string)) (fun x : S32 => (x.f0, x.f1, x.f2))
theorem k32_open {w : World} {x : S32} {cs : List Value} (h : k32.K w x cs) : cs = [.int .i64 x.f0, .int .u64 x.f1, .string x.f2] := by
 obtain ⟨_, _, rfl, rfl, ⟨_, _, rfl, rfl, rfl⟩⟩ := h
 exact rfl
theorem k32_mkM (w : World) (base : Nat) (ok : Nat → Prop) (x : S32)  : k32.M w base ok x [.int .i64 x.f0, .int .u64 x.f1, .string x.f2] := ⟨[.int .i64 x.f0], [.int .u64 x.f1, .string x.f2], rfl, rfl, ⟨[.int .u64 x.f1], [.string x.f2], rfl, rfl, rfl⟩⟩
def rd_T32 (xs : List S32) (i : Int) : S32 := xs.getD i.toNat z32
theorem at_T32 {w : World} {A : Option Addr} {n : Nat} {xs : List S32} (h : Kd.C k32 w A n xs) (i : Int) (h0 : 0 ≤ i) (h1 : i < n) : ∃ ad , A = some ad ∧ w.cell? (ad.add (i.toNat * 3)) = some (.int .i64 (rd_T32 xs i).f0) ∧ w.cell? ⟨(ad.add (i.toNat * 3)).block, (ad.add (i.toNat * 3)).off + 1, none⟩ = some (.int .u64 (rd_T32 xs i).f1) ∧ w.cell? ⟨(ad.add (i.toNat * 3)).block, (ad.add (i.toNat * 3)).off + 2, none⟩ = some (.string (rd_T32 xs i).f2) := by
 obtain ⟨ad, c, e, _, hK, hc0⟩ := Kd.C_get h z32 i h0 h1
 have hc : ∀ j u, c[j]? = some u → w.cell? (ad.add (i.toNat * 3 + j)) = some u := hc0
 obtain rfl := k32_open hK
 exact ⟨ad, e, hc 0 _ rfl, by rw [← add_field _ _ 1 (by omega)]; exact hc 1 _ rfl, by rw [← add_field _ _ 2 (by omega)]; exact hc 2 _ rfl⟩
end Go.Proofs.YtahdkpoihpcfnaaGreatDoor.PD
end

section
namespace Go.Proofs.YtahdkpoihpcfnaaGreatDoor.PD
open Go.Proofs.YtahdkpoihpcfnaaGreatDoor.Stub Go.Proofs.YtahdkpoihpcfnaaGreatDoor.PA Go.Proofs.YtahdkpoihpcfnaaGreatDoor.PB Go.Proofs.YtahdkpoihpcfnaaGreatDoor.PC
open Go.RowKit Go.Proofs.YtahdkpoihpcfnaaGreatDoorW.PrintWords Go.Proofs.YtahdkpoihpcfnaaGreatDoorW.PrintLast Go.Proofs.YtahdkpoihpcfnaaGreatDoorW.PrintMore
attribute [local go_sem] cell_isSome_setCell max2_int min2_int max_two min_two max_three min_three max_four min_four   -- for this text's walks alone
set_option linter.unusedVariables false
set_option linter.unusedSimpArgs false
def record_inputs.l0 : Nat → List (S32) → List ByteArray → Int → Int → Option ((List (S32)))
 | 0, _, _, _, _ => none
 | k + 1, x3, x6, x7, x8 => if x8 < x7 then (if 0 ≤ x8 then (if x8 < (x6.length : Int) then ((value_Input.f k (rdOf ByteArray.empty x6 x8)).bind fun bt102 => (if x3.length < 4398046511104 then (record_inputs.l0 k (x3 ++ [(⟨bt102.1, bt102.2.1, bt102.2.2⟩ : S32)]) x6 x7 (wrap64 (x8 + 1))) else (none))) else (none)) else (none)) else (some x3)
def record_inputs.f (k : Nat) (l0 : List ByteArray) : Option ((List (S32))) := record_inputs.l0 k ([] : List (S32)) l0 (l0.length : Int) 0
theorem record_inputs.mono_l : ∀ k, (∀ y0 y1 y2 y3, LeO (record_inputs.l0 k y0 y1 y2 y3) (record_inputs.l0 (k + 1) y0 y1 y2 y3))
 | 0 => fun _ _ _ _ r h => by simp [record_inputs.l0] at h
 | k + 1 => by
  have ih0 := record_inputs.mono_l k
  ·intro y0 y1 y2 y3
   unfold record_inputs.l0
   repeat' first
   | (with_reducible exact ih0 _ _ _ _)
   | (with_reducible exact value_Input.mono _ _)
   | (with_reducible exact LeO.refl _)
   | (with_reducible exact LeO.none _)
   | (with_reducible refine LeO.ite ?_ ?_)
   | (with_reducible refine LeO.bind ?_ (fun _ => ?_))
   | exact ih0 _ _ _ _
   | exact value_Input.mono _ _
   | exact LeO.none _
   | refine LeO.ite ?_ ?_
   | refine LeO.bind ?_ (fun _ => ?_)
theorem record_inputs.mono : ∀ a0 k, LeO (record_inputs.f k a0) (record_inputs.f (k + 1) a0) := by
 intro a0 k
 have ih0 := record_inputs.mono_l k
 unfold record_inputs.f
 repeat' first
   | (with_reducible exact ih0 _ _ _ _)
   | (with_reducible exact value_Input.mono _ _)
   | (with_reducible exact LeO.refl _)
   | (with_reducible exact LeO.none _)
   | (with_reducible refine LeO.ite ?_ ?_)
   | (with_reducible refine LeO.bind ?_ (fun _ => ?_))
   | exact ih0 _ _ _ _
   | exact value_Input.mono _ _
   | exact LeO.none _
   | refine LeO.ite ?_ ?_
   | refine LeO.bind ?_ (fun _ => ?_)
set_option maxHeartbeats 8000000 in
set_option maxRecDepth 100000 in
theorem record_inputs.calls (k : Nat) (A0 : Option Addr) (c0 : Nat) (l0 : List ByteArray) (r : List (S32)) (w : World) (hr0 : Kd.C Kd.string w A0 l0.length l0) (hc0 : l0.length ≤ c0) (hT : Tabs w) (h : record_inputs.f k l0 = some r) :
  Calls Tryz.prog 33 #[.slice A0 l0.length c0] w fun e w' => ∃ v0_ : Value, e = .returned (v0_) ∧ Kd.R k32 32 w' w.heap.size (fun _ => True) v0_ r ∧ Below w.heap.size w w' := by
 have HR0 := Aside0.mk hr0
 have HC0 := Aside0.mk hc0
 clear hr0 hc0
 have HB := Aside0.mk (Below.refl w.heap.size w)
 have H : (record_inputs.l0 k ([] : List (S32)) l0 (l0.length : Int) 0) = some r := h
 clear h
 have H' := Aside0.mk H
 clear H
 go_enter Tryz.func33, Tryz.ntmps33
 go_wp2
 go_loopg [3, 8] k (fun kq v3 v8 w' => ∃ (x3_1 : List (S32)) (x8_1 : Int), v8 = .int .i64 x8_1 ∧ Aside0 (record_inputs.l0 kq x3_1 l0 (l0.length : Int) x8_1 = some r) ∧ Aside0 (kq ≤ k) ∧ Aside0 (Kd.R k32 32 w' w.heap.size (fun _ => True) v3 x3_1) ∧ Aside0 (Below w.heap.size w w'))
 case atStart => exact ⟨(([] : List (S32))), (0), (by first | rfl | (simp; done) | (simp [*]; done)), H', ⟨Nat.le_refl _⟩, ⟨by first | exact Kd.R_nil _ _ _ _ _ | exact Kd.N_nil _ _ _ _ _ | exact Kd.V_nil _ _ _ _ _ | exact Kd.Q_nil _ _ _ _ _ | exact Kd.S_nil _ _ _ _ _⟩, ⟨by repeat (first | (with_reducible first | exact HB.out | apply below_alloc | apply pw_below_drewN | apply below_drew1) | exact HB.out)⟩⟩
 case round =>
  clear H'
  obtain ⟨x3_1, x8_1, rfl, HA, HK1, HO_3, HB⟩ := hrel
  cases gk with
  | zero => exact absurd HA.out (by simp [record_inputs.l0])
  | succ k1 =>
   have H := HA.out
   clear HA
   simp only [record_inputs.l0] at H
   by_cases c2 : x8_1 < (l0.length : Int)
   ·rw [if_pos c2] at H
    have c2b0 : decide (x8_1 < (l0.length : Int)) = true := decide_eq_true c2
    clear c2
    by_cases c3 : 0 ≤ x8_1
    ·rw [if_pos c3] at H
     have c3b0 : decide (0 ≤ x8_1) = true := decide_eq_true c3
     clear c3
     by_cases c4 : x8_1 < (l0.length : Int)
     ·rw [if_pos c4] at H
      have c4b0 : decide (x8_1 < (l0.length : Int)) = true := decide_eq_true c4
      clear c4
      replace H := Option.bind_eq_some_iff.mp H
      obtain ⟨⟨t102, t103, t104⟩, A50, H⟩ := H
      replace H : (if x3_1.length < 4398046511104 then (record_inputs.l0 k1 (x3_1 ++ [(⟨t102, t103, t104⟩ : S32)]) l0 (l0.length : Int) (wrap64 (x8_1 + 1))) else (none)) = some r := H
      have A5 := Aside0.mk A50
      clear A50
      by_cases c6 : x3_1.length < 4398046511104
      ·rw [if_pos c6] at H
       have LMc6 := Aside0.mk c6
       clear c6
       obtain ⟨y105, hy105⟩ : ∃ y_ : List (S32), y_ = (x3_1 ++ [(⟨t102, t103, t104⟩ : S32)]) := ⟨_, rfl⟩
       replace H : (record_inputs.l0 k1 y105 l0 (l0.length : Int) (wrap64 (x8_1 + 1))) = some r := by first | (rw [hy105]; with_reducible exact H) | (have H2_ := (Option.bind_some _ _).symm.trans H; rw [hy105]; with_reducible exact H2_) | (have H2_ := (Option.bind_some _ _).symm.trans H; with_reducible exact H2_) | with_reducible exact H | (rw [hy105]; exact H) | exact H
       have Ny105 := Aside0.mk hy105
       clear hy105
       have H' := Aside0.mk H
       clear H
       have p101 : 0 ≤ (x8_1 : Int) := of_decide_eq_true (by first | (with_reducible assumption) | assumption)
       have q101 : x8_1 < (l0.length : Int) := of_decide_eq_true (by first | (with_reducible assumption) | assumption)
       obtain ⟨ad101, e101, hx101_0⟩ := Kd.at_string HR0.out x8_1 p101 q101
       cases e101
       replace hx101_0 := (HB.out.cell (World.block_lt_of_cell? w _ hx101_0)).trans hx101_0
       replace p101 := eq_true p101
       replace q101 := eq_true q101
       go_wp2_with (first | ((with_reducible refine gate_callee (f := 29) rfl ?_); refine goesL_ (some 14) rfl rfl Tryz.func29 (by kernel_rfl) rfl #[.string (rdOf ByteArray.empty l0 x8_1)] rfl (by (try simp only [List.map_toArray, List.map_cons, List.map_nil]); first | done | rfl | (simp only [List.length_drop, List.length_take]; rfl)) ?_; (with_reducible refine (value_Input.calls k1 (rdOf ByteArray.empty l0 x8_1) t102 t103 t104 _ ?side1 A5.out).mono ?_); (case side1 => first | exact hT | exact Tabs.below hT (by repeat (first | exact HB.out | apply below_alloc | apply pw_below_drewN | apply below_drew1)) | (repeat (first | exact hT | apply Tabs.drewN | apply Tabs.drew))); rintro e w7 ⟨rfl, hb⟩; refine ⟨_, rfl, ?_⟩; have n0_ := Aside0.mk (Kd.R_below (by (with_reducible repeat (first | apply Kd.R_alloc | apply Kd.R_drewN | apply Kd.R_drew)); exact HO_3.out) hb); have n1_ := Aside0.mk (below_step (by repeat (first | exact HB.out | apply below_alloc | apply pw_below_drewN | apply below_drew1)) hb); clear HO_3; clear HB; have HO_3 := n0_; have HB := n1_; clear n0_ n1_; (try clear hb); (try clear hb2); (try clear hk); (try clear hi)) | ((with_reducible refine gate_builtin (b := .append) (xs := #[.tmp 12, .tmp 15]) rfl ?_); at_builtin; refine Kd.R_append k32 (w0 := w) w.heap.size rfl (.tmp 12) (.tmp 15) 35 32 (.agg #[(.int .i64 0), (.int .u64 0), (.string ⟨#[]⟩)]) 32 rfl Tryz.underlying35 info32 rfl (by decide) (by omega) u3 x3_1 (⟨t102, t103, t104⟩ : S32) [.int .i64 t102, .int .u64 t103, .string t104] (fun _ => True) (fun _ => False) rfl rfl ?aP (fun _ hk => hk.elim) ?aF ?aO ?aB ?aS ?aL ?_; (case aP => exact k32_mkM _ _ _ (⟨t102, t103, t104⟩ : S32)); (case aB => exact (by repeat (first | exact HB.out | apply below_alloc | apply pw_below_drewN | apply below_drew1))); (case aF => exact (fun _ _ => trivial)); (case aO => exact (by (with_reducible repeat (first | apply Kd.R_alloc | apply Kd.R_drewN | apply Kd.R_drew)); exact HO_3.out)); (case aS => exact (below_size (by repeat (first | exact HB.out | apply below_alloc | apply pw_below_drewN | apply below_drew1)))); (case aL => have := LMc6.out; omega); intro v106 w8 ho hb hg hat; rw [← Ny105.out] at ho; have n0_ := Aside0.mk (hb); have n1_ := Aside0.mk (ho); clear HB; clear HO_3; have HB := n0_; have HO107 := n1_; clear n0_ n1_; clear ho hb hg hat))
       go_roundg k1
       case measure => have := HK1.out; omega
       case rel => exact ⟨(y105), (wrap64 (x8_1 + 1)), (by first | rfl | (simp; done) | (simp [*]; done)), H', ⟨by have := HK1.out; omega⟩, ⟨by (with_reducible repeat (first | apply Kd.R_alloc | apply Kd.R_drewN | apply Kd.R_drew)); exact HO107.out⟩, ⟨by repeat (first | (with_reducible first | exact HB.out | apply below_alloc | apply pw_below_drewN | apply below_drew1) | exact HB.out)⟩⟩
      ·rw [if_neg c6] at H
       exact absurd H (by simp)
     ·rw [if_neg c4] at H
      exact absurd H (by simp)
    ·rw [if_neg c3] at H
     exact absurd H (by simp)
   ·rw [if_neg c2] at H
    have c2b0 : decide (x8_1 < (l0.length : Int)) = false := decide_eq_false c2
    clear c2
    obtain rfl := Option.some.inj H
    go_wp2
    go_ret
    exact ⟨_, by first | rfl | (simp [errW_none, errW_some] <;> rfl) | (simp [*, errW_none, errW_some] <;> rfl), by (with_reducible repeat (first | apply Kd.R_alloc | apply Kd.R_drewN | apply Kd.R_drew)); exact HO_3.out, by repeat (first | (with_reducible first | exact HB.out | apply below_alloc | apply pw_below_drewN | apply below_drew1) | exact HB.out)⟩
def record_build.l0 : Nat → ByteArray → ByteArray → List ByteArray → Int → List (S32) → Int → Int → Option (ByteArray × Int)
 | 0, _, _, _, _, _, _, _ => none
 | k + 1, x1, x2, x8, x9, x24, x25, x26 => if x26 < x25 then (if 0 ≤ x26 then (if x26 < (x24.length : Int) then ((value_ToStr.f k ((rd_T32 x24 x26).f0) ((rd_T32 x24 x26).f1) ((rd_T32 x24 x26).f2) x2).bind fun bt113 => (if bt113.2 = 0 then (if x8.length < 8796093022208 then (record_build.l0 k x1 x2 (x8 ++ [bt113.1]) (wrap64 (x9 + (bt113.1.size : Int))) x24 x25 (wrap64 (x26 + 1))) else (none)) else (some ((⟨#[]⟩ : ByteArray), bt113.2)))) else (none)) else (none)) else (if x9 > 16777216 then (some ((⟨#[]⟩ : ByteArray), 3)) else ((strings_Join.f x8 x1).bind fun t118 => (some (t118, 0))))
def record_build.f (k : Nat) (l0 : List (S32)) (a1 : ByteArray) (a2 : ByteArray) : Option (ByteArray × Int) := if 0 ≤ (l0.length : Int) then (if ((l0.length : Int) : Int).toNat ≤ 17592186044416 then (record_build.l0 k a1 a2 (List.replicate 0 (⟨#[]⟩ : ByteArray)) (wrap64 ((mx 0 (wrap64 ((l0.length : Int) - 1))) * (a1.size : Int))) l0 (l0.length : Int) 0) else (none)) else (none)
theorem record_build.mono_l : ∀ k, (∀ y0 y1 y2 y3 y4 y5 y6, LeO (record_build.l0 k y0 y1 y2 y3 y4 y5 y6) (record_build.l0 (k + 1) y0 y1 y2 y3 y4 y5 y6))
 | 0 => fun _ _ _ _ _ _ _ r h => by simp [record_build.l0] at h
 | k + 1 => by
  have ih0 := record_build.mono_l k
  ·intro y0 y1 y2 y3 y4 y5 y6
   unfold record_build.l0
   repeat' first
   | (with_reducible exact ih0 _ _ _ _ _ _ _)
   | (with_reducible exact value_ToStr.mono _ _ _ _ _)
   | (with_reducible exact LeO.refl _)
   | (with_reducible exact LeO.none _)
   | (with_reducible refine LeO.ite ?_ ?_)
   | (with_reducible refine LeO.bind ?_ (fun _ => ?_))
   | exact ih0 _ _ _ _ _ _ _
   | exact value_ToStr.mono _ _ _ _ _
   | exact LeO.none _
   | refine LeO.ite ?_ ?_
   | refine LeO.bind ?_ (fun _ => ?_)
theorem record_build.mono : ∀ a0 a1 a2 k, LeO (record_build.f k a0 a1 a2) (record_build.f (k + 1) a0 a1 a2) := by
 intro a0 a1 a2 k
 have ih0 := record_build.mono_l k
 unfold record_build.f
 repeat' first
   | (with_reducible exact ih0 _ _ _ _ _ _ _)
   | (with_reducible exact value_ToStr.mono _ _ _ _ _)
   | (with_reducible exact LeO.refl _)
   | (with_reducible exact LeO.none _)
   | (with_reducible refine LeO.ite ?_ ?_)
   | (with_reducible refine LeO.bind ?_ (fun _ => ?_))
   | exact ih0 _ _ _ _ _ _ _
   | exact value_ToStr.mono _ _ _ _ _
   | exact LeO.none _
   | refine LeO.ite ?_ ?_
   | refine LeO.bind ?_ (fun _ => ?_)
set_option maxHeartbeats 8000000 in
set_option maxRecDepth 100000 in
theorem record_build.calls (k : Nat) (A0 : Option Addr) (c0 : Nat) (l0 : List (S32)) (a1 : ByteArray) (a2 : ByteArray) (r1 : ByteArray) (r2 : Int) (w : World) (hr0 : Kd.C k32 w A0 l0.length l0) (hc0 : l0.length ≤ c0) (hT : Tabs w) (h : record_build.f k l0 a1 a2 = some (r1, r2)) :
  Calls Tryz.prog 50 #[.slice A0 l0.length c0, .string a1, .string a2] w fun e w' => e = .returned (.tuple #[.string r1, .int .i64 r2]) ∧ Below w.heap.size w w' := by
 have hu32 := Tryz.underlying32
 have HR0 := Aside0.mk hr0
 have HC0 := Aside0.mk hc0
 clear hr0 hc0
 have HB := Aside0.mk (Below.refl w.heap.size w)
 have H : (if 0 ≤ (l0.length : Int) then (if ((l0.length : Int) : Int).toNat ≤ 17592186044416 then (record_build.l0 k a1 a2 (List.replicate 0 (⟨#[]⟩ : ByteArray)) (wrap64 ((mx 0 (wrap64 ((l0.length : Int) - 1))) * (a1.size : Int))) l0 (l0.length : Int) 0) else (none)) else (none)) = some (r1, r2) := h
 clear h
 by_cases c4 : 0 ≤ (l0.length : Int)
 ·rw [if_pos c4] at H
  have c4b0 := eq_true c4
  have c4b1 : decide (0 ≤ (l0.length : Int)) = true := decide_eq_true c4
  clear c4
  by_cases c5 : ((l0.length : Int) : Int).toNat ≤ 17592186044416
  ·rw [if_pos c5] at H
   have c5b0 := eq_true c5
   have c5b1 : decide (((l0.length : Int) : Int).toNat ≤ 17592186044416) = true := decide_eq_true c5
   clear c5
   obtain ⟨y108, hy108⟩ : ∃ y_ : List ByteArray, y_ = (List.replicate 0 (⟨#[]⟩ : ByteArray)) := ⟨_, rfl⟩
   replace H : (record_build.l0 k a1 a2 y108 (wrap64 ((mx 0 (wrap64 ((l0.length : Int) - 1))) * (a1.size : Int))) l0 (l0.length : Int) 0) = some (r1, r2) := by first | (rw [hy108]; with_reducible exact H) | (have H2_ := (Option.bind_some _ _).symm.trans H; rw [hy108]; with_reducible exact H2_) | (have H2_ := (Option.bind_some _ _).symm.trans H; with_reducible exact H2_) | with_reducible exact H | (rw [hy108]; exact H) | exact H
   have Ny108 := Aside0.mk hy108
   clear hy108
   obtain ⟨ji6, hji6⟩ : ∃ j_ : Int, (mx 0 (wrap64 ((l0.length : Int) - 1))) = j_ := ⟨_, rfl⟩
   replace H : (record_build.l0 k a1 a2 y108 (wrap64 ((ji6) * (a1.size : Int))) l0 (l0.length : Int) 0) = some (r1, r2) := by first | (rw [hji6] at H; exact H) | (simp only [hji6] at H ⊢; exact H)
   (try (have hji6l : 0 ≤ ji6 := by (rw [← hji6]; unfold mx; (repeat' split) <;> omega)))
   (try (have hji6m : 0 ≤ ji6 := by omega))
   have hji6_ : (if 0 < (wrap64 ((l0.length : Int) - 1)) then (wrap64 ((l0.length : Int) - 1)) else 0) = ji6 := hji6
   have H' := Aside0.mk H
   clear H
   go_enter Tryz.func50, Tryz.ntmps50
   go_wp2_with (first | ((with_reducible refine gate_dst (N := 16) rfl ?_); refine R_makecap Kd.string _ 9 rfl (N := 16) rfl 23 _ _ rfl (l0.length : Int) rfl rfl Tryz.underlying23 (.string ⟨#[]⟩) 16 info9 rfl (by decide) (by omega) (⟨#[]⟩ : ByteArray) (ok := fun _ => True) (okp := fun _ => True) rfl (fun _ hk => hk) trivial (of_decide_eq_true (by first | (with_reducible assumption) | assumption)) (Nat.le_trans (Nat.mul_le_mul_right _ (of_decide_eq_true (by first | (with_reducible assumption) | assumption) : ((l0.length : Int) : Int).toNat ≤ 17592186044416)) (by omega)) (Below.refl _ _) (Nat.le_refl _) ?_; intro v109 w7 ho8 hb hg_ hnew_; clear hg_ hnew_; (first | rw [← Ny108.out] at ho8 | (simp only [Int.reduceToNat] at ho8; rw [← Ny108.out] at ho8)); have n0_ := Aside0.mk (Kd.R_lower ho8 (below_size (by repeat (first | exact HB.out | apply below_alloc | apply pw_below_drewN | apply below_drew1)))); have n1_ := Aside0.mk (below_step (by repeat (first | exact HB.out | apply below_alloc | apply pw_below_drewN | apply below_drew1)) hb); clear HB; have HO110 := n0_; have HB := n1_; clear n0_ n1_; clear hb ho8))
   go_loopg [8, 9, 26] k (fun kq v8 v9 v26 w' => ∃ (x8_1 : List ByteArray) (x9_1 : Int) (x26_1 : Int), v9 = .int .i64 x9_1 ∧ v26 = .int .i64 x26_1 ∧ Aside0 (record_build.l0 kq a1 a2 x8_1 x9_1 l0 (l0.length : Int) x26_1 = some (r1, r2)) ∧ Aside0 (kq ≤ k) ∧ Aside0 (Kd.R Kd.string 9 w' w.heap.size (fun _ => True) v8 x8_1) ∧ Aside0 (Below w.heap.size w w'))
   case atStart => exact ⟨(y108), (wrap64 ((ji6) * (a1.size : Int))), (0), (by first | rfl | (simp; done) | (simp only [← hji6] <;> (first | rfl | simp)) | (simp [*]; done)), (by first | rfl | (simp; done) | (simp [*]; done)), H', ⟨Nat.le_refl _⟩, ⟨by (with_reducible repeat (first | apply Kd.R_alloc | apply Kd.R_drewN | apply Kd.R_drew)); exact HO110.out⟩, ⟨by repeat (first | (with_reducible first | exact HB.out | apply below_alloc | apply pw_below_drewN | apply below_drew1) | exact HB.out)⟩⟩
   case round =>
    clear H'
    try clear p2
    try clear c4
    try clear c4b0
    try clear c4b1
    try clear c5
    try clear c5b0
    try clear c5b1
    try clear p6
    obtain ⟨x8_1, x9_1, x26_1, rfl, rfl, HA, HK1, HO_8, HB⟩ := hrel
    cases gk with
    | zero => exact absurd HA.out (by simp [record_build.l0])
    | succ k1 =>
     have H := HA.out
     clear HA
     simp only [record_build.l0] at H
     by_cases c9 : x26_1 < (l0.length : Int)
     ·rw [if_pos c9] at H
      have c9b0 : decide (x26_1 < (l0.length : Int)) = true := decide_eq_true c9
      clear c9
      by_cases c10 : 0 ≤ x26_1
      ·rw [if_pos c10] at H
       have c10b0 : decide (0 ≤ x26_1) = true := decide_eq_true c10
       clear c10
       by_cases c11 : x26_1 < (l0.length : Int)
       ·rw [if_pos c11] at H
        have c11b0 : decide (x26_1 < (l0.length : Int)) = true := decide_eq_true c11
        clear c11
        replace H := Option.bind_eq_some_iff.mp H
        obtain ⟨⟨t113, t114⟩, A120, H⟩ := H
        replace H : (if t114 = 0 then (if x8_1.length < 8796093022208 then (record_build.l0 k1 a1 a2 (x8_1 ++ [t113]) (wrap64 (x9_1 + (t113.size : Int))) l0 (l0.length : Int) (wrap64 (x26_1 + 1))) else (none)) else (some ((⟨#[]⟩ : ByteArray), t114))) = some (r1, r2) := H
        have A12 := Aside0.mk A120
        clear A120
        by_cases c13 : t114 = 0
        ·rw [if_pos c13] at H
         have c13b0 : (t114 == 0) = true := beq_iff_eq.mpr c13
         have c13b1 : (t114 != 0) = false := bne_eq_false_iff_eq.mpr c13
         clear c13
         by_cases c14 : x8_1.length < 8796093022208
         ·rw [if_pos c14] at H
          have LMc14 := Aside0.mk c14
          clear c14
          obtain ⟨y115, hy115⟩ : ∃ y_ : List ByteArray, y_ = (x8_1 ++ [t113]) := ⟨_, rfl⟩
          replace H : (record_build.l0 k1 a1 a2 y115 (wrap64 (x9_1 + (t113.size : Int))) l0 (l0.length : Int) (wrap64 (x26_1 + 1))) = some (r1, r2) := by first | (rw [hy115]; with_reducible exact H) | (have H2_ := (Option.bind_some _ _).symm.trans H; rw [hy115]; with_reducible exact H2_) | (have H2_ := (Option.bind_some _ _).symm.trans H; with_reducible exact H2_) | with_reducible exact H | (rw [hy115]; exact H) | exact H
          have Ny115 := Aside0.mk hy115
          clear hy115
          have H' := Aside0.mk H
          clear H
          have p111 : 0 ≤ (x26_1 : Int) := of_decide_eq_true (by first | (with_reducible assumption) | assumption)
          have q111 : x26_1 < (l0.length : Int) := of_decide_eq_true (by first | (with_reducible assumption) | assumption)
          obtain ⟨ad111, e111, hx111_0, hx111_1, hx111_2⟩ := at_T32 HR0.out x26_1 p111 q111
          cases e111
          replace hx111_0 := (HB.out.cell (World.block_lt_of_cell? w _ hx111_0)).trans hx111_0
          replace hx111_1 := (HB.out.cell (World.block_lt_of_cell? w _ hx111_1)).trans hx111_1
          replace hx111_2 := (HB.out.cell (World.block_lt_of_cell? w _ hx111_2)).trans hx111_2
          replace p111 := eq_true p111
          replace q111 := eq_true q111
          go_wp2_with (first | ((with_reducible refine gate_dst (N := 11) rfl ?_); refine box_event ?hg (N := 11) ?hd (cs := #[.int .i64 0, .int .u64 0, .string (⟨#[]⟩ : ByteArray)]) (t := 32) ?hr ?_; (case hd => rfl); (case hg => rfl); (case hr => first | (go_simp; done) | (go_simp; rfl)); intro gb112 hg w15 hbox hb; have n0_ := Aside0.mk (Kd.R_below (by (with_reducible repeat (first | apply Kd.R_alloc | apply Kd.R_drewN | apply Kd.R_drew)); exact HO_8.out) hb); have n1_ := Aside0.mk (below_step (by repeat (first | exact HB.out | apply below_alloc | apply pw_below_drewN | apply below_drew1)) hb); have n2_ := Aside0.mk (hbox); have n3_ := Aside0.mk ((by rw [hg]; exact (below_size (by repeat (first | exact HB.out | apply below_alloc | apply pw_below_drewN | apply below_drew1))) : w.heap.size ≤ gb112)); have n4_ := Aside0.mk ((by rw [hg]; exact (below_size (by repeat (first | exact HB.out | apply below_alloc | apply pw_below_drewN | apply below_drew1))) : w.heap.size ≤ gb112)); clear HO_8; clear HB; have HO_8 := n0_; have HB := n1_; have BK112 := n2_; have GW112 := n3_; have GE112 := n4_; clear n0_ n1_ n2_ n3_ n4_; clear hb hbox hg; have hcz16_0 : w15.cell? ⟨gb112, 0, none⟩ = some (.int .i64 0) := (blk_cell BK112.out 0).trans rfl; have hcz16_1 : w15.cell? ⟨gb112, 1, none⟩ = some (.int .u64 0) := (blk_cell BK112.out 1).trans rfl; have hcz16_2 : w15.cell? ⟨gb112, 2, none⟩ = some (.string (⟨#[]⟩ : ByteArray)) := (blk_cell BK112.out 2).trans rfl; have hfz16_0 := blk_frozen BK112.out 0; have hfz16_1 := blk_frozen BK112.out 1; have hfz16_2 := blk_frozen BK112.out 2) | ((with_reducible refine gate_callee (f := 32) rfl ?_); refine goesL_ (some 33) rfl rfl Tryz.func32 (by kernel_rfl) rfl #[.agg #[.int .i64 ((rd_T32 l0 x26_1).f0), .int .u64 ((rd_T32 l0 x26_1).f1), .string ((rd_T32 l0 x26_1).f2)], .string a2] rfl (by (try simp only [List.map_toArray, List.map_cons, List.map_nil]); first | done | rfl | (simp only [List.length_drop, List.length_take]; rfl)) ?_; (with_reducible refine (value_ToStr.calls k1 ((rd_T32 l0 x26_1).f0) ((rd_T32 l0 x26_1).f1) ((rd_T32 l0 x26_1).f2) a2 t113 t114 _ ?side1 A12.out).mono ?_); (case side1 => first | exact hT | exact Tabs.below hT (by repeat (first | (with_reducible first | exact HB.out | apply below_alloc | apply pw_below_drewN | apply below_drew1 | refine below_set ?_ GE112.out) | exact HB.out)) | (repeat (first | exact hT | apply Tabs.drewN | apply Tabs.drew))); rintro e w17 ⟨rfl, hb⟩; refine ⟨_, rfl, ?_⟩; have n0_ := Aside0.mk (Kd.R_below (by (with_reducible repeat (first | apply Kd.R_alloc | apply Kd.R_drewN | apply Kd.R_drew)); exact (Kd.R_mono (Kd.R_far (p := ⟨gb112, 2, none⟩) (Kd.R_far (p := ⟨gb112, 1, none⟩) (Kd.R_far (p := ⟨gb112, 0, none⟩) (Kd.R_types HO_8.out BK112.out (by decide)) (fun _ hk => hk.2) (.int .i64 ((rd_T32 l0 x26_1).f0))) (fun _ hk => hk.2) (.int .u64 ((rd_T32 l0 x26_1).f1))) (fun _ hk => hk.2) (.string ((rd_T32 l0 x26_1).f2))) (fun _ h_ => h_.1))) hb); have n1_ := Aside0.mk (blk_below (g := gb112) (o := .cells #[.int .i64 ((rd_T32 l0 x26_1).f0), .int .u64 ((rd_T32 l0 x26_1).f1), .string ((rd_T32 l0 x26_1).f2)] 32 (0, 0)) (by (with_reducible repeat (first | refine blk_drewN ?_ _ | refine blk_drew ?_ | refine blk_alloc ?_ _)); refine blk_put (cs := #[.int .i64 ((rd_T32 l0 x26_1).f0), .int .u64 ((rd_T32 l0 x26_1).f1), .string (⟨#[]⟩ : ByteArray)]) ?_ 2 _ rfl; (with_reducible repeat (first | refine blk_drewN ?_ _ | refine blk_drew ?_ | refine blk_alloc ?_ _)); refine blk_put (cs := #[.int .i64 ((rd_T32 l0 x26_1).f0), .int .u64 0, .string (⟨#[]⟩ : ByteArray)]) ?_ 1 _ rfl; (with_reducible repeat (first | refine blk_drewN ?_ _ | refine blk_drew ?_ | refine blk_alloc ?_ _)); refine blk_put (cs := #[.int .i64 0, .int .u64 0, .string (⟨#[]⟩ : ByteArray)]) ?_ 0 _ rfl; (with_reducible repeat (first | refine blk_drewN ?_ _ | refine blk_drew ?_ | refine blk_alloc ?_ _)); exact BK112.out) hb); have n2_ := Aside0.mk (below_step (by repeat (first | (with_reducible first | exact HB.out | apply below_alloc | apply pw_below_drewN | apply below_drew1 | refine below_set ?_ GE112.out) | exact HB.out)) hb); clear HO_8; clear BK112; clear HB; have HO_8 := n0_; have BK112 := n1_; have HB := n2_; clear n0_ n1_ n2_; (try clear hb); (try clear hb2); (try clear hk); (try clear hi)) | ((with_reducible refine gate_builtin (b := .append) (xs := #[.tmp 43, .tmp 45]) rfl ?_); at_builtin; refine Kd.R_append Kd.string (w0 := w) w.heap.size rfl (.tmp 43) (.tmp 45) 23 9 (.string ⟨#[]⟩) 16 rfl Tryz.underlying23 info9 rfl (by decide) (by omega) u8 x8_1 t113 [.string t113] (fun _ => True) (fun _ => False) rfl rfl ?aP (fun _ hk => hk.elim) ?aF ?aO ?aB ?aS ?aL ?_; (case aP => exact rfl); (case aB => exact (by repeat (first | (with_reducible first | exact HB.out | apply below_alloc | apply pw_below_drewN | apply below_drew1 | refine below_set ?_ GE112.out) | exact HB.out))); (case aF => exact (fun _ _ => trivial)); (case aO => exact (by (with_reducible repeat (first | apply Kd.R_alloc | apply Kd.R_drewN | apply Kd.R_drew)); exact HO_8.out)); (case aS => exact (below_size (by repeat (first | (with_reducible first | exact HB.out | apply below_alloc | apply pw_below_drewN | apply below_drew1 | refine below_set ?_ GE112.out) | exact HB.out)))); (case aL => have := LMc14.out; omega); intro v116 w18 ho hb hg hat; rw [← Ny115.out] at ho; have n0_ := Aside0.mk (blk_grown (g := gb112) (o := .cells #[.int .i64 ((rd_T32 l0 x26_1).f0), .int .u64 ((rd_T32 l0 x26_1).f1), .string ((rd_T32 l0 x26_1).f2)] 32 (0, 0)) (by (with_reducible repeat (first | refine blk_drewN ?_ _ | refine blk_drew ?_ | refine blk_alloc ?_ _)); exact BK112.out) hg (Kd.R_ne HO_8.out BK112.out (by decide))); have n1_ := Aside0.mk (hb); have n2_ := Aside0.mk (ho); clear BK112; clear HB; clear HO_8; have BK112 := n0_; have HB := n1_; have HO117 := n2_; clear n0_ n1_ n2_; clear ho hb hg hat))
          go_roundg k1
          case measure => have := HK1.out; omega
          case rel => exact ⟨(y115), (wrap64 (x9_1 + (t113.size : Int))), (wrap64 (x26_1 + 1)), (by first | rfl | (simp; done) | (simp [*]; done)), (by first | rfl | (simp; done) | (simp [*]; done)), H', ⟨by have := HK1.out; omega⟩, ⟨by (with_reducible repeat (first | apply Kd.R_alloc | apply Kd.R_drewN | apply Kd.R_drew)); exact HO117.out⟩, ⟨by repeat (first | (with_reducible first | exact HB.out | apply below_alloc | apply pw_below_drewN | apply below_drew1 | refine below_set ?_ GE112.out) | exact HB.out)⟩⟩
         ·rw [if_neg c14] at H
          exact absurd H (by simp)
        ·rw [if_neg c13] at H
         have c13b0 : (t114 == 0) = false := beq_eq_false_iff_ne.mpr c13
         have c13b1 : (t114 != 0) = true := bne_iff_ne.mpr c13
         simp only [Option.some.injEq, Prod.mk.injEq] at H
         obtain ⟨rfl, rfl⟩ := H
         have p111 : 0 ≤ (x26_1 : Int) := of_decide_eq_true (by first | (with_reducible assumption) | assumption)
         have q111 : x26_1 < (l0.length : Int) := of_decide_eq_true (by first | (with_reducible assumption) | assumption)
         obtain ⟨ad111, e111, hx111_0, hx111_1, hx111_2⟩ := at_T32 HR0.out x26_1 p111 q111
         cases e111
         replace hx111_0 := (HB.out.cell (World.block_lt_of_cell? w _ hx111_0)).trans hx111_0
         replace hx111_1 := (HB.out.cell (World.block_lt_of_cell? w _ hx111_1)).trans hx111_1
         replace hx111_2 := (HB.out.cell (World.block_lt_of_cell? w _ hx111_2)).trans hx111_2
         replace p111 := eq_true p111
         replace q111 := eq_true q111
         go_wp2_with (first | ((with_reducible refine gate_dst (N := 11) rfl ?_); refine box_event ?hg (N := 11) ?hd (cs := #[.int .i64 0, .int .u64 0, .string (⟨#[]⟩ : ByteArray)]) (t := 32) ?hr ?_; (case hd => rfl); (case hg => rfl); (case hr => first | (go_simp; done) | (go_simp; rfl)); intro gb112 hg w19 hbox hb; have n0_ := Aside0.mk (Kd.R_below (by (with_reducible repeat (first | apply Kd.R_alloc | apply Kd.R_drewN | apply Kd.R_drew)); exact HO_8.out) hb); have n1_ := Aside0.mk (below_step (by repeat (first | exact HB.out | apply below_alloc | apply pw_below_drewN | apply below_drew1)) hb); have n2_ := Aside0.mk (hbox); have n3_ := Aside0.mk ((by rw [hg]; exact (below_size (by repeat (first | exact HB.out | apply below_alloc | apply pw_below_drewN | apply below_drew1))) : w.heap.size ≤ gb112)); have n4_ := Aside0.mk ((by rw [hg]; exact (below_size (by repeat (first | exact HB.out | apply below_alloc | apply pw_below_drewN | apply below_drew1))) : w.heap.size ≤ gb112)); clear HO_8; clear HB; have HO_8 := n0_; have HB := n1_; have BK112 := n2_; have GW112 := n3_; have GE112 := n4_; clear n0_ n1_ n2_ n3_ n4_; clear hb hbox hg; have hcz20_0 : w19.cell? ⟨gb112, 0, none⟩ = some (.int .i64 0) := (blk_cell BK112.out 0).trans rfl; have hcz20_1 : w19.cell? ⟨gb112, 1, none⟩ = some (.int .u64 0) := (blk_cell BK112.out 1).trans rfl; have hcz20_2 : w19.cell? ⟨gb112, 2, none⟩ = some (.string (⟨#[]⟩ : ByteArray)) := (blk_cell BK112.out 2).trans rfl; have hfz20_0 := blk_frozen BK112.out 0; have hfz20_1 := blk_frozen BK112.out 1; have hfz20_2 := blk_frozen BK112.out 2) | ((with_reducible refine gate_callee (f := 32) rfl ?_); refine goesL_ (some 33) rfl rfl Tryz.func32 (by kernel_rfl) rfl #[.agg #[.int .i64 ((rd_T32 l0 x26_1).f0), .int .u64 ((rd_T32 l0 x26_1).f1), .string ((rd_T32 l0 x26_1).f2)], .string a2] rfl (by (try simp only [List.map_toArray, List.map_cons, List.map_nil]); first | done | rfl | (simp only [List.length_drop, List.length_take]; rfl)) ?_; (with_reducible refine (value_ToStr.calls k1 ((rd_T32 l0 x26_1).f0) ((rd_T32 l0 x26_1).f1) ((rd_T32 l0 x26_1).f2) a2 t113 t114 _ ?side1 A12.out).mono ?_); (case side1 => first | exact hT | exact Tabs.below hT (by repeat (first | (with_reducible first | exact HB.out | apply below_alloc | apply pw_below_drewN | apply below_drew1 | refine below_set ?_ GE112.out) | exact HB.out)) | (repeat (first | exact hT | apply Tabs.drewN | apply Tabs.drew))); rintro e w21 ⟨rfl, hb⟩; refine ⟨_, rfl, ?_⟩; have n0_ := Aside0.mk (Kd.R_below (by (with_reducible repeat (first | apply Kd.R_alloc | apply Kd.R_drewN | apply Kd.R_drew)); exact (Kd.R_mono (Kd.R_far (p := ⟨gb112, 2, none⟩) (Kd.R_far (p := ⟨gb112, 1, none⟩) (Kd.R_far (p := ⟨gb112, 0, none⟩) (Kd.R_types HO_8.out BK112.out (by decide)) (fun _ hk => hk.2) (.int .i64 ((rd_T32 l0 x26_1).f0))) (fun _ hk => hk.2) (.int .u64 ((rd_T32 l0 x26_1).f1))) (fun _ hk => hk.2) (.string ((rd_T32 l0 x26_1).f2))) (fun _ h_ => h_.1))) hb); have n1_ := Aside0.mk (blk_below (g := gb112) (o := .cells #[.int .i64 ((rd_T32 l0 x26_1).f0), .int .u64 ((rd_T32 l0 x26_1).f1), .string ((rd_T32 l0 x26_1).f2)] 32 (0, 0)) (by (with_reducible repeat (first | refine blk_drewN ?_ _ | refine blk_drew ?_ | refine blk_alloc ?_ _)); refine blk_put (cs := #[.int .i64 ((rd_T32 l0 x26_1).f0), .int .u64 ((rd_T32 l0 x26_1).f1), .string (⟨#[]⟩ : ByteArray)]) ?_ 2 _ rfl; (with_reducible repeat (first | refine blk_drewN ?_ _ | refine blk_drew ?_ | refine blk_alloc ?_ _)); refine blk_put (cs := #[.int .i64 ((rd_T32 l0 x26_1).f0), .int .u64 0, .string (⟨#[]⟩ : ByteArray)]) ?_ 1 _ rfl; (with_reducible repeat (first | refine blk_drewN ?_ _ | refine blk_drew ?_ | refine blk_alloc ?_ _)); refine blk_put (cs := #[.int .i64 0, .int .u64 0, .string (⟨#[]⟩ : ByteArray)]) ?_ 0 _ rfl; (with_reducible repeat (first | refine blk_drewN ?_ _ | refine blk_drew ?_ | refine blk_alloc ?_ _)); exact BK112.out) hb); have n2_ := Aside0.mk (below_step (by repeat (first | (with_reducible first | exact HB.out | apply below_alloc | apply pw_below_drewN | apply below_drew1 | refine below_set ?_ GE112.out) | exact HB.out)) hb); clear HO_8; clear BK112; clear HB; have HO_8 := n0_; have BK112 := n1_; have HB := n2_; clear n0_ n1_ n2_; (try clear hb); (try clear hb2); (try clear hk); (try clear hi)))
         go_ret2
         exact ⟨by first | rfl | (simp [errW_none, errW_some] <;> rfl) | (simp only [← hji6]; first | rfl | (simp [errW_none, errW_some] <;> rfl)) | (simp [*, errW_none, errW_some] <;> rfl), by repeat (first | (with_reducible first | exact HB.out | apply below_alloc | apply pw_below_drewN | apply below_drew1 | refine below_set ?_ GE112.out) | exact HB.out)⟩
       ·rw [if_neg c11] at H
        exact absurd H (by simp)
      ·rw [if_neg c10] at H
       exact absurd H (by simp)
     ·rw [if_neg c9] at H
      have c9b0 : decide (x26_1 < (l0.length : Int)) = false := decide_eq_false c9
      clear c9
      by_cases c22 : x9_1 > 16777216
      ·rw [if_pos c22] at H
       have c22b0 : decide (16777216 < x9_1) = true := decide_eq_true c22
       clear c22
       simp only [Option.some.injEq, Prod.mk.injEq] at H
       obtain ⟨rfl, rfl⟩ := H
       go_wp2
       go_ret2
       exact ⟨by first | rfl | (simp [errW_none, errW_some] <;> rfl) | (simp only [← hji6]; first | rfl | (simp [errW_none, errW_some] <;> rfl)) | (simp [*, errW_none, errW_some] <;> rfl), by repeat (first | (with_reducible first | exact HB.out | apply below_alloc | apply pw_below_drewN | apply below_drew1) | exact HB.out)⟩
      ·rw [if_neg c22] at H
       have c22b0 : decide (16777216 < x9_1) = false := decide_eq_false c22
       clear c22
       replace H := Option.bind_eq_some_iff.mp H
       obtain ⟨t118, A230, H⟩ := H
       replace H : (some (t118, 0)) = some (r1, r2) := H
       have A23 := Aside0.mk A230
       clear A230
       simp only [Option.some.injEq, Prod.mk.injEq] at H
       obtain ⟨rfl, rfl⟩ := H
       obtain ⟨Ao24, co24, eo24⟩ := Kd.R_slice HO_8.out
       subst eo24
       go_wp2_with (first | ((with_reducible refine gate_callee (f := 60) rfl ?_); refine goesL_ (some 52) rfl rfl Tryz.func60 (by kernel_rfl) rfl #[.slice Ao24 x8_1.length co24, .string a1] rfl (by (try simp only [List.map_toArray, List.map_cons, List.map_nil]); first | done | rfl | (simp only [List.length_drop, List.length_take]; rfl)) ?_; (with_reducible refine (strings_Join.calls _ _ x8_1 a1 t118 _ ?side1 ?side2 A23.out).mono ?_); (case side1 => repeat (first | exact (Kd.R_reads' HO_8.out).2.2 | (with_reducible refine Kd.C_alloc ?_ _) | (with_reducible refine Kd.C_drewN ?_ _) | (with_reducible refine Kd.C_drew ?_))); (case side2 => exact (Kd.R_reads' HO_8.out).2.1); rintro e w25 ⟨rfl, hb⟩; refine ⟨_, rfl, ?_⟩; have n0_ := Aside0.mk (Kd.R_below (by (with_reducible repeat (first | apply Kd.R_alloc | apply Kd.R_drewN | apply Kd.R_drew)); exact HO_8.out) hb); have n1_ := Aside0.mk (below_step (by repeat (first | exact HB.out | apply below_alloc | apply pw_below_drewN | apply below_drew1)) hb); clear HO_8; clear HB; have HO_8 := n0_; have HB := n1_; clear n0_ n1_; (try clear hb); (try clear hb2); (try clear hk); (try clear hi)))
       go_ret2
       exact ⟨by first | rfl | (simp [errW_none, errW_some] <;> rfl) | (simp only [← hji6]; first | rfl | (simp [errW_none, errW_some] <;> rfl)) | (simp [*, errW_none, errW_some] <;> rfl), by repeat (first | (with_reducible first | exact HB.out | apply below_alloc | apply pw_below_drewN | apply below_drew1) | exact HB.out)⟩
  ·rw [if_neg c5] at H
   exact absurd H (by simp)
 ·rw [if_neg c4] at H
  exact absurd H (by simp)
def abacuslaw21_sameTexts.l0 : Nat → List ByteArray → List ByteArray → Int → Option (Bool)
 | 0, _, _, _ => none
 | k + 1, x0, x1, x5 => if x5 < (x0.length : Int) then (if 0 ≤ x5 then (if x5 < (x1.length : Int) then (if (rdOf ByteArray.empty x0 x5).toList = (rdOf ByteArray.empty x1 x5).toList then (abacuslaw21_sameTexts.l0 k x0 x1 (wrap64 (x5 + 1))) else (some false)) else (none)) else (none)) else (some true)
def abacuslaw21_sameTexts.f (k : Nat) (l0 : List ByteArray) (l1 : List ByteArray) : Option (Bool) := if (l0.length : Int) = (l1.length : Int) then (abacuslaw21_sameTexts.l0 k l0 l1 0) else (some false)
theorem abacuslaw21_sameTexts.mono_l : ∀ k, (∀ y0 y1 y2, LeO (abacuslaw21_sameTexts.l0 k y0 y1 y2) (abacuslaw21_sameTexts.l0 (k + 1) y0 y1 y2))
 | 0 => fun _ _ _ r h => by simp [abacuslaw21_sameTexts.l0] at h
 | k + 1 => by
  have ih0 := abacuslaw21_sameTexts.mono_l k
  ·intro y0 y1 y2
   unfold abacuslaw21_sameTexts.l0
   repeat' first
   | (with_reducible exact ih0 _ _ _)
   | (with_reducible exact LeO.refl _)
   | (with_reducible exact LeO.none _)
   | (with_reducible refine LeO.ite ?_ ?_)
   | (with_reducible refine LeO.bind ?_ (fun _ => ?_))
   | exact ih0 _ _ _
   | exact LeO.none _
   | refine LeO.ite ?_ ?_
   | refine LeO.bind ?_ (fun _ => ?_)
theorem abacuslaw21_sameTexts.mono : ∀ a0 a1 k, LeO (abacuslaw21_sameTexts.f k a0 a1) (abacuslaw21_sameTexts.f (k + 1) a0 a1) := by
 intro a0 a1 k
 have ih0 := abacuslaw21_sameTexts.mono_l k
 unfold abacuslaw21_sameTexts.f
 repeat' first
   | (with_reducible exact ih0 _ _ _)
   | (with_reducible exact LeO.refl _)
   | (with_reducible exact LeO.none _)
   | (with_reducible refine LeO.ite ?_ ?_)
   | (with_reducible refine LeO.bind ?_ (fun _ => ?_))
   | exact ih0 _ _ _
   | exact LeO.none _
   | refine LeO.ite ?_ ?_
   | refine LeO.bind ?_ (fun _ => ?_)
set_option maxHeartbeats 8000000 in
set_option maxRecDepth 100000 in
theorem abacuslaw21_sameTexts.calls (k : Nat) (A0 : Option Addr) (c0 : Nat) (l0 : List ByteArray) (A1 : Option Addr) (c1 : Nat) (l1 : List ByteArray) (r : Bool) (w : World) (hr0 : Kd.C Kd.string w A0 l0.length l0) (hc0 : l0.length ≤ c0) (hr1 : Kd.C Kd.string w A1 l1.length l1) (hc1 : l1.length ≤ c1) (h : abacuslaw21_sameTexts.f k l0 l1 = some r) :
  Calls Tryz.prog 12 #[.slice A0 l0.length c0, .slice A1 l1.length c1] w fun e w' => e = .returned (.bool r) ∧ Drawn0 w w' := by
 have HR0 := Aside0.mk hr0
 have HC0 := Aside0.mk hc0
 clear hr0 hc0
 have HR1 := Aside0.mk hr1
 have HC1 := Aside0.mk hc1
 clear hr1 hc1
 have H : (if (l0.length : Int) = (l1.length : Int) then (abacuslaw21_sameTexts.l0 k l0 l1 0) else (some false)) = some r := h
 clear h
 by_cases c3 : (l0.length : Int) = (l1.length : Int)
 ·rw [if_pos c3] at H
  have c3b0 : ((l0.length : Int) == (l1.length : Int)) = true := beq_iff_eq.mpr c3
  have c3b1 : ((l0.length : Int) != (l1.length : Int)) = false := bne_eq_false_iff_eq.mpr c3
  have c3b2 : (l0.length == l1.length) = true := by first | simpa using c3 | (simp at c3 ⊢; omega)
  clear c3
  have H' := Aside0.mk H
  clear H
  go_enter Tryz.func12, Tryz.ntmps12
  go_wp2
  repeat (go_quiet (fail); try go_wp2)
  go_loopg [5] k (fun kq v5 w' => ∃ (x5_1 : Int), v5 = .int .i64 x5_1 ∧ Aside0 (abacuslaw21_sameTexts.l0 kq l0 l1 x5_1 = some r) ∧ Aside0 (kq ≤ k) ∧ Drawn0 w w')
  case atStart => exact ⟨(0), (by first | rfl | (simp; done) | (simp [*]; done)), H', ⟨Nat.le_refl _⟩, by repeat (first | exact Drawn0.refl _ | apply Drawn0.step)⟩
  case round =>
   clear H'
   try clear c1
   try clear p2
   try clear c3
   try clear c3b0
   try clear c3b1
   try clear c3b2
   obtain ⟨x5_1, rfl, HA, HK1, ⟨m1, rfl⟩⟩ := hrel
   cases gk with
   | zero => exact absurd HA.out (by simp [abacuslaw21_sameTexts.l0])
   | succ k1 =>
    have H := HA.out
    clear HA
    simp only [abacuslaw21_sameTexts.l0] at H
    by_cases c4 : x5_1 < (l0.length : Int)
    ·rw [if_pos c4] at H
     have c4b0 : decide (x5_1 < (l0.length : Int)) = true := decide_eq_true c4
     clear c4
     by_cases c5 : 0 ≤ x5_1
     ·rw [if_pos c5] at H
      have c5b0 : decide (0 ≤ x5_1) = true := decide_eq_true c5
      clear c5
      by_cases c6 : x5_1 < (l1.length : Int)
      ·rw [if_pos c6] at H
       have c6b0 : decide (x5_1 < (l1.length : Int)) = true := decide_eq_true c6
       clear c6
       by_cases c7 : (rdOf ByteArray.empty l0 x5_1).toList = (rdOf ByteArray.empty l1 x5_1).toList
       ·rw [if_pos c7] at H
        have c7b0 : ((rdOf ByteArray.empty l0 x5_1).toList == (rdOf ByteArray.empty l1 x5_1).toList) = true := beq_iff_eq.mpr c7
        have c7b1 : ((rdOf ByteArray.empty l0 x5_1).toList != (rdOf ByteArray.empty l1 x5_1).toList) = false := bne_eq_false_iff_eq.mpr c7
        clear c7
        have H' := Aside0.mk H
        clear H
        have p119 : 0 ≤ (x5_1 : Int) := of_decide_eq_true (by first | (with_reducible assumption) | assumption)
        have q119 : x5_1 < (l0.length : Int) := of_decide_eq_true (by first | (with_reducible assumption) | assumption)
        obtain ⟨ad119, e119, hx119_0⟩ := Kd.at_string HR0.out x5_1 p119 q119
        cases e119
        replace p119 := eq_true p119
        replace q119 := eq_true q119
        have p120 : 0 ≤ (x5_1 : Int) := of_decide_eq_true (by first | (with_reducible assumption) | assumption)
        have q120 : x5_1 < (l1.length : Int) := of_decide_eq_true (by first | (with_reducible assumption) | assumption)
        obtain ⟨ad120, e120, hx120_0⟩ := Kd.at_string HR1.out x5_1 p120 q120
        cases e120
        replace p120 := eq_true p120
        replace q120 := eq_true q120
        go_wp2
        repeat (go_quiet (fail); try go_wp2)
        go_roundg k1
        case measure => have := HK1.out; omega
        case rel => exact ⟨(wrap64 (x5_1 + 1)), (by first | rfl | (simp; done) | (simp [*]; done)), H', ⟨by have := HK1.out; omega⟩, by repeat (first | exact Drawn0.refl _ | apply Drawn0.step)⟩
       ·rw [if_neg c7] at H
        have c7b0 : ((rdOf ByteArray.empty l0 x5_1).toList == (rdOf ByteArray.empty l1 x5_1).toList) = false := beq_eq_false_iff_ne.mpr c7
        have c7b1 : ((rdOf ByteArray.empty l0 x5_1).toList != (rdOf ByteArray.empty l1 x5_1).toList) = true := bne_iff_ne.mpr c7
        obtain rfl := Option.some.inj H
        have p119 : 0 ≤ (x5_1 : Int) := of_decide_eq_true (by first | (with_reducible assumption) | assumption)
        have q119 : x5_1 < (l0.length : Int) := of_decide_eq_true (by first | (with_reducible assumption) | assumption)
        obtain ⟨ad119, e119, hx119_0⟩ := Kd.at_string HR0.out x5_1 p119 q119
        cases e119
        replace p119 := eq_true p119
        replace q119 := eq_true q119
        have p120 : 0 ≤ (x5_1 : Int) := of_decide_eq_true (by first | (with_reducible assumption) | assumption)
        have q120 : x5_1 < (l1.length : Int) := of_decide_eq_true (by first | (with_reducible assumption) | assumption)
        obtain ⟨ad120, e120, hx120_0⟩ := Kd.at_string HR1.out x5_1 p120 q120
        cases e120
        replace p120 := eq_true p120
        replace q120 := eq_true q120
        go_wp2
        repeat (go_quiet (fail); try go_wp2)
        go_ret
        exact ⟨by first | rfl | (simp; done) | (simp [*]; done), by repeat (first | exact Drawn0.refl _ | apply Drawn0.step)⟩
      ·rw [if_neg c6] at H
       exact absurd H (by simp)
     ·rw [if_neg c5] at H
      exact absurd H (by simp)
    ·rw [if_neg c4] at H
     have c4b0 : decide (x5_1 < (l0.length : Int)) = false := decide_eq_false c4
     clear c4
     obtain rfl := Option.some.inj H
     go_wp2
     repeat (go_quiet (fail); try go_wp2)
     go_ret
     exact ⟨by first | rfl | (simp; done) | (simp [*]; done), by repeat (first | exact Drawn0.refl _ | apply Drawn0.step)⟩
 ·rw [if_neg c3] at H
  have c3b0 : ((l0.length : Int) == (l1.length : Int)) = false := beq_eq_false_iff_ne.mpr c3
  have c3b1 : ((l0.length : Int) != (l1.length : Int)) = true := bne_iff_ne.mpr c3
  have c3b2 : (l0.length == l1.length) = false := by first | simpa using c3 | (simp at c3 ⊢; omega)
  obtain rfl := Option.some.inj H
  go_enter Tryz.func12, Tryz.ntmps12
  go_wp2
  repeat (go_quiet (fail); try go_wp2)
  go_ret
  exact ⟨by first | rfl | (simp; done) | (simp [*]; done), by repeat (first | exact Drawn0.refl _ | apply Drawn0.step)⟩
end Go.Proofs.YtahdkpoihpcfnaaGreatDoor.PD
end

section
set_option linter.unusedVariables false
set_option linter.unusedSimpArgs false
namespace Go.Proofs.YtahdkpoihpcfnaaGreatDoor.Flat
open Go Go.RowKit Go.Proofs.YtahdkpoihpcfnaaGreatDoorW.PrintWords
structure Flat {α : Type} (d : Kd α) (enc : α → List Value) : Prop where
 len : ∀ x, (enc x).length = d.sz
 pos : 0 < d.sz
 one : ∀ x u, u ∈ enc x → u.oneCell' = true
 K : ∀ {w x cs}, d.K w x cs → cs = enc x
 M : ∀ w base ok x, d.M w base ok x (enc x)
section
variable {α : Type} {d : Kd α} {enc : α → List Value}
theorem reps_flat {R : α → List Value → Prop} (hR : ∀ x cs, R x cs → cs = enc x) {size : Nat} (hl : ∀ x, (enc x).length = size) : ∀ {xs : List α} {cs : List Value}, Reps R size xs cs → cs = xs.flatMap enc
 | [], cs, h => by
  have := h.1
  simp at this
  simp [this]
 | x :: xs, cs, h => by
  have h0 := hR _ _ (h.2 0 x rfl)
  rw [Nat.zero_mul, List.drop_zero] at h0
  have hr : Reps R size xs (cs.drop size) := by
   refine ⟨by rw [List.length_drop, h.1, List.length_cons, Nat.succ_mul]; omega, fun j p hp => ?_⟩
   have := h.2 (j + 1) p (by simpa using hp)
   rw [List.drop_drop]
   rwa [Nat.succ_mul, Nat.add_comm] at this
  have ih := reps_flat hR hl hr
  rw [List.flatMap_cons, ← ih, ← h0, List.take_append_drop]
theorem flat_length {n : Nat} (hl : ∀ x, (enc x).length = n) : ∀ xs : List α, (xs.flatMap enc).length = xs.length * n
 | [] => by simp
 | x :: xs => by rw [List.flatMap_cons, List.length_append, hl, flat_length hl xs, List.length_cons, Nat.succ_mul, Nat.add_comm]
theorem flat_at {n : Nat} (hl : ∀ x, (enc x).length = n) : ∀ (xs : List α) (j : Nat) (x : α), xs[j]? = some x → ((xs.flatMap enc).drop (j * n)).take n = enc x
 | [], j, x, h => by simp at h
 | y :: xs, 0, x, h => by
  have : y = x := by simpa using h
  subst this
  rw [Nat.zero_mul, List.drop_zero, List.flatMap_cons, List.take_left' (hl y)]
 | y :: xs, j + 1, x, h => by
  have ih := flat_at hl xs j x (by simpa using h)
  rw [List.flatMap_cons, Nat.succ_mul, Nat.add_comm, ← List.drop_drop, List.drop_left' (hl y)]
  exact ih
theorem flat_reps {R : α → List Value → Prop} {size : Nat} (hl : ∀ x, (enc x).length = size) (hR : ∀ x, R x (enc x)) (xs : List α) : Reps R size xs (xs.flatMap enc) :=
 ⟨flat_length hl xs, fun j x hx => by rw [flat_at hl xs j x hx]; exact hR x⟩
theorem flat_take {n : Nat} (hl : ∀ x, (enc x).length = n) (k : Nat) (xs : List α) : (xs.flatMap enc).take (k * n) = (xs.take k).flatMap enc := by
 induction xs generalizing k with
 | nil => simp
 | cons x xs ih =>
  cases k with
  | zero => simp
  | succ k =>
   rw [List.take_succ_cons, List.flatMap_cons, List.flatMap_cons, Nat.succ_mul, Nat.add_comm, List.take_append, hl, Nat.add_sub_cancel_left, ih, List.take_of_length_le (by rw [hl]; omega)]
theorem flat_drop {n : Nat} (hl : ∀ x, (enc x).length = n) (k : Nat) (xs : List α) : (xs.flatMap enc).drop (k * n) = (xs.drop k).flatMap enc := by
 induction xs generalizing k with
 | nil => simp
 | cons x xs ih =>
  cases k with
  | zero => simp
  | succ k => rw [List.drop_succ_cons, List.flatMap_cons, Nat.succ_mul, Nat.add_comm, ← List.drop_drop, List.drop_left' (hl x), ih]
variable {e base : Nat} {ok : Nat → Prop} {w W : World} {v : Value} {xs ys : List α}
theorem own_of (F : Flat d enc) (h : d.R e w base ok v xs) : w.ownsRow base e d.sz v xs.length (xs.flatMap enc) := by
 obtain ⟨_, inner, ho, hr⟩ := h
 rw [reps_flat (enc := enc) (fun x cs hm => F.K (d.K_of_M hm)) F.len hr] at ho
 exact ho
theorem of_own (F : Flat d enc) (h : w.ownsRow base e d.sz v xs.length (xs.flatMap enc)) (hok : ∀ k, v.ownBlock = some k → ok k) : d.R e w base ok v xs :=
 ⟨hok, _, h, flat_reps F.len (fun x => F.M _ _ _ x) xs⟩
theorem C_cells (F : Flat d enc) {A : Option Addr} {n : Nat} (h : d.C w A n xs) (hp : 0 < n) : ∃ ad, A = some ad ∧ ∀ j u, (xs.flatMap enc)[j]? = some u → w.cell? (ad.add j) = some u := by
 obtain ⟨ad, hA, hc⟩ := h.2.2 hp
 refine ⟨ad, hA, fun j u hu => ?_⟩
 have hlt : j < (xs.flatMap enc).length := by
  rcases Nat.lt_or_ge j (xs.flatMap enc).length with h | h
  ·exact h
  ·rw [List.getElem?_eq_none h] at hu; cases hu
 rw [flat_length F.len] at hlt
 have hq : j / d.sz < xs.length := Nat.div_lt_of_lt_mul (by rwa [Nat.mul_comm] at hlt)
 obtain ⟨c, hcl, hK, hcc⟩ := hc (j / d.sz) _ (List.getElem?_eq_getElem hq)
 have hce := F.K hK
 have hat := flat_at F.len xs (j / d.sz) _ (List.getElem?_eq_getElem hq)
 have hm := hcc (j % d.sz) u (by
  rw [hce, ← hat, List.getElem?_take, if_pos (Nat.mod_lt _ F.pos), List.getElem?_drop, Nat.mul_comm, Nat.div_add_mod]
  exact hu)
 rwa [Nat.mul_comm, Nat.div_add_mod] at hm
theorem run_copy_wide {P : Program} (w : World) (dT sT ty elem : TypeId) (g dLen dCap : Nat) (a : Addr) (sLen sCap size : Nat) (cur : Array Value) (t : TypeId) (cs : List Value)
  (hu : P.underlying dT = some (.slice elem)) (hs : (P.info? elem).map (·.size) = some size)
  (hg : w.heap[g]? = some (.cells cur t (0, 0))) (hn : cs.length = Nat.min sLen dLen * size)
  (hsrc : ∀ j v, cs[j]? = some v → w.cell? (a.add j) = some v) (hfit : cs.length ≤ cur.size) (h1 : ∀ v ∈ cs, v.oneCell' = true) :
  (Builtin.copy_ #[dT, sT] ty #[.slice (some ⟨g, 0, none⟩) dLen dCap, .slice (some a) sLen sCap]).run P w =
   .ok (goInt (Nat.min sLen dLen)) (w.setRow g (cs ++ cur.toList.drop cs.length).toArray) := by
 have hl := run_loadCells_list (P := P) w a cs hsrc
 have hst := run_storeCells_at P g 0 t cs 0 cur w hg (by simpa using hfit) h1
 cases hq : P.info? elem with
 | none => simp [hq] at hs
 | some i =>
  have hi : i.size = size := by simpa [hq] using hs
  simp only [Nat.zero_add, List.take_zero, List.nil_append] at hst
  simp [Builtin.copy_, run_underlying hu, Builtin.lenOf, Builtin.firstCells, sizeOf, typeInfo, hq, hi, ← hn, hl, hst]
theorem run_copy_zero {P : Program} (w : World) (dT sT ty elem : TypeId) (d a : Option Addr) (dLen dCap sLen sCap : Nat) (hu : P.underlying dT = some (.slice elem)) {size : Nat} (hs : (P.info? elem).map (·.size) = some size) (hn : Nat.min sLen dLen = 0) :
  (Builtin.copy_ #[dT, sT] ty #[.slice d dLen dCap, .slice a sLen sCap]).run P w = .ok (goInt 0) w := by
 cases hq : P.info? elem with
 | none => simp [hq] at hs
 | some i =>
  have hl : ∀ (x : Addr), (loadCells x 0).run P w = .ok #[] w := fun x => by simpa using run_loadCells_list (P := P) w x [] (by simp)
  cases d <;> cases a <;> simp [Builtin.copy_, run_underlying hu, Builtin.lenOf, Builtin.firstCells, sizeOf, typeInfo, hq, hn, storeCells, hl]
theorem run_copy_flat {P : Program} (F : Flat d enc) (t t' ty : TypeId) (ht : P.underlying t = some (.slice e)) (hinfo : (P.info? e).map (·.size) = some d.sz)
  {A : Option Addr} {m c : Nat} (HO : d.R e W base ok v xs) (HR : d.C W A m ys) :
  ∃ w1, (Builtin.copy_ #[t, t'] ty #[v, .slice A m c]).run P W = .ok (goInt ((min m xs.length : Nat) : Int)) w1 ∧ d.R e w1 base ok v (ys.take (min m xs.length) ++ xs.drop (min m xs.length)) ∧ W.grownBy w1 v.ownBlock := by
 have hm : ys.length = m := HR.1
 have hown := own_of F HO
 rcases Nat.eq_zero_or_pos (min m xs.length) with h0 | hp
 ·have hv : ∃ A' c', v = .slice A' xs.length c' := by
   rcases hown.2 with ⟨rfl, hx⟩ | ⟨g, cap, cur, rfl, _⟩
   ·exact ⟨none, 0, by rw [hx]⟩
   ·exact ⟨_, cap, rfl⟩
  obtain ⟨A', c', hv⟩ := hv
  refine ⟨W, ?_, by rw [h0, List.take_zero, List.drop_zero, List.nil_append]; exact HO, World.grownBy.refl W _⟩
  rw [h0, hv]
  exact run_copy_zero W t t' ty e A' A xs.length c' m c ht hinfo h0
 ·obtain ⟨ad, hA, hc⟩ := C_cells F HR (by omega)
  rcases hown.2 with ⟨_, hx0⟩ | ⟨g, cap, cur, hv, hb, hh, hnc, hcm, hcs, htake⟩
  ·omega
  have hkl : ((ys.take (min m xs.length)).flatMap enc).length = min m xs.length * d.sz := by rw [flat_length F.len, List.length_take, hm]; congr 1; omega
  have hkx : min m xs.length * d.sz ≤ xs.length * d.sz := Nat.mul_le_mul_right _ (by omega)
  have hxc : xs.length * d.sz ≤ cap * d.sz := Nat.mul_le_mul_right _ hnc
  have hone : ∀ u ∈ (ys.take (min m xs.length)).flatMap enc, u.oneCell' = true := by
   intro u hu
   obtain ⟨x, _, hx⟩ := List.mem_flatMap.1 hu
   exact F.one x u hx
  have hr := run_copy_wide (P := P) W t t' ty e g xs.length cap ad m c d.sz cur e ((ys.take (min m xs.length)).flatMap enc) ht hinfo hh hkl
   (fun j u hu => hc j u (by
    rw [← flat_take F.len] at hu
    have hj : j < min m xs.length * d.sz := by
     rcases Nat.lt_or_ge j (min m xs.length * d.sz) with h | h
     ·exact h
     ·rw [List.getElem?_take, if_neg (by omega)] at hu; cases hu
    rwa [List.getElem?_take, if_pos hj] at hu)) (by rw [hkl, hcs]; omega) hone
  refine ⟨_, by rw [hv, hA]; exact hr, of_own F ?_ HO.1, ?_⟩
  ·have hlen : (ys.take (min m xs.length) ++ xs.drop (min m xs.length)).length = xs.length := by rw [List.length_append, List.length_take, List.length_drop]; omega
   rw [hlen]
   refine ⟨by rw [flat_length F.len, hlen], .inr ⟨g, cap, _, hv, hb, setRow_heap W g cur _ e (0, 0) hh, hnc, hcm, ?_, ?_⟩⟩
   ·simp only [List.size_toArray, List.length_append, List.length_drop, Array.length_toList]
    rw [hkl, hcs]; omega
   ·rw [List.flatMap_append]
    simp only []
    rw [List.take_append, hkl, List.take_of_length_le (by rw [hkl]; exact hkx)]
    congr 1
    rw [← flat_drop F.len, ← htake, List.drop_take]
  ·refine ⟨rfl, rfl, rfl, by simp [World.setRow], fun k _ hk => setRow_other W g k _ (fun he => hk (by rw [hv, he]; simp [Value.ownBlock]))⟩
theorem R_copy_flat {P : Program} {ops : Array Oper} {rest : List Oper} {o : Oper} {a : Act} {Q : Exit → Act → World → Prop} (F : Flat d enc) {w0 : World} (base : Nat) (hgd : o.guard = none) (s x : Operand) (t t' e : TypeId)
  (ho : o.op = .call { callee := .builtin .copy, args := #[s, x], argTypes := #[t, t'] }) (ht : P.underlying t = some (.slice e)) (hinfo : (P.info? e).map (·.size) = some d.sz)
  (v : Value) (xs ys : List α) (A : Option Addr) (m c : Nat) (ok : Nat → Prop) (hs : a.eval s = v) (hx : a.eval x = .slice A m c)
  (HO : d.R e W base ok v xs) (HR : d.C W A m ys) (HB : Below base w0 W) (hbase : base ≤ W.heap.size)
  (h : ∀ w1, d.R e w1 base ok v (ys.take (min m xs.length) ++ xs.drop (min m xs.length)) → Below base w0 w1 → W.grownBy w1 v.ownBlock → wpList P ops Q rest (a.put o.dst (.int .i64 ((min m xs.length : Nat) : Int))) w1) :
  wpList P ops Q (o :: rest) a W := by
 obtain ⟨w1, hr, hrow, hg⟩ := run_copy_flat (P := P) F t t' o.type ht hinfo HO HR
 refine wpList_plain hgd fun K hK => ?_
 unfold Oper.wp execOp
 simp only [ho, resolve, invoke, builtin, Sem.run_bind, Sem.run_pure, Result.andThen_ok, List.map_toArray, List.map_cons, List.map_nil, hs, hx]
 rw [hr]
 exact hK _ _ (h w1 hrow (HB.grown hg hbase (own_base (own_of F HO))) hg)
end
end Go.Proofs.YtahdkpoihpcfnaaGreatDoor.Flat
end

section
namespace Go.Proofs.YtahdkpoihpcfnaaGreatDoor.CutsP
open Go.Lib
def cutsFrom (s sep : List UInt8) : Nat → Nat → List (Nat × Nat)
  | 0, f => [(f, s.length)]
  | n + 1, f => if index (s.drop f) sep < 0 then [(f, s.length)] else (f, f + (index (s.drop f) sep).toNat) :: cutsFrom s sep n (f + (index (s.drop f) sep).toNat + sep.length)
def cutsL (s sep : List UInt8) : List (Nat × Nat) := cutsFrom s sep (s.length + 1) 0
theorem index_room {s sep : List UInt8} (h : ¬ index s sep < 0) : (index s sep).toNat + sep.length ≤ s.length := by
  induction s with
  | nil =>
    unfold index at h ⊢
    split at h
    · rename_i he
      have : sep = [] := by simpa using he
      subst this; simp
    · exact absurd (by decide) h
  | cons b l ih =>
    unfold index at h ⊢
    split
    · rename_i hp
      have := (List.isPrefixOf_iff_prefix.1 hp).length_le
      simpa using this
    · rename_i hp
      rw [if_neg hp] at h
      split
      · rename_i he
        rw [if_pos he] at h
        exact absurd (by decide) h
      · rename_i he
        rw [if_neg he] at h
        have hge := index_ge l sep
        have hne : index l sep ≠ -1 := by simpa using he
        have h1 := ih (by omega)
        have : (index l sep + 1).toNat = (index l sep).toNat + 1 := by omega
        rw [this]
        simp only [List.length_cons]
        omega
theorem cutsFrom_le (s sep : List UInt8) : ∀ (n f : Nat), f ≤ s.length → ∀ p ∈ cutsFrom s sep n f, f ≤ p.1 ∧ p.1 ≤ p.2 ∧ p.2 ≤ s.length
  | 0, f, hf, p, hp => by
    simp [cutsFrom] at hp; subst hp; exact ⟨Nat.le_refl _, hf, Nat.le_refl _⟩
  | n + 1, f, hf, p, hp => by
    unfold cutsFrom at hp
    split at hp
    · simp at hp; subst hp; exact ⟨Nat.le_refl _, hf, Nat.le_refl _⟩
    · rename_i hi
      have hr := index_room hi
      simp only [List.length_drop] at hr
      rcases List.mem_cons.1 hp with rfl | hp
      · exact ⟨Nat.le_refl _, Nat.le_add_right _ _, by simp only; omega⟩
      · have := cutsFrom_le s sep n _ (by omega) p hp
        omega
theorem cutsFrom_length (s sep : List UInt8) (hsep : sep ≠ []) : ∀ (n f : Nat), f ≤ s.length → (cutsFrom s sep n f).length ≤ s.length - f + 1
  | 0, f, hf => by simp [cutsFrom]
  | n + 1, f, hf => by
    unfold cutsFrom
    split
    · simp
    · rename_i hi
      have hr := index_room hi
      simp only [List.length_drop] at hr
      have hl : 0 < sep.length := List.length_pos_iff.2 hsep
      have := cutsFrom_length s sep hsep n (f + (index (s.drop f) sep).toNat + sep.length) (by omega)
      simp only [List.length_cons]
      omega
def piece (s : List UInt8) (p : Nat × Nat) : List UInt8 := (s.take p.2).drop p.1
def keepRec (s : List UInt8) : List (Nat × Nat) → List (Nat × Nat)
  | [] => []
  | p :: ps => if p.2 = s.length ∧ p.1 = p.2 then [] else p :: keepRec s ps
def linesP (s sep : List UInt8) : List (List UInt8) := (keepRec s (cutsL s sep)).map (piece s)
end Go.Proofs.YtahdkpoihpcfnaaGreatDoor.CutsP
end

section
set_option linter.unusedVariables false
set_option linter.unusedSimpArgs false
namespace Go.Proofs.YtahdkpoihpcfnaaGreatDoor.Cuts
open Go.RowKit Go.Shelf Go.Proofs.YtahdkpoihpcfnaaGreatDoor.CutsP
attribute [local go_sem] Oper.semAt_some
theorem piece_text (s : ByteArray) (a b : Nat) : (s.extract a b).data.toList = (s.data.toList.take b).drop a := by
 simp [ByteArray.data_extract]
 rw [List.drop_take]
theorem drop_text (s : ByteArray) (fn : Nat) : (s.extract fn s.size).data.toList = s.data.toList.drop fn := by
 rw [piece_text, List.take_of_length_le]
 simp
theorem cuts_in (n : Nat) (s sep : ByteArray) (w : World) :
  CallsIn Fence.wide n Tryz.prog 24 #[.string s, .string sep] w fun e w' => e = .returned (.func (.func 43) #[] #[.pointer (some ⟨w.heap.size, 0, none⟩), .pointer (some ⟨w.heap.size + 1, 0, none⟩)]) ∧ w' = (w.alloc (.cells #[.string s] 9)).alloc (.cells #[.string sep] 9) := by
 refine callsIn_of_wp Tryz.func24 rfl trivial ?_ rfl
 simp only [Tryz.ntmps24, List.size_toArray, List.length_cons, List.length_nil, Nat.reduceAdd, Nat.reduceSub, Array.replicate_succ, Array.replicate_zero, List.push_toArray, List.append_toArray, List.nil_append, List.cons_append]
 gi_wp2
 go_ret
 exact ⟨rfl, rfl⟩
def Keeps (S : Nat → Prop) (W W' : World) : Prop := ∀ b, S b → W'.heap[b]? = W.heap[b]?
theorem Keeps.refl (S : Nat → Prop) (W : World) : Keeps S W W := fun _ _ => rfl
theorem Keeps.trans {S : Nat → Prop} {A B C : World} (h : Keeps S A B) (k : Keeps S B C) : Keeps S A C := fun b hb => (k b hb).trans (h b hb)
theorem Keeps.cell {S : Nat → Prop} {A B : World} (h : Keeps S A B) {b : Nat} (hb : S b) : B.cell? ⟨b, 0, none⟩ = A.cell? ⟨b, 0, none⟩ := by simp only [World.cell?, h b hb]
theorem Keeps.put {S : Nat → Prop} {m : Nat} (hS : ∀ b, S b → b < m) (W : World) (l : Nat) (o : Obj) (hl : m ≤ l) : Keeps S W (W.putObj l o) := fun b hb => by
 have := hS b hb
 simp only [World.putObj]
 rw [Array.getElem?_setIfInBounds_ne (by omega)]
def encs (x : Nat × Nat) : Array Value := #[.int .i64 (x.1 : Int), .int .i64 (x.2 : Int)]
set_option maxRecDepth 100000 in
set_option maxHeartbeats 2000000 in
theorem cuts1_in (n : Nat) (hn : 1 ≤ n) (l Bt Bs : Nat) (S : Nat → Prop) (s sep : ByteArray) (hs : s.size ≤ 1048576) (hq : sep.size ≤ 1048576) (hsep : sep.data.toList ≠ []) (hBt : S Bt) (hBs : S Bs) (hg0 : S 0) (m : Int) (J Jx : List (Nat × Nat) → World → Prop)
  (hY : ∀ pre x W, J pre W → x.1 ≤ x.2 → x.2 ≤ s.size → pre.length < (cutsL s.data.toList sep.data.toList).length → YieldAt Fence.wide (n - 1) Tryz.prog l (encs x) W fun e W' =>
   (e = .returned (.bool true) ∧ J (pre ++ [x]) W' ∧ Keeps S W W') ∨ (e = .returned (.bool false) ∧ Jx (pre ++ [x]) W'))
  (W : World) (hA : ∀ ys W', J ys W' → J ys W'.drew) (hct : W.cell? ⟨Bt, 0, none⟩ = some (.string s)) (hcs : W.cell? ⟨Bs, 0, none⟩ = some (.string sep)) (hml : W.cell? ⟨0, 0, none⟩ = some (.int .i64 m)) (h0 : J [] W) :
  CallsIn Fence.wide n Tryz.prog 43 #[.func (.yield l) #[] #[], .pointer (some ⟨Bt, 0, none⟩), .pointer (some ⟨Bs, 0, none⟩)] W fun e W' => (∃ v, e = .returned v) ∧
   ((∃ ys, ys = cutsL s.data.toList sep.data.toList ∧ J ys W') ∨ (∃ pre, pre <+: cutsL s.data.toList sep.data.toList ∧ Jx pre W')) := by
 refine callsIn_of_wp Tryz.func43 rfl trivial ?_ rfl
 simp only [Tryz.ntmps43, List.size_toArray, List.length_cons, List.length_nil, Nat.reduceAdd, Nat.reduceSub, Array.replicate_succ, Array.replicate_zero, List.push_toArray, List.append_toArray, List.nil_append, List.cons_append]
 gi_wp2
 gi_loopw [4] (fun f wr => ∃ (k fn : Nat) (pre : List (Nat × Nat)), f = .int .i64 fn ∧ fn ≤ s.size ∧ s.size - fn < k ∧ Hid (cutsL s.data.toList sep.data.toList = pre ++ cutsFrom s.data.toList sep.data.toList k fn) ∧ J pre wr ∧ Keeps S W wr)
  (fun f _ => s.size - (intOf f).toNat)
 case atStart => exact ⟨s.data.toList.length + 1, 0, [], rfl, Nat.zero_le _, by rw [Array.length_toList]; show s.size - 0 < s.size + 1; omega, rfl, h0, Keeps.refl _ _⟩
 case round =>
  obtain ⟨k, fn, pre, rfl, hfn, hk, hcut, hJs, hnx⟩ := hrel
  obtain ⟨k, rfl⟩ : ∃ j, k = j + 1 := ⟨k - 1, by omega⟩
  have hct' := (hnx.cell hBt).trans hct
  have hcs' := (hnx.cell hBs).trans hcs
  have hml' := (hnx.cell hg0).trans hml
  obtain ⟨I, hI⟩ : ∃ I : Int, Lib.index (s.data.toList.drop fn) sep.data.toList = I := ⟨_, rfl⟩
  have h125 : Fence.wide.fn 34 := trivial
  have hmlD : wr.drew.cell? ⟨0, 0, none⟩ = some (.int .i64 m) := hml'
  have hsl := drop_text s fn
  have hcall := fun w hm => Tryz.strings_Index (s.extract fn s.size) sep m w (by rw [ByteArray.size_extract]; omega) hm
  rw [hsl] at hcall
  have HI : Hid (Lib.index (s.data.toList.drop fn) sep.data.toList = I) := hI
  have Hroom : Hid (0 ≤ I → fn + I.toNat + sep.size ≤ s.size) := by
   intro h0
   have := index_room (s := s.data.toList.drop fn) (sep := sep.data.toList) (by rw [hI]; omega)
   rw [hI, List.length_drop, Array.length_toList, Array.length_toList] at this
   have h1 : s.data.size = s.size := rfl
   have h2 : sep.data.size = sep.size := rfl
   omega
  rw [hI] at hcall
  clear hI hsl
  by_cases hneg : I < 0
  ·have hb : decide (I < 0) = true := by simpa using hneg
   have hdone : cutsL s.data.toList sep.data.toList = pre ++ [(fn, s.size)] := by
    have HI' : Lib.index (s.data.toList.drop fn) sep.data.toList < 0 := by rw [HI.out]; exact hneg
    rw [hcut.out]; simp only [cutsFrom]; rw [if_pos HI']; simp
   obtain ⟨fnn, tmps, assign, body, hy, hR⟩ := hY pre (fn, s.size) wr.drew (hA _ _ hJs) hfn (Nat.le_refl _) (by rw [hdone]; simp)
   have HD : Hid (cutsL s.data.toList sep.data.toList = pre ++ [(fn, s.size)]) := hdone
   clear hdone
   simp only [encs] at hy
   gi_wp2
   gi_region_with (gi_at_call 34; refine callsIn_wide.2 ?_; refine (hcall _ hmlD).mono ?_; rintro e w1 ⟨rfl, rfl⟩)
   all_goals
    gi_wp2
    refine hR.mono ?_
    rintro e W3 (⟨rfl, hJ3, hk3⟩ | ⟨rfl, hJx3⟩)
    ·gi_wp2
     refine bodyPost_ret (results_none rfl _ _ _) rfl ?_
     exact ⟨⟨_, rfl⟩, .inl ⟨_, HD.out.symm, hJ3⟩⟩
    ·gi_wp2
     refine bodyPost_ret (results_none rfl _ _ _) rfl ?_
     exact ⟨⟨_, rfl⟩, .inr ⟨_, by rw [HD.out]; exact List.prefix_refl _, hJx3⟩⟩
  ·have hb : decide (I < 0) = false := by simpa using hneg
   obtain ⟨i, rfl⟩ : ∃ i : Nat, I = i := ⟨I.toNat, by omega⟩
   have hroom := Hroom.out (by omega)
   simp only [Int.toNat_natCast] at hroom
   have hstep : cutsL s.data.toList sep.data.toList = (pre ++ [(fn, fn + i)]) ++ cutsFrom s.data.toList sep.data.toList k (fn + i + sep.size) := by
    have HI' := HI.out
    rw [hcut.out]; simp only [cutsFrom]; rw [HI', if_neg hneg]; simp only [Int.toNat_natCast, List.append_assoc, List.cons_append, List.nil_append]
    simp
   obtain ⟨fnn, tmps, assign, body, hy, hR⟩ := hY pre (fn, fn + i) wr.drew (hA _ _ hJs) (Nat.le_add_right _ _) (by show fn + i ≤ s.size; omega) (by rw [hstep]; simp)
   have HD : Hid (cutsL s.data.toList sep.data.toList = (pre ++ [(fn, fn + i)]) ++ cutsFrom s.data.toList sep.data.toList k (fn + i + sep.size)) := hstep
   clear hstep
   simp only [encs] at hy
   simp only [Int.natCast_add] at hy
   gi_wp2
   gi_region_with (gi_at_call 34; refine callsIn_wide.2 ?_; refine (hcall _ hmlD).mono ?_; rintro e w1 ⟨rfl, rfl⟩)
   all_goals
    gi_wp2
    refine hR.mono ?_
    rintro e W3 (⟨rfl, hJ3, hk3⟩ | ⟨rfl, hJx3⟩)
    ·have hct3 : W3.cell? ⟨Bt, 0, none⟩ = some (.string s) := (hk3.cell hBt).trans hct'
     have hcs3 : W3.cell? ⟨Bs, 0, none⟩ = some (.string sep) := (hk3.cell hBs).trans hcs'
     gi_wp2
     go_roundw
     case rel => exact ⟨k, fn + i + sep.size, _, by simp [Int.natCast_add, Int.add_assoc], by omega, by have := List.length_pos_iff.2 hsep; rw [Array.length_toList] at this; have h2 : sep.data.size = sep.size := rfl; omega, HD, hJ3, hnx.trans hk3⟩
     case measure => have := List.length_pos_iff.2 hsep; rw [Array.length_toList] at this; have h2 : sep.data.size = sep.size := rfl; simp [intOf]; omega
    ·gi_wp2
     refine bodyPost_ret (results_none rfl _ _ _) rfl ?_
     exact ⟨⟨_, rfl⟩, .inr ⟨pre ++ [(fn, fn + i)], by rw [HD.out]; exact List.prefix_append _ _, hJx3⟩⟩
theorem grownDrew (w : World) (row : Option Nat) : w.grownBy w.drew row := ⟨rfl, rfl, rfl, Nat.le_refl _, fun _ _ _ => rfl⟩
abbrev Pc (s : ByteArray) := { p : Nat × Nat // p.1 ≤ p.2 ∧ p.2 ≤ s.size }
def vals {s : ByteArray} (l : List (Pc s)) : List (Nat × Nat) := l.map Subtype.val
theorem vals_length {s : ByteArray} (l : List (Pc s)) : (vals l).length = l.length := by simp [vals]
theorem cuts_stops (n : Nat) (hn : 1 ≤ n) (Bt Bs : Nat) (S : Nat → Prop) (s sep : ByteArray) (hs : s.size ≤ 1048576) (hq : sep.size ≤ 1048576) (hsep : sep.data.toList ≠ []) (hBt : S Bt) (hBs : S Bs) (hg0 : S 0) (m : Int) (w : World) (hS : ∀ b, S b → b < w.heap.size)
  (hct : w.cell? ⟨Bt, 0, none⟩ = some (.string s)) (hcs : w.cell? ⟨Bs, 0, none⟩ = some (.string sep)) (hml : w.cell? ⟨0, 0, none⟩ = some (.int .i64 m)) :
  SeqStopsK Fence.wide n Tryz.prog 43 #[.pointer (some ⟨Bt, 0, none⟩), .pointer (some ⟨Bs, 0, none⟩)] (fun x : Pc s => encs x.1) (Keeps S) (fun ys => vals ys = cutsL s.data.toList sep.data.toList) (fun pre => vals pre <+: cutsL s.data.toList sep.data.toList) (cutsL s.data.toList sep.data.toList).length w := fun l J Jx W hW hJ _ hY h0 => by
 have h := cuts1_in n hn l Bt Bs S s sep hs hq hsep hBt hBs hg0 m (fun ys W => ∃ zs : List (Pc s), vals zs = ys ∧ J zs W) (fun ys W => ∃ zs : List (Pc s), vals zs = ys ∧ Jx zs W)
  (by
   rintro _ x W1 ⟨zs, rfl, hz⟩ hx1 hx2 hlt
   obtain ⟨fn, tmps, assign, body, hy, hR⟩ := hY zs ⟨x, hx1, hx2⟩ W1 hz (by rwa [vals_length] at hlt)
   refine ⟨fn, tmps, assign, body, hy, hR.mono ?_⟩
   rintro e W2 (⟨he, hj, hk⟩ | ⟨he, hj⟩)
   ·exact .inl ⟨he, ⟨_, by simp [vals], hj⟩, hk⟩
   ·exact .inr ⟨he, ⟨_, by simp [vals], hj⟩⟩)
  W (fun ys W' ⟨zs, hz, h⟩ => ⟨zs, hz, hJ zs W' W'.drew none h (grownDrew W' none) (fun r e => by cases e)⟩)
  ((hW.cell (p := ⟨Bt, 0, none⟩) (hS _ hBt)).trans hct) ((hW.cell (p := ⟨Bs, 0, none⟩) (hS _ hBs)).trans hcs) ((hW.cell (p := ⟨0, 0, none⟩) (hS _ hg0)).trans hml) ⟨[], rfl, h0⟩
 refine h.mono ?_
 rintro e W' ⟨he, ⟨ys, rfl, zs, hz, hj⟩ | ⟨pre, hp, zs, rfl, hj⟩⟩
 ·exact ⟨he, .inl ⟨zs, hz, hj⟩⟩
 ·exact ⟨he, .inr ⟨zs, hp, hj⟩⟩
end Go.Proofs.YtahdkpoihpcfnaaGreatDoor.Cuts
end

section
set_option linter.unusedVariables false
set_option linter.unusedSimpArgs false
namespace Go.Proofs.YtahdkpoihpcfnaaGreatDoor.Lines
open Go.RowKit Go.Shelf Go.Proofs.YtahdkpoihpcfnaaGreatDoor.CutsP Go.Proofs.YtahdkpoihpcfnaaGreatDoor.Cuts
attribute [local go_sem] Oper.semAt_some
def last (s : List UInt8) (p : Nat × Nat) : Prop := p.2 = s.length ∧ p.1 = p.2
theorem keepRec_no (s : List UInt8) : ∀ (l r : List (Nat × Nat)), (∀ p ∈ l, ¬ last s p) → keepRec s (l ++ r) = l ++ keepRec s r
 | [], _, _ => rfl
 | p :: l, r, h => by
  have hp : ¬ (p.2 = s.length ∧ p.1 = p.2) := h p (by simp)
  simp only [List.cons_append, keepRec, if_neg hp, keepRec_no s l r (fun q hq => h q (by simp [hq]))]
theorem keepRec_stop (s : List UInt8) : ∀ (l r : List (Nat × Nat)), (∃ p ∈ l, last s p) → keepRec s (l ++ r) = keepRec s l
 | [], _, ⟨_, h, _⟩ => by simp at h
 | p :: l, r, ⟨q, hq, hl⟩ => by
  by_cases hp : p.2 = s.length ∧ p.1 = p.2
  ·simp only [List.cons_append, keepRec, if_pos hp]
  ·simp only [List.cons_append, keepRec, if_neg hp]
   rcases List.mem_cons.1 hq with rfl | hq
   ·exact absurd hl hp
   ·rw [keepRec_stop s l r ⟨q, hq, hl⟩]
theorem keepRec_length (s : List UInt8) : ∀ l, (keepRec s l).length ≤ l.length
 | [] => Nat.le_refl _
 | p :: l => by
  simp only [keepRec]
  split
  ·simp
  ·have := keepRec_length s l
   simp; omega
def got (s : ByteArray) (pre : List (Nat × Nat)) : List Value := (keepRec s.data.toList pre).map fun p => Value.string (s.extract p.1 p.2)
theorem vals_snoc {s : ByteArray} (l : List (Pc s)) (p : Pc s) : vals (l ++ [p]) = vals l ++ [p.1] := by simp [vals]
theorem got_last (s : ByteArray) (l : List (Nat × Nat)) (p : Nat × Nat) (hno : ∀ p ∈ l, ¬ last s.data.toList p) (hl : last s.data.toList p) : got s (l ++ [p]) = got s l := by
 have h1 : keepRec s.data.toList l = l := by
  have := keepRec_no s.data.toList l [] hno
  simpa [keepRec] using this
 have hl' : p.2 = s.data.toList.length ∧ p.1 = p.2 := hl
 simp only [got, keepRec_no _ _ _ hno, keepRec, if_pos hl', h1, List.append_nil]
theorem got_more (s : ByteArray) (l : List (Nat × Nat)) (p : Nat × Nat) (hno : ∀ p ∈ l, ¬ last s.data.toList p) (hl : ¬ last s.data.toList p) : got s (l ++ [p]) = got s l ++ [.string (s.extract p.1 p.2)] := by
 have h1 : keepRec s.data.toList l = l := by
  have := keepRec_no s.data.toList l [] hno
  simpa [keepRec] using this
 have hl' : ¬ (p.2 = s.data.toList.length ∧ p.1 = p.2) := hl
 simp only [got, keepRec_no _ _ _ hno, keepRec, if_neg hl', h1, List.map_append, List.map_cons, List.map_nil]
theorem got_length (s : ByteArray) (l : List (Nat × Nat)) : (got s l).length ≤ l.length := by
 simp only [got, List.length_map]; exact keepRec_length _ _
theorem suff_ {T G : Prop} (h : T → G) (t : T) : G := h t
structure Aside (p : Prop) : Prop where
 mk :: out : p
theorem own_drew {w : World} {base : Nat} {e : TypeId} {size n : Nat} {v : Value} {xs : List Value} (h : w.ownsRow base e size v n xs) : w.drew.ownsRow base e size v n xs := h
theorem own_lower {w : World} {base base' : Nat} {e : TypeId} {size n : Nat} {v : Value} {xs : List Value} (h : w.ownsRow base e size v n xs) (hle : base' ≤ base) : w.ownsRow base' e size v n xs := by
 rcases h with ⟨h1, h2 | ⟨g, cap, cur, he, hb, r⟩⟩
 ·exact ⟨h1, .inl h2⟩
 ·exact ⟨h1, .inr ⟨g, cap, cur, he, Nat.le_trans hle hb, r⟩⟩
theorem own_far {w : World} {base : Nat} {e : TypeId} {size n : Nat} {v : Value} {xs : List Value} (h : w.ownsRow base e size v n xs) {b : Nat} (hb : b < base) : some b ≠ v.ownBlock := by
 rcases h with ⟨_, ⟨rfl, _⟩ | ⟨g, cap, cur, rfl, hg, _⟩⟩
 ·simp [Value.ownBlock]
 ·simp only [Value.ownBlock, ne_eq, Option.some.injEq]; omega
theorem infoS : (Tryz.prog.info? 9).map (fun i => (i.zero, i.size, i.bytes)) = some (some (.string ByteArray.empty), 1, 16) := by kernel_rfl
theorem wpIn_append_own {F : Fence} {n : Nat} {P : Program} (w : World) {o : Oper} {a : Act} {K : Act → World → Prop} {Q : Exit → Act → World → Prop}
  (s x : Operand) (t : TypeId) (hop : o.op = Op.call { callee := Callee.builtin Builtin.append, args := #[s, x], argTypes := #[t, t] })
  (base : Nat) (e : TypeId) (i : TypeInfo) (z : Value) (size bytes : Nat) (h1 : P.underlying t = some (.slice e)) (h2 : P.info? e = some i) (h3 : i.zero = some z) (h4 : i.size = size) (h5 : i.bytes = bytes) (h6 : z.cells.size = size) (h7 : 0 < size)
  (v : Value) (k : Nat) (xs : List Value) (hs : a.eval s = v) (hown : w.ownsRow base e size v k xs) (ad : Addr) (m c : Nat) (news : List Value) (hx : a.eval x = .slice (some ad) m c) (hn : news.length = m * size)
  (hc : ∀ j u, news[j]? = some u → w.cell? (ad.add j) = some u) (h1c : ∀ u ∈ news, u.oneCell' = true) (b1 : k + m ≤ maxLen) (b2 : (k + m) * bytes ≤ 140737488355328) (b3 : base ≤ w.heap.size)
  (hK : ∀ v' w', w'.ownsRow base e size v' (k + m) (xs ++ news) → w.grownBy w' v.ownBlock → (v' = .slice none 0 0 ↔ v = .slice none 0 0 ∧ m = 0) → K (a.put o.dst v') w') :
  o.wpIn F n P a w K Q := by
 obtain ⟨v', w', hrun, r1, r2, r3⟩ := run_append_own (P := P) w base t o.type e i z size bytes h1 h2 h3 h4 h5 h6 h7 v k xs hown ad m c news hn hc h1c b1 b2 b3
 unfold Oper.wpIn
 refine ⟨?_, ?_⟩
 ·simp [Oper.about, hop, resolve, Target.leads, Sem.run_pure]
 ·rw [Oper.semAt_plain F _ _ (by rw [hop]; intro c hc'; cases hc')]
  simp [execOp, hop, resolve, invoke, builtin, hs, hx, hrun, Result.andThen]
  exact hK v' w' r1 r2 r3
theorem boxed_own {β : Type} (B : Nat) (t : TypeId) (v : Value) (B0 : Nat) (hB : B < B0) : OwnFrom B0 (fun (_ : β) W => Boxed W B t v) := fun _ W W' row hs hg hr => hs.kept hg (fun e => by
 have := (hr B e.symm).1
 omega)
set_option maxRecDepth 100000 in
set_option maxHeartbeats 2000000 in
theorem Lines_in (n : Nat) (hn : 3 ≤ n) (s sep : ByteArray) (hs : s.size ≤ 1048576) (hq : sep.size ≤ 1048576) (hsep : sep.toList ≠ []) (m : Int) (w : World) (hml : w.cell? ⟨0, 0, none⟩ = some (.int .i64 m)) :
  CallsIn Fence.wide n Tryz.prog 7 #[.string s, .string sep] w fun e w' => ∃ v, e = .returned v ∧ w'.ownsRow w.heap.size 9 1 v (got s (cutsL s.data.toList sep.data.toList)).length (got s (cutsL s.data.toList sep.data.toList)) ∧ Below w.heap.size w w' := by
 have h1 : 1 ≤ n := by omega
 have hsep0 : (sep.toList == ([] : List UInt8)) = false := by simpa using hsep
 have hsep' : sep.data.toList ≠ [] := by rwa [Lib.toList_data] at hsep
 have hgs : 0 < w.heap.size := by
  cases hx : w.heap[0]? with
  | none => simp [World.cell?, hx] at hml
  | some o => exact (Array.getElem?_eq_some_iff.1 hx).1
 refine callsIn_of_wp_marks Tryz.func7 rfl trivial ?_ rfl
 simp only [Tryz.ntmps7, List.size_toArray, List.length_cons, List.length_nil, Nat.reduceAdd, Nat.reduceSub, Array.replicate_succ, Array.replicate_zero, List.push_toArray, List.append_toArray, List.nil_append, List.cons_append]
 have hF : Fence.wide.fn 24 := trivial
 gi_wp2_with (gi_at_call 24; refine (cuts_in (n - 1) _ _ _).mono ?_; rintro e w' ⟨rfl, rfl⟩)
 have bT := ((((Boxed.new w 9 (.string s)).alloc (.cells #[.slice none 0 0] 23)).alloc (.cells #[.string s] 9)).alloc (.cells #[.string sep] 9))
 have bO := ((Boxed.new (w.alloc (.cells #[.string s] 9)) 23 (.slice none 0 0)).alloc (.cells #[.string s] 9)).alloc (.cells #[.string sep] 9)
 have b1 := (Boxed.new ((w.alloc (.cells #[.string s] 9)).alloc (.cells #[.slice none 0 0] 23)) 9 (.string s)).alloc (.cells #[.string sep] 9)
 have b2 := Boxed.new (((w.alloc (.cells #[.string s] 9)).alloc (.cells #[.slice none 0 0] 23)).alloc (.cells #[.string s] 9)) 9 (.string sep)
 simp only [World.size_alloc] at bO b1 b2
 have hB0 : Below w.heap.size w ((((w.alloc (.cells #[.string s] 9)).alloc (.cells #[.slice none 0 0] 23)).alloc (.cells #[.string s] 9)).alloc (.cells #[.string sep] 9)) := (((((Below.refl _ w).alloc (Nat.le_refl _) _).alloc (by simp) _).alloc (by simp; omega) _).alloc (by simp; omega) _)
 have hml0 := (hB0.cell (p := ⟨0, 0, none⟩) hgs).trans hml
 generalize hW0 : ((((w.alloc (.cells #[.string s] 9)).alloc (.cells #[.slice none 0 0] 23)).alloc (.cells #[.string s] 9)).alloc (.cells #[.string sep] 9)) = W0 at *
 have hsz : W0.heap.size = w.heap.size + 4 := by rw [← hW0]; simp
 clear hW0
 refine wpIn_rangeFunc_ownG rfl h1 (gf := 43) (lb := #[.pointer (some ⟨w.heap.size + 1 + 1, 0, none⟩), .pointer (some ⟨w.heap.size + 1 + 1 + 1, 0, none⟩)]) rfl trivial (enters_of Tryz.func43 (by kernel_rfl) rfl)
  (cuts_stops (n - 1) (by omega) _ _ (fun b => b = w.heap.size + 1 + 1 ∨ b = w.heap.size + 1 + 1 + 1 ∨ b = w.heap.size ∨ b = 0) s sep hs hq hsep' (.inl rfl) (.inr (.inl rfl)) (.inr (.inr (.inr rfl))) m W0 (by rintro b (rfl | rfl | rfl | rfl) <;> omega) b1.cell b2.cell hml0)
  Keeps.trans (fun W l o o' hl _ _ _ => Keeps.put (m := W0.heap.size) (by rintro b (rfl | rfl | rfl | rfl) <;> omega) W l o' hl) (Below.refl _ _) (fun _ => rfl)
  (fun pre W => ((∃ v, Boxed W (w.heap.size + 1) 23 v ∧ W.ownsRow (w.heap.size + 4) 9 1 v (got s (vals pre)).length (got s (vals pre)) ∧ ∀ p ∈ vals pre, ¬ last s.data.toList p) ∧ Below w.heap.size W0 W) ∧ Boxed W w.heap.size 9 (.string s))
  (fun c pre W => ((∃ v, Boxed W (w.heap.size + 1) 23 v ∧ W.ownsRow (w.heap.size + 4) 9 1 v (got s (vals pre)).length (got s (vals pre)) ∧ c = .exit 0 ∧ ∃ p ∈ vals pre, last s.data.toList p) ∧ Below w.heap.size W0 W) ∧ Boxed W w.heap.size 9 (.string s))
  (OwnFrom.and (OwnFrom.and (Own.from (holdsRow_own (w.heap.size + 4) (w.heap.size + 1) 23 9 1 (fun pre => (got s (vals pre)).length) (fun pre => got s (vals pre)) (fun pre _ => ∀ p ∈ vals pre, ¬ last s.data.toList p)) _) (ownFrom_below (by omega) (by omega))) (boxed_own _ _ _ _ (by omega)))
  (fun c => OwnFrom.and (OwnFrom.and (Own.from (holdsRow_own (w.heap.size + 4) (w.heap.size + 1) 23 9 1 (fun pre => (got s (vals pre)).length) (fun pre => got s (vals pre)) (fun pre _ => c = .exit 0 ∧ ∃ p ∈ vals pre, last s.data.toList p)) _) (ownFrom_below (by omega) (by omega))) (boxed_own _ _ _ _ (by omega)))
  ⟨⟨⟨_, bO, World.ownsRow_nil _ _ _ _, by simp [vals]⟩, Below.refl _ _⟩, bT⟩
  (fun (x : Pc s) => { tmps := #[.string s, .string sep, .pointer (some ⟨w.heap.size, 0, none⟩), undef, .slice none 0 0, .pointer (some ⟨w.heap.size + 1, 0, none⟩), .int .i64 (x.1.1 : Int), .int .i64 (x.1.2 : Int), .string sep, .bool false, undef, undef, undef, .string s, .string sep, .func (.func 43) #[] #[.pointer (some ⟨w.heap.size + 1 + 1, 0, none⟩), .pointer (some ⟨w.heap.size + 1 + 1 + 1, 0, none⟩)], .int .i64 (x.1.1 : Int), .int .i64 (x.1.2 : Int), undef, undef, undef, undef, undef, undef, undef, undef, undef, undef, undef, undef, undef, undef, undef, undef, undef], defers := [] }) ?assign ?body ?done ?stop
 case assign =>
  intro l x W K hK
  simp only [encs]
  gi_wp2
  exact hK
 case body =>
  rintro l pre ⟨⟨x, y⟩, hxy, hys⟩ W ⟨⟨⟨v, hv, hrow, hno⟩, hB⟩, hT⟩ hlt
  have hcT := hT.cell
  have hcO := hv.cell
  have hlast : last s.data.toList (x, y) ↔ ((y : Int) = (s.size : Int) ∧ ((x : Int) == (s.size : Int)) = true) := by
   have h1 : s.data.size = s.size := rfl
   simp only [last, Array.length_toList, h1, beq_iff_eq]
   constructor
   ·rintro ⟨rfl, rfl⟩; exact ⟨rfl, rfl⟩
   ·rintro ⟨h2, h3⟩; exact ⟨by omega, by omega⟩
  have HL := Aside.mk hlast
  have HX := Aside.mk (And.intro hxy hys)
  clear hlast
  gi_wp2
  ·have hl : last s.data.toList (x, y) := HL.out.2 ⟨by assumption, by assumption⟩
   refine ⟨KeepsFrom.refl _ _, ?_⟩
   refine ⟨⟨⟨v, hv, ?_, rfl, ?_⟩, hB⟩, hT⟩
   ·have : got s (vals (pre ++ [⟨(x, y), hxy, hys⟩])) = got s (vals pre) := by rw [vals_snoc]; exact got_last _ _ _ hno hl
    rw [this]; exact hrow
   ·rw [vals_snoc]; exact ⟨x, y, by simp, hl⟩
  all_goals rcases Decidable.em (y = s.size) with rfl | hye
  all_goals try (exfalso; omega)
  all_goals
   have hnl := mt HL.out.1 (by rintro ⟨h2, h3⟩; simp_all)
   have HN := Aside.mk hnl
   clear hnl
   have hx1 := HX.out.1
   have hx2 := HX.out.2
   have hx3 : x ≤ s.size := Nat.le_trans hx1 hx2
   have hcO2 : ∀ o : Obj, (W.alloc o).cell? ⟨w.heap.size + 1, 0, none⟩ = some v := fun o => (hv.alloc o).cell
   refine wpIn_region_any (by kernel_rfl) ?_
   change wpAnyIn _ _ _ _ _ _ _ _ _ (World.drew _)
   have hcT1 : W.drew.cell? ⟨w.heap.size, 0, none⟩ = some (Value.string s) := hcT
   have hcO1 : W.drew.cell? ⟨w.heap.size + 1, 0, none⟩ = some v := hcO
   apply suff_
   ·intro H
    refine wpAnyIn_ready (rs := [0, 1, 2, 3]) (by kernel_rfl) (by simp) ?_
    refine AllReadyIn.cons rfl (fun K hK => ?_) ?_
    ·go_simp; refine hK _ _ ?_; clear hK K
     refine wpAnyIn_ready (rs := [1, 2, 3]) (by kernel_rfl) (by simp) ?_
     refine AllReadyIn.cons rfl (fun K hK => ?_) ?_
     ·go_simp; refine hK _ _ ?_; clear hK K
      refine wpAnyIn_ready (rs := [2, 3]) (by kernel_rfl) (by simp) ?_
      refine AllReadyIn.cons rfl (fun K hK => ?_) ?_
      ·go_simp; refine hK _ _ ?_; clear hK K
       refine wpAnyIn_ready (rs := [3]) (by kernel_rfl) (by simp) ?_
       refine AllReadyIn.cons rfl (fun K hK => ?_) ?_
       ·go_simp; refine hK _ _ ?_; clear hK K
        refine wpAnyIn_ready (rs := [4]) (by kernel_rfl) (by simp) ?_
        refine AllReadyIn.cons rfl (fun K hK => ?_) ?_
        ·go_simp; refine hK _ _ ?_; clear hK K
         refine wpAnyIn_ready (rs := [5]) (by kernel_rfl) (by simp) ?_
         refine AllReadyIn.cons rfl (fun K hK => ?_) ?_
         ·go_simp; refine hK _ _ ?_; clear hK K
          exact H
         exact AllReadyIn.nil
        exact AllReadyIn.nil
       exact AllReadyIn.nil
      refine AllReadyIn.cons rfl (fun K hK => ?_) ?_
      ·go_simp; refine hK _ _ ?_; clear hK K
       refine wpAnyIn_ready (rs := [2]) (by kernel_rfl) (by simp) ?_
       refine AllReadyIn.cons rfl (fun K hK => ?_) ?_
       ·go_simp; refine hK _ _ ?_; clear hK K
        refine wpAnyIn_ready (rs := [4]) (by kernel_rfl) (by simp) ?_
        refine AllReadyIn.cons rfl (fun K hK => ?_) ?_
        ·go_simp; refine hK _ _ ?_; clear hK K
         refine wpAnyIn_ready (rs := [5]) (by kernel_rfl) (by simp) ?_
         refine AllReadyIn.cons rfl (fun K hK => ?_) ?_
         ·go_simp; refine hK _ _ ?_; clear hK K
          exact H
         exact AllReadyIn.nil
        exact AllReadyIn.nil
       exact AllReadyIn.nil
      exact AllReadyIn.nil
     refine AllReadyIn.cons rfl (fun K hK => ?_) ?_
     ·go_simp; refine hK _ _ ?_; clear hK K
      refine wpAnyIn_ready (rs := [1, 3]) (by kernel_rfl) (by simp) ?_
      refine AllReadyIn.cons rfl (fun K hK => ?_) ?_
      ·go_simp; refine hK _ _ ?_; clear hK K
       refine wpAnyIn_ready (rs := [3]) (by kernel_rfl) (by simp) ?_
       refine AllReadyIn.cons rfl (fun K hK => ?_) ?_
       ·go_simp; refine hK _ _ ?_; clear hK K
        refine wpAnyIn_ready (rs := [4]) (by kernel_rfl) (by simp) ?_
        refine AllReadyIn.cons rfl (fun K hK => ?_) ?_
        ·go_simp; refine hK _ _ ?_; clear hK K
         refine wpAnyIn_ready (rs := [5]) (by kernel_rfl) (by simp) ?_
         refine AllReadyIn.cons rfl (fun K hK => ?_) ?_
         ·go_simp; refine hK _ _ ?_; clear hK K
          exact H
         exact AllReadyIn.nil
        exact AllReadyIn.nil
       exact AllReadyIn.nil
      refine AllReadyIn.cons rfl (fun K hK => ?_) ?_
      ·go_simp; refine hK _ _ ?_; clear hK K
       refine wpAnyIn_ready (rs := [1]) (by kernel_rfl) (by simp) ?_
       refine AllReadyIn.cons rfl (fun K hK => ?_) ?_
       ·go_simp; refine hK _ _ ?_; clear hK K
        refine wpAnyIn_ready (rs := [4]) (by kernel_rfl) (by simp) ?_
        refine AllReadyIn.cons rfl (fun K hK => ?_) ?_
        ·go_simp; refine hK _ _ ?_; clear hK K
         refine wpAnyIn_ready (rs := [5]) (by kernel_rfl) (by simp) ?_
         refine AllReadyIn.cons rfl (fun K hK => ?_) ?_
         ·go_simp; refine hK _ _ ?_; clear hK K
          exact H
         exact AllReadyIn.nil
        exact AllReadyIn.nil
       exact AllReadyIn.nil
      exact AllReadyIn.nil
     refine AllReadyIn.cons rfl (fun K hK => ?_) ?_
     ·go_simp; refine hK _ _ ?_; clear hK K
      refine wpAnyIn_ready (rs := [1, 2]) (by kernel_rfl) (by simp) ?_
      refine AllReadyIn.cons rfl (fun K hK => ?_) ?_
      ·go_simp; refine hK _ _ ?_; clear hK K
       refine wpAnyIn_ready (rs := [2]) (by kernel_rfl) (by simp) ?_
       refine AllReadyIn.cons rfl (fun K hK => ?_) ?_
       ·go_simp; refine hK _ _ ?_; clear hK K
        refine wpAnyIn_ready (rs := [4]) (by kernel_rfl) (by simp) ?_
        refine AllReadyIn.cons rfl (fun K hK => ?_) ?_
        ·go_simp; refine hK _ _ ?_; clear hK K
         refine wpAnyIn_ready (rs := [5]) (by kernel_rfl) (by simp) ?_
         refine AllReadyIn.cons rfl (fun K hK => ?_) ?_
         ·go_simp; refine hK _ _ ?_; clear hK K
          exact H
         exact AllReadyIn.nil
        exact AllReadyIn.nil
       exact AllReadyIn.nil
      refine AllReadyIn.cons rfl (fun K hK => ?_) ?_
      ·go_simp; refine hK _ _ ?_; clear hK K
       refine wpAnyIn_ready (rs := [1]) (by kernel_rfl) (by simp) ?_
       refine AllReadyIn.cons rfl (fun K hK => ?_) ?_
       ·go_simp; refine hK _ _ ?_; clear hK K
        refine wpAnyIn_ready (rs := [4]) (by kernel_rfl) (by simp) ?_
        refine AllReadyIn.cons rfl (fun K hK => ?_) ?_
        ·go_simp; refine hK _ _ ?_; clear hK K
         refine wpAnyIn_ready (rs := [5]) (by kernel_rfl) (by simp) ?_
         refine AllReadyIn.cons rfl (fun K hK => ?_) ?_
         ·go_simp; refine hK _ _ ?_; clear hK K
          exact H
         exact AllReadyIn.nil
        exact AllReadyIn.nil
       exact AllReadyIn.nil
      exact AllReadyIn.nil
     exact AllReadyIn.nil
    refine AllReadyIn.cons rfl (fun K hK => ?_) ?_
    ·go_simp; refine hK _ _ ?_; clear hK K
     refine wpAnyIn_ready (rs := [0, 2, 3]) (by kernel_rfl) (by simp) ?_
     refine AllReadyIn.cons rfl (fun K hK => ?_) ?_
     ·go_simp; refine hK _ _ ?_; clear hK K
      refine wpAnyIn_ready (rs := [2, 3]) (by kernel_rfl) (by simp) ?_
      refine AllReadyIn.cons rfl (fun K hK => ?_) ?_
      ·go_simp; refine hK _ _ ?_; clear hK K
       refine wpAnyIn_ready (rs := [3]) (by kernel_rfl) (by simp) ?_
       refine AllReadyIn.cons rfl (fun K hK => ?_) ?_
       ·go_simp; refine hK _ _ ?_; clear hK K
        refine wpAnyIn_ready (rs := [4]) (by kernel_rfl) (by simp) ?_
        refine AllReadyIn.cons rfl (fun K hK => ?_) ?_
        ·go_simp; refine hK _ _ ?_; clear hK K
         refine wpAnyIn_ready (rs := [5]) (by kernel_rfl) (by simp) ?_
         refine AllReadyIn.cons rfl (fun K hK => ?_) ?_
         ·go_simp; refine hK _ _ ?_; clear hK K
          exact H
         exact AllReadyIn.nil
        exact AllReadyIn.nil
       exact AllReadyIn.nil
      refine AllReadyIn.cons rfl (fun K hK => ?_) ?_
      ·go_simp; refine hK _ _ ?_; clear hK K
       refine wpAnyIn_ready (rs := [2]) (by kernel_rfl) (by simp) ?_
       refine AllReadyIn.cons rfl (fun K hK => ?_) ?_
       ·go_simp; refine hK _ _ ?_; clear hK K
        refine wpAnyIn_ready (rs := [4]) (by kernel_rfl) (by simp) ?_
        refine AllReadyIn.cons rfl (fun K hK => ?_) ?_
        ·go_simp; refine hK _ _ ?_; clear hK K
         refine wpAnyIn_ready (rs := [5]) (by kernel_rfl) (by simp) ?_
         refine AllReadyIn.cons rfl (fun K hK => ?_) ?_
         ·go_simp; refine hK _ _ ?_; clear hK K
          exact H
         exact AllReadyIn.nil
        exact AllReadyIn.nil
       exact AllReadyIn.nil
      exact AllReadyIn.nil
     refine AllReadyIn.cons rfl (fun K hK => ?_) ?_
     ·go_simp; refine hK _ _ ?_; clear hK K
      refine wpAnyIn_ready (rs := [0, 3]) (by kernel_rfl) (by simp) ?_
      refine AllReadyIn.cons rfl (fun K hK => ?_) ?_
      ·go_simp; refine hK _ _ ?_; clear hK K
       refine wpAnyIn_ready (rs := [3]) (by kernel_rfl) (by simp) ?_
       refine AllReadyIn.cons rfl (fun K hK => ?_) ?_
       ·go_simp; refine hK _ _ ?_; clear hK K
        refine wpAnyIn_ready (rs := [4]) (by kernel_rfl) (by simp) ?_
        refine AllReadyIn.cons rfl (fun K hK => ?_) ?_
        ·go_simp; refine hK _ _ ?_; clear hK K
         refine wpAnyIn_ready (rs := [5]) (by kernel_rfl) (by simp) ?_
         refine AllReadyIn.cons rfl (fun K hK => ?_) ?_
         ·go_simp; refine hK _ _ ?_; clear hK K
          exact H
         exact AllReadyIn.nil
        exact AllReadyIn.nil
       exact AllReadyIn.nil
      refine AllReadyIn.cons rfl (fun K hK => ?_) ?_
      ·go_simp; refine hK _ _ ?_; clear hK K
       refine wpAnyIn_ready (rs := [0, 4]) (by kernel_rfl) (by simp) ?_
       refine AllReadyIn.cons rfl (fun K hK => ?_) ?_
       ·go_simp; refine hK _ _ ?_; clear hK K
        refine wpAnyIn_ready (rs := [4]) (by kernel_rfl) (by simp) ?_
        refine AllReadyIn.cons rfl (fun K hK => ?_) ?_
        ·go_simp; refine hK _ _ ?_; clear hK K
         refine wpAnyIn_ready (rs := [5]) (by kernel_rfl) (by simp) ?_
         refine AllReadyIn.cons rfl (fun K hK => ?_) ?_
         ·go_simp; refine hK _ _ ?_; clear hK K
          exact H
         exact AllReadyIn.nil
        exact AllReadyIn.nil
       refine AllReadyIn.cons rfl (fun K hK => ?_) ?_
       ·go_simp; refine hK _ _ ?_; clear hK K
        refine wpAnyIn_ready (rs := [0, 5]) (by kernel_rfl) (by simp) ?_
        refine AllReadyIn.cons rfl (fun K hK => ?_) ?_
        ·go_simp; refine hK _ _ ?_; clear hK K
         refine wpAnyIn_ready (rs := [5]) (by kernel_rfl) (by simp) ?_
         refine AllReadyIn.cons rfl (fun K hK => ?_) ?_
         ·go_simp; refine hK _ _ ?_; clear hK K
          exact H
         exact AllReadyIn.nil
        refine AllReadyIn.cons rfl (fun K hK => ?_) ?_
        ·go_simp; refine hK _ _ ?_; clear hK K
         refine wpAnyIn_ready (rs := [0]) (by kernel_rfl) (by simp) ?_
         refine AllReadyIn.cons rfl (fun K hK => ?_) ?_
         ·go_simp; refine hK _ _ ?_; clear hK K
          exact H
         exact AllReadyIn.nil
        exact AllReadyIn.nil
       exact AllReadyIn.nil
      exact AllReadyIn.nil
     refine AllReadyIn.cons rfl (fun K hK => ?_) ?_
     ·go_simp; refine hK _ _ ?_; clear hK K
      refine wpAnyIn_ready (rs := [0, 2]) (by kernel_rfl) (by simp) ?_
      refine AllReadyIn.cons rfl (fun K hK => ?_) ?_
      ·go_simp; refine hK _ _ ?_; clear hK K
       refine wpAnyIn_ready (rs := [2]) (by kernel_rfl) (by simp) ?_
       refine AllReadyIn.cons rfl (fun K hK => ?_) ?_
       ·go_simp; refine hK _ _ ?_; clear hK K
        refine wpAnyIn_ready (rs := [4]) (by kernel_rfl) (by simp) ?_
        refine AllReadyIn.cons rfl (fun K hK => ?_) ?_
        ·go_simp; refine hK _ _ ?_; clear hK K
         refine wpAnyIn_ready (rs := [5]) (by kernel_rfl) (by simp) ?_
         refine AllReadyIn.cons rfl (fun K hK => ?_) ?_
         ·go_simp; refine hK _ _ ?_; clear hK K
          exact H
         exact AllReadyIn.nil
        exact AllReadyIn.nil
       exact AllReadyIn.nil
      refine AllReadyIn.cons rfl (fun K hK => ?_) ?_
      ·go_simp; refine hK _ _ ?_; clear hK K
       refine wpAnyIn_ready (rs := [0, 4]) (by kernel_rfl) (by simp) ?_
       refine AllReadyIn.cons rfl (fun K hK => ?_) ?_
       ·go_simp; refine hK _ _ ?_; clear hK K
        refine wpAnyIn_ready (rs := [4]) (by kernel_rfl) (by simp) ?_
        refine AllReadyIn.cons rfl (fun K hK => ?_) ?_
        ·go_simp; refine hK _ _ ?_; clear hK K
         refine wpAnyIn_ready (rs := [5]) (by kernel_rfl) (by simp) ?_
         refine AllReadyIn.cons rfl (fun K hK => ?_) ?_
         ·go_simp; refine hK _ _ ?_; clear hK K
          exact H
         exact AllReadyIn.nil
        exact AllReadyIn.nil
       refine AllReadyIn.cons rfl (fun K hK => ?_) ?_
       ·go_simp; refine hK _ _ ?_; clear hK K
        refine wpAnyIn_ready (rs := [0, 5]) (by kernel_rfl) (by simp) ?_
        refine AllReadyIn.cons rfl (fun K hK => ?_) ?_
        ·go_simp; refine hK _ _ ?_; clear hK K
         refine wpAnyIn_ready (rs := [5]) (by kernel_rfl) (by simp) ?_
         refine AllReadyIn.cons rfl (fun K hK => ?_) ?_
         ·go_simp; refine hK _ _ ?_; clear hK K
          exact H
         exact AllReadyIn.nil
        refine AllReadyIn.cons rfl (fun K hK => ?_) ?_
        ·go_simp; refine hK _ _ ?_; clear hK K
         refine wpAnyIn_ready (rs := [0]) (by kernel_rfl) (by simp) ?_
         refine AllReadyIn.cons rfl (fun K hK => ?_) ?_
         ·go_simp; refine hK _ _ ?_; clear hK K
          exact H
         exact AllReadyIn.nil
        exact AllReadyIn.nil
       exact AllReadyIn.nil
      exact AllReadyIn.nil
     exact AllReadyIn.nil
    refine AllReadyIn.cons rfl (fun K hK => ?_) ?_
    ·go_simp; refine hK _ _ ?_; clear hK K
     refine wpAnyIn_ready (rs := [0, 1, 3]) (by kernel_rfl) (by simp) ?_
     refine AllReadyIn.cons rfl (fun K hK => ?_) ?_
     ·go_simp; refine hK _ _ ?_; clear hK K
      refine wpAnyIn_ready (rs := [1, 3]) (by kernel_rfl) (by simp) ?_
      refine AllReadyIn.cons rfl (fun K hK => ?_) ?_
      ·go_simp; refine hK _ _ ?_; clear hK K
       refine wpAnyIn_ready (rs := [3]) (by kernel_rfl) (by simp) ?_
       refine AllReadyIn.cons rfl (fun K hK => ?_) ?_
       ·go_simp; refine hK _ _ ?_; clear hK K
        refine wpAnyIn_ready (rs := [4]) (by kernel_rfl) (by simp) ?_
        refine AllReadyIn.cons rfl (fun K hK => ?_) ?_
        ·go_simp; refine hK _ _ ?_; clear hK K
         refine wpAnyIn_ready (rs := [5]) (by kernel_rfl) (by simp) ?_
         refine AllReadyIn.cons rfl (fun K hK => ?_) ?_
         ·go_simp; refine hK _ _ ?_; clear hK K
          exact H
         exact AllReadyIn.nil
        exact AllReadyIn.nil
       exact AllReadyIn.nil
      refine AllReadyIn.cons rfl (fun K hK => ?_) ?_
      ·go_simp; refine hK _ _ ?_; clear hK K
       refine wpAnyIn_ready (rs := [1]) (by kernel_rfl) (by simp) ?_
       refine AllReadyIn.cons rfl (fun K hK => ?_) ?_
       ·go_simp; refine hK _ _ ?_; clear hK K
        refine wpAnyIn_ready (rs := [4]) (by kernel_rfl) (by simp) ?_
        refine AllReadyIn.cons rfl (fun K hK => ?_) ?_
        ·go_simp; refine hK _ _ ?_; clear hK K
         refine wpAnyIn_ready (rs := [5]) (by kernel_rfl) (by simp) ?_
         refine AllReadyIn.cons rfl (fun K hK => ?_) ?_
         ·go_simp; refine hK _ _ ?_; clear hK K
          exact H
         exact AllReadyIn.nil
        exact AllReadyIn.nil
       exact AllReadyIn.nil
      exact AllReadyIn.nil
     refine AllReadyIn.cons rfl (fun K hK => ?_) ?_
     ·go_simp; refine hK _ _ ?_; clear hK K
      refine wpAnyIn_ready (rs := [0, 3]) (by kernel_rfl) (by simp) ?_
      refine AllReadyIn.cons rfl (fun K hK => ?_) ?_
      ·go_simp; refine hK _ _ ?_; clear hK K
       refine wpAnyIn_ready (rs := [3]) (by kernel_rfl) (by simp) ?_
       refine AllReadyIn.cons rfl (fun K hK => ?_) ?_
       ·go_simp; refine hK _ _ ?_; clear hK K
        refine wpAnyIn_ready (rs := [4]) (by kernel_rfl) (by simp) ?_
        refine AllReadyIn.cons rfl (fun K hK => ?_) ?_
        ·go_simp; refine hK _ _ ?_; clear hK K
         refine wpAnyIn_ready (rs := [5]) (by kernel_rfl) (by simp) ?_
         refine AllReadyIn.cons rfl (fun K hK => ?_) ?_
         ·go_simp; refine hK _ _ ?_; clear hK K
          exact H
         exact AllReadyIn.nil
        exact AllReadyIn.nil
       exact AllReadyIn.nil
      refine AllReadyIn.cons rfl (fun K hK => ?_) ?_
      ·go_simp; refine hK _ _ ?_; clear hK K
       refine wpAnyIn_ready (rs := [0, 4]) (by kernel_rfl) (by simp) ?_
       refine AllReadyIn.cons rfl (fun K hK => ?_) ?_
       ·go_simp; refine hK _ _ ?_; clear hK K
        refine wpAnyIn_ready (rs := [4]) (by kernel_rfl) (by simp) ?_
        refine AllReadyIn.cons rfl (fun K hK => ?_) ?_
        ·go_simp; refine hK _ _ ?_; clear hK K
         refine wpAnyIn_ready (rs := [5]) (by kernel_rfl) (by simp) ?_
         refine AllReadyIn.cons rfl (fun K hK => ?_) ?_
         ·go_simp; refine hK _ _ ?_; clear hK K
          exact H
         exact AllReadyIn.nil
        exact AllReadyIn.nil
       refine AllReadyIn.cons rfl (fun K hK => ?_) ?_
       ·go_simp; refine hK _ _ ?_; clear hK K
        refine wpAnyIn_ready (rs := [0, 5]) (by kernel_rfl) (by simp) ?_
        refine AllReadyIn.cons rfl (fun K hK => ?_) ?_
        ·go_simp; refine hK _ _ ?_; clear hK K
         refine wpAnyIn_ready (rs := [5]) (by kernel_rfl) (by simp) ?_
         refine AllReadyIn.cons rfl (fun K hK => ?_) ?_
         ·go_simp; refine hK _ _ ?_; clear hK K
          exact H
         exact AllReadyIn.nil
        refine AllReadyIn.cons rfl (fun K hK => ?_) ?_
        ·go_simp; refine hK _ _ ?_; clear hK K
         refine wpAnyIn_ready (rs := [0]) (by kernel_rfl) (by simp) ?_
         refine AllReadyIn.cons rfl (fun K hK => ?_) ?_
         ·go_simp; refine hK _ _ ?_; clear hK K
          exact H
         exact AllReadyIn.nil
        exact AllReadyIn.nil
       exact AllReadyIn.nil
      exact AllReadyIn.nil
     refine AllReadyIn.cons rfl (fun K hK => ?_) ?_
     ·go_simp; refine hK _ _ ?_; clear hK K
      refine wpAnyIn_ready (rs := [0, 1]) (by kernel_rfl) (by simp) ?_
      refine AllReadyIn.cons rfl (fun K hK => ?_) ?_
      ·go_simp; refine hK _ _ ?_; clear hK K
       refine wpAnyIn_ready (rs := [1]) (by kernel_rfl) (by simp) ?_
       refine AllReadyIn.cons rfl (fun K hK => ?_) ?_
       ·go_simp; refine hK _ _ ?_; clear hK K
        refine wpAnyIn_ready (rs := [4]) (by kernel_rfl) (by simp) ?_
        refine AllReadyIn.cons rfl (fun K hK => ?_) ?_
        ·go_simp; refine hK _ _ ?_; clear hK K
         refine wpAnyIn_ready (rs := [5]) (by kernel_rfl) (by simp) ?_
         refine AllReadyIn.cons rfl (fun K hK => ?_) ?_
         ·go_simp; refine hK _ _ ?_; clear hK K
          exact H
         exact AllReadyIn.nil
        exact AllReadyIn.nil
       exact AllReadyIn.nil
      refine AllReadyIn.cons rfl (fun K hK => ?_) ?_
      ·go_simp; refine hK _ _ ?_; clear hK K
       refine wpAnyIn_ready (rs := [0, 4]) (by kernel_rfl) (by simp) ?_
       refine AllReadyIn.cons rfl (fun K hK => ?_) ?_
       ·go_simp; refine hK _ _ ?_; clear hK K
        refine wpAnyIn_ready (rs := [4]) (by kernel_rfl) (by simp) ?_
        refine AllReadyIn.cons rfl (fun K hK => ?_) ?_
        ·go_simp; refine hK _ _ ?_; clear hK K
         refine wpAnyIn_ready (rs := [5]) (by kernel_rfl) (by simp) ?_
         refine AllReadyIn.cons rfl (fun K hK => ?_) ?_
         ·go_simp; refine hK _ _ ?_; clear hK K
          exact H
         exact AllReadyIn.nil
        exact AllReadyIn.nil
       refine AllReadyIn.cons rfl (fun K hK => ?_) ?_
       ·go_simp; refine hK _ _ ?_; clear hK K
        refine wpAnyIn_ready (rs := [0, 5]) (by kernel_rfl) (by simp) ?_
        refine AllReadyIn.cons rfl (fun K hK => ?_) ?_
        ·go_simp; refine hK _ _ ?_; clear hK K
         refine wpAnyIn_ready (rs := [5]) (by kernel_rfl) (by simp) ?_
         refine AllReadyIn.cons rfl (fun K hK => ?_) ?_
         ·go_simp; refine hK _ _ ?_; clear hK K
          exact H
         exact AllReadyIn.nil
        refine AllReadyIn.cons rfl (fun K hK => ?_) ?_
        ·go_simp; refine hK _ _ ?_; clear hK K
         refine wpAnyIn_ready (rs := [0]) (by kernel_rfl) (by simp) ?_
         refine AllReadyIn.cons rfl (fun K hK => ?_) ?_
         ·go_simp; refine hK _ _ ?_; clear hK K
          exact H
         exact AllReadyIn.nil
        exact AllReadyIn.nil
       exact AllReadyIn.nil
      exact AllReadyIn.nil
     exact AllReadyIn.nil
    refine AllReadyIn.cons rfl (fun K hK => ?_) ?_
    ·go_simp; refine hK _ _ ?_; clear hK K
     refine wpAnyIn_ready (rs := [0, 1, 2]) (by kernel_rfl) (by simp) ?_
     refine AllReadyIn.cons rfl (fun K hK => ?_) ?_
     ·go_simp; refine hK _ _ ?_; clear hK K
      refine wpAnyIn_ready (rs := [1, 2]) (by kernel_rfl) (by simp) ?_
      refine AllReadyIn.cons rfl (fun K hK => ?_) ?_
      ·go_simp; refine hK _ _ ?_; clear hK K
       refine wpAnyIn_ready (rs := [2]) (by kernel_rfl) (by simp) ?_
       refine AllReadyIn.cons rfl (fun K hK => ?_) ?_
       ·go_simp; refine hK _ _ ?_; clear hK K
        refine wpAnyIn_ready (rs := [4]) (by kernel_rfl) (by simp) ?_
        refine AllReadyIn.cons rfl (fun K hK => ?_) ?_
        ·go_simp; refine hK _ _ ?_; clear hK K
         refine wpAnyIn_ready (rs := [5]) (by kernel_rfl) (by simp) ?_
         refine AllReadyIn.cons rfl (fun K hK => ?_) ?_
         ·go_simp; refine hK _ _ ?_; clear hK K
          exact H
         exact AllReadyIn.nil
        exact AllReadyIn.nil
       exact AllReadyIn.nil
      refine AllReadyIn.cons rfl (fun K hK => ?_) ?_
      ·go_simp; refine hK _ _ ?_; clear hK K
       refine wpAnyIn_ready (rs := [1]) (by kernel_rfl) (by simp) ?_
       refine AllReadyIn.cons rfl (fun K hK => ?_) ?_
       ·go_simp; refine hK _ _ ?_; clear hK K
        refine wpAnyIn_ready (rs := [4]) (by kernel_rfl) (by simp) ?_
        refine AllReadyIn.cons rfl (fun K hK => ?_) ?_
        ·go_simp; refine hK _ _ ?_; clear hK K
         refine wpAnyIn_ready (rs := [5]) (by kernel_rfl) (by simp) ?_
         refine AllReadyIn.cons rfl (fun K hK => ?_) ?_
         ·go_simp; refine hK _ _ ?_; clear hK K
          exact H
         exact AllReadyIn.nil
        exact AllReadyIn.nil
       exact AllReadyIn.nil
      exact AllReadyIn.nil
     refine AllReadyIn.cons rfl (fun K hK => ?_) ?_
     ·go_simp; refine hK _ _ ?_; clear hK K
      refine wpAnyIn_ready (rs := [0, 2]) (by kernel_rfl) (by simp) ?_
      refine AllReadyIn.cons rfl (fun K hK => ?_) ?_
      ·go_simp; refine hK _ _ ?_; clear hK K
       refine wpAnyIn_ready (rs := [2]) (by kernel_rfl) (by simp) ?_
       refine AllReadyIn.cons rfl (fun K hK => ?_) ?_
       ·go_simp; refine hK _ _ ?_; clear hK K
        refine wpAnyIn_ready (rs := [4]) (by kernel_rfl) (by simp) ?_
        refine AllReadyIn.cons rfl (fun K hK => ?_) ?_
        ·go_simp; refine hK _ _ ?_; clear hK K
         refine wpAnyIn_ready (rs := [5]) (by kernel_rfl) (by simp) ?_
         refine AllReadyIn.cons rfl (fun K hK => ?_) ?_
         ·go_simp; refine hK _ _ ?_; clear hK K
          exact H
         exact AllReadyIn.nil
        exact AllReadyIn.nil
       exact AllReadyIn.nil
      refine AllReadyIn.cons rfl (fun K hK => ?_) ?_
      ·go_simp; refine hK _ _ ?_; clear hK K
       refine wpAnyIn_ready (rs := [0, 4]) (by kernel_rfl) (by simp) ?_
       refine AllReadyIn.cons rfl (fun K hK => ?_) ?_
       ·go_simp; refine hK _ _ ?_; clear hK K
        refine wpAnyIn_ready (rs := [4]) (by kernel_rfl) (by simp) ?_
        refine AllReadyIn.cons rfl (fun K hK => ?_) ?_
        ·go_simp; refine hK _ _ ?_; clear hK K
         refine wpAnyIn_ready (rs := [5]) (by kernel_rfl) (by simp) ?_
         refine AllReadyIn.cons rfl (fun K hK => ?_) ?_
         ·go_simp; refine hK _ _ ?_; clear hK K
          exact H
         exact AllReadyIn.nil
        exact AllReadyIn.nil
       refine AllReadyIn.cons rfl (fun K hK => ?_) ?_
       ·go_simp; refine hK _ _ ?_; clear hK K
        refine wpAnyIn_ready (rs := [0, 5]) (by kernel_rfl) (by simp) ?_
        refine AllReadyIn.cons rfl (fun K hK => ?_) ?_
        ·go_simp; refine hK _ _ ?_; clear hK K
         refine wpAnyIn_ready (rs := [5]) (by kernel_rfl) (by simp) ?_
         refine AllReadyIn.cons rfl (fun K hK => ?_) ?_
         ·go_simp; refine hK _ _ ?_; clear hK K
          exact H
         exact AllReadyIn.nil
        refine AllReadyIn.cons rfl (fun K hK => ?_) ?_
        ·go_simp; refine hK _ _ ?_; clear hK K
         refine wpAnyIn_ready (rs := [0]) (by kernel_rfl) (by simp) ?_
         refine AllReadyIn.cons rfl (fun K hK => ?_) ?_
         ·go_simp; refine hK _ _ ?_; clear hK K
          exact H
         exact AllReadyIn.nil
        exact AllReadyIn.nil
       exact AllReadyIn.nil
      exact AllReadyIn.nil
     refine AllReadyIn.cons rfl (fun K hK => ?_) ?_
     ·go_simp; refine hK _ _ ?_; clear hK K
      refine wpAnyIn_ready (rs := [0, 1]) (by kernel_rfl) (by simp) ?_
      refine AllReadyIn.cons rfl (fun K hK => ?_) ?_
      ·go_simp; refine hK _ _ ?_; clear hK K
       refine wpAnyIn_ready (rs := [1]) (by kernel_rfl) (by simp) ?_
       refine AllReadyIn.cons rfl (fun K hK => ?_) ?_
       ·go_simp; refine hK _ _ ?_; clear hK K
        refine wpAnyIn_ready (rs := [4]) (by kernel_rfl) (by simp) ?_
        refine AllReadyIn.cons rfl (fun K hK => ?_) ?_
        ·go_simp; refine hK _ _ ?_; clear hK K
         refine wpAnyIn_ready (rs := [5]) (by kernel_rfl) (by simp) ?_
         refine AllReadyIn.cons rfl (fun K hK => ?_) ?_
         ·go_simp; refine hK _ _ ?_; clear hK K
          exact H
         exact AllReadyIn.nil
        exact AllReadyIn.nil
       exact AllReadyIn.nil
      refine AllReadyIn.cons rfl (fun K hK => ?_) ?_
      ·go_simp; refine hK _ _ ?_; clear hK K
       refine wpAnyIn_ready (rs := [0, 4]) (by kernel_rfl) (by simp) ?_
       refine AllReadyIn.cons rfl (fun K hK => ?_) ?_
       ·go_simp; refine hK _ _ ?_; clear hK K
        refine wpAnyIn_ready (rs := [4]) (by kernel_rfl) (by simp) ?_
        refine AllReadyIn.cons rfl (fun K hK => ?_) ?_
        ·go_simp; refine hK _ _ ?_; clear hK K
         refine wpAnyIn_ready (rs := [5]) (by kernel_rfl) (by simp) ?_
         refine AllReadyIn.cons rfl (fun K hK => ?_) ?_
         ·go_simp; refine hK _ _ ?_; clear hK K
          exact H
         exact AllReadyIn.nil
        exact AllReadyIn.nil
       refine AllReadyIn.cons rfl (fun K hK => ?_) ?_
       ·go_simp; refine hK _ _ ?_; clear hK K
        refine wpAnyIn_ready (rs := [0, 5]) (by kernel_rfl) (by simp) ?_
        refine AllReadyIn.cons rfl (fun K hK => ?_) ?_
        ·go_simp; refine hK _ _ ?_; clear hK K
         refine wpAnyIn_ready (rs := [5]) (by kernel_rfl) (by simp) ?_
         refine AllReadyIn.cons rfl (fun K hK => ?_) ?_
         ·go_simp; refine hK _ _ ?_; clear hK K
          exact H
         exact AllReadyIn.nil
        refine AllReadyIn.cons rfl (fun K hK => ?_) ?_
        ·go_simp; refine hK _ _ ?_; clear hK K
         refine wpAnyIn_ready (rs := [0]) (by kernel_rfl) (by simp) ?_
         refine AllReadyIn.cons rfl (fun K hK => ?_) ?_
         ·go_simp; refine hK _ _ ?_; clear hK K
          exact H
         exact AllReadyIn.nil
        exact AllReadyIn.nil
       exact AllReadyIn.nil
      exact AllReadyIn.nil
     exact AllReadyIn.nil
    exact AllReadyIn.nil
   ·obtain ⟨i0, hi, hz0, hz1, hz2⟩ := info_parts infoS
    have hrowS := own_lower hrow (show w.heap.size ≤ w.heap.size + 4 by omega)
    have hWs : w.heap.size + 4 ≤ W.heap.size := hsz ▸ hB.size
    have hlen := got_length s (vals pre)
    rw [vals_length] at hlen
    have hmore := got_more s (vals pre) (x, _) hno HN.out
    have hcl := cutsFrom_length s.data.toList sep.data.toList hsep' (s.data.toList.length + 1) 0 (Nat.zero_le _)
    have hcl' : (cutsL s.data.toList sep.data.toList).length ≤ s.data.toList.length - 0 + 1 := hcl
    have h1d : s.data.toList.length = s.size := by rw [Array.length_toList]; rfl
    refine wpAnyIn_ready (rs := [6]) (by kernel_rfl) (by simp) ?_
    refine AllReadyIn.cons rfl (fun K hK => ?_) ?_
    ·rw [if_pos (by kernel_rfl)]
     refine wpIn_append_own _ (.tmp 27) (.tmp 32) 23 rfl (w.heap.size + 4) 9 i0 (.string ByteArray.empty) 1 16 (by kernel_rfl) hi hz0 hz1 hz2 rfl (by decide) _ _ _ rfl (own_drew (hrow.alloc _)) ⟨W.heap.size, 0, none⟩ 1 1 [.string (s.extract x _)] rfl rfl (cell_one_new W _ _) (by simp [Value.oneCell']) (by simp only [maxLen]; omega) (by omega) (by simp; omega) ?_
     intro v' w1 hown' hgrow _
     refine hK _ _ ?_
     clear hK K
     obtain ⟨g', cap', rfl⟩ := ownsRow_succ hown'
     have hgrow' : (W.alloc (.cells #[.string (s.extract x _)] 9)).grownBy w1 v.ownBlock := ⟨hgrow.os, hgrow.tape, hgrow.output, hgrow.size, hgrow.block⟩
     obtain ⟨hv1, hv2, _, hk2, hb2⟩ := hv.appended (by decide) hrowS (by omega) (by omega) (own_lower hown' (show w.heap.size ≤ w.heap.size + 4 by omega)) hgrow'
     have hr2 := hown'.kept (grownBy_setCell' w1 (w.heap.size + 1) (.slice (some ⟨g', 0, none⟩) ((got s (vals pre)).length + 1) cap')) (.inr (hv1.not_row (by decide) hown').symm)
     have hc1 := hv1.cell
     have hf1 := hv1.frozen
     have hv2' := Aside.mk hv2
     have hr2' := Aside.mk hr2
     have hk2' := Aside.mk hk2
     have hb2' := Aside.mk hb2
     clear hv2 hr2 hk2 hb2
     refine wpAnyIn_ready (rs := [7]) (by kernel_rfl) (by simp) ?_
     refine AllReadyIn.cons rfl (fun K hK => ?_) ?_
     ·go_simp; refine hK _ _ ?_; clear hK K
      refine wpAnyIn_done (by kernel_rfl) ?_ _
      simp only [Exit.inBlock]
      refine ⟨hk2'.out.from _, ?_, ⟨⟨⟨_, hv2'.out, ?_, ?_⟩, hB.trans hb2'.out⟩, ?_⟩⟩
      ·intro b hb
       have hbs : b < W.heap.size := by rcases hb with rfl | rfl | rfl | rfl <;> omega
       have hb4 : b < w.heap.size + 4 := by rcases hb with rfl | rfl | rfl | rfl <;> omega
       rw [Below.heap_setCell _ _ _ _ (show b ≠ w.heap.size + 1 by rcases hb with rfl | rfl | rfl | rfl <;> omega), hgrow'.block b (by simp; omega) (own_far hrow hb4), Below.heap_alloc _ _ _ hbs]
      ·rw [vals_snoc, hmore]; simpa using hr2'.out
      ·intro p hp
       rw [vals_snoc, List.mem_append, List.mem_singleton] at hp
       rcases hp with hp | rfl
       ·exact hno p hp
       ·exact HN.out
      ·exact ((hT.alloc _).kept hgrow' (own_far hrow (by omega))).kept (grownBy_setCell' _ _ _) (by simp)
     exact AllReadyIn.nil
    exact AllReadyIn.nil
 case done =>
  rintro D ys W hD hS ⟨⟨⟨v, hv, hrow, hno⟩, hB⟩, hT⟩ hK
  have hc := hv.cell
  gi_wp2
  refine ⟨by simp, .inl ⟨_, _, rfl, run_takeDeferred hK, ?_⟩⟩
  rw [hS] at hrow
  exact ⟨_, results_tmp rfl _ _ _, v, rfl, ownsRow_putObj (own_lower hrow (by omega)) _ hK rfl, (hB0.trans hB).trans (belowK_b (w := w) (Nat.le_refl _) W D _ _ (by omega) hK rfl rfl)⟩
 case stop =>
  rintro D c pre W hD hp ⟨⟨⟨v, hv, hrow, rfl, hst⟩, hB⟩, hT⟩ hK
  have hc := hv.cell
  have hrow' : W.ownsRow (w.heap.size + 4) 9 1 v (got s (cutsL s.data.toList sep.data.toList)).length (got s (cutsL s.data.toList sep.data.toList)) := by
   obtain ⟨r, hr⟩ := hp
   have : got s (cutsL s.data.toList sep.data.toList) = got s (vals pre) := by
    rw [← hr]; simp only [got, keepRec_stop _ _ _ hst]
   rw [this]; exact hrow
  clear hst hp
  gi_wp2
  refine ⟨by simp, .inl ⟨_, _, rfl, run_takeDeferred hK, ?_⟩⟩
  exact ⟨_, results_tmp rfl _ _ _, v, rfl, ownsRow_putObj (own_lower hrow' (by omega)) _ hK rfl, (hB0.trans hB).trans (belowK_b (w := w) (Nat.le_refl _) W D _ _ (by omega) hK rfl rfl)⟩
end Go.Proofs.YtahdkpoihpcfnaaGreatDoor.Lines
end

section
set_option linter.unusedVariables false
set_option linter.unusedSimpArgs false
namespace Go.Proofs.YtahdkpoihpcfnaaGreatDoor.Runs
open Go.RowKit Go.Shelf Go.Proofs.YtahdkpoihpcfnaaGreatDoor.CutsP Go.Proofs.YtahdkpoihpcfnaaGreatDoor.Cuts
attribute [local go_sem] Oper.semAt_some
def byteN (s : ByteArray) (i : Nat) : Nat := if h : i < s.size then (s[i]'h).toNat else 0
def blankN (c : Nat) : Bool := c == 32 || (decide (9 ≤ c) && decide (c ≤ 13))
def runEnd (s : ByteArray) : Nat → Nat → Nat
 | 0, i => i
 | k + 1, i => if i < s.size ∧ blankN (byteN s i) = false then runEnd s k (i + 1) else i
def runsFrom (s : ByteArray) : Nat → Nat → List (Nat × Nat)
 | 0, _ => []
 | k + 1, i => if i < s.size then (if blankN (byteN s i) then runsFrom s k (i + 1) else (i, runEnd s s.size i) :: runsFrom s k (runEnd s s.size i)) else []
def runsL (s : ByteArray) : List (Nat × Nat) := runsFrom s (s.size + 1) 0
theorem runEnd_le (s : ByteArray) : ∀ k i, i ≤ s.size → i ≤ runEnd s k i ∧ runEnd s k i ≤ s.size
 | 0, i, h => ⟨Nat.le_refl _, h⟩
 | k + 1, i, h => by
  simp only [runEnd]
  split
  ·rename_i hc
   have := runEnd_le s k (i + 1) (by omega)
   omega
  ·exact ⟨Nat.le_refl _, h⟩
theorem runEnd_step (s : ByteArray) : ∀ k i, s.size - i ≤ k → i < s.size → blankN (byteN s i) = false → runEnd s k i = runEnd s (k - 1) (i + 1)
 | 0, i, hk, hi, _ => by omega
 | k + 1, i, hk, hi, hb => by
  simp only [runEnd, Nat.add_sub_cancel]
  rw [if_pos ⟨hi, hb⟩]
theorem runEnd_fuel (s : ByteArray) : ∀ k i, s.size - i ≤ k → runEnd s (k + 1) i = runEnd s k i
 | 0, i, hk => by
  simp only [runEnd]
  rw [if_neg (by omega)]
 | k + 1, i, hk => by
  have e : runEnd s (k + 1 + 1) i = if i < s.size ∧ blankN (byteN s i) = false then runEnd s (k + 1) (i + 1) else i := rfl
  have e' : runEnd s (k + 1) i = if i < s.size ∧ blankN (byteN s i) = false then runEnd s k (i + 1) else i := rfl
  rw [e, e', runEnd_fuel s k (i + 1) (by omega)]
theorem blank_in (n : Nat) (c : Nat) (hc : c < 256) (w : World) :
  CallsIn Fence.wide n Tryz.prog 26 #[.int .u8 (c : Int)] w fun e w' => e = .returned (.bool (blankN c)) ∧ w' = w := by
 refine callsIn_of_wp Tryz.func26 rfl trivial ?_ rfl
 simp only [Tryz.ntmps26, List.size_toArray, List.length_cons, List.length_nil, Nat.reduceAdd, Nat.reduceSub, Array.replicate_succ, Array.replicate_zero, List.push_toArray, List.append_toArray, List.nil_append, List.cons_append]
 by_cases h1 : c = 32
 ·subst h1
  gi_wp2
  go_ret
  exact ⟨by simp [blankN], rfl⟩
 ·have h1' : ((c : Int) == 32) = false := by simp; omega
  by_cases h2 : 9 ≤ c
  ·have h2' : decide ((9 : Int) ≤ (c : Int)) = true := by simp; omega
   have h2'' : ((c : Int) ≥ 9) = True := by simp; omega
   have hw : blankN c = decide ((c : Int) ≤ 13) := by
    have e1 : (c == 32) = false := by simpa using h1
    simp [blankN, e1, h2]; omega
   gi_wp2
   go_ret
   exact ⟨by rw [hw]; rfl, rfl⟩
  ·have h2' : decide ((9 : Int) ≤ (c : Int)) = false := by simp; omega
   have hw : blankN c = false := by
    have e1 : (c == 32) = false := by simpa using h1
    simp [blankN, e1, h2]
   gi_wp2
   go_ret
   exact ⟨by rw [hw]; rfl, rfl⟩
theorem runs_in (n : Nat) (s : ByteArray) (w : World) :
  CallsIn Fence.wide n Tryz.prog 25 #[.string s] w fun e w' => e = .returned (.func (.func 44) #[] #[.pointer (some ⟨w.heap.size, 0, none⟩)]) ∧ w' = w.alloc (.cells #[.string s] 9) := by
 refine callsIn_of_wp Tryz.func25 rfl trivial ?_ rfl
 simp only [Tryz.ntmps25, List.size_toArray, List.length_cons, List.length_nil, Nat.reduceAdd, Nat.reduceSub, Array.replicate_succ, Array.replicate_zero, List.push_toArray, List.append_toArray, List.nil_append, List.cons_append]
 gi_wp2
 go_ret
 exact ⟨rfl, rfl⟩
set_option maxRecDepth 100000 in
set_option maxHeartbeats 2000000 in
theorem runs1_in (n : Nat) (hn : 1 ≤ n) (l Bt : Nat) (S : Nat → Prop) (s : ByteArray) (hs : s.size ≤ 1048576) (hBt : S Bt) (J Jx : List (Nat × Nat) → World → Prop)
  (hY : ∀ pre x W, J pre W → x.1 ≤ x.2 → x.2 ≤ s.size → pre.length < (runsL s).length → YieldAt Fence.wide (n - 1) Tryz.prog l (encs x) W fun e W' =>
   (e = .returned (.bool true) ∧ J (pre ++ [x]) W' ∧ Keeps S W W') ∨ (e = .returned (.bool false) ∧ Jx (pre ++ [x]) W'))
  (W : World) (hct : W.cell? ⟨Bt, 0, none⟩ = some (.string s)) (h0 : J [] W) :
  CallsIn Fence.wide n Tryz.prog 44 #[.func (.yield l) #[] #[], .pointer (some ⟨Bt, 0, none⟩)] W fun e W' => (∃ v, e = .returned v) ∧
   ((∃ ys, ys = runsL s ∧ J ys W') ∨ (∃ pre, pre <+: runsL s ∧ Jx pre W')) := by
 refine callsIn_of_wp Tryz.func44 rfl trivial ?_ rfl
 simp only [Tryz.ntmps44, List.size_toArray, List.length_cons, List.length_nil, Nat.reduceAdd, Nat.reduceSub, Array.replicate_succ, Array.replicate_zero, List.push_toArray, List.append_toArray, List.nil_append, List.cons_append]
 gi_wp2
 gi_loopw [3] (fun f wr => ∃ (k i : Nat) (pre : List (Nat × Nat)), f = .int .i64 i ∧ i ≤ s.size ∧ s.size - i < k ∧ Hid (runsL s = pre ++ runsFrom s k i) ∧ J pre wr ∧ Keeps S W wr)
  (fun f _ => s.size - (intOf f).toNat)
 case atStart => exact ⟨s.size + 1, 0, [], rfl, Nat.zero_le _, by omega, rfl, h0, Keeps.refl _ _⟩
 case round =>
  obtain ⟨k, i, pre, rfl, hi, hk, hrun, hJs, hnx⟩ := hrel
  obtain ⟨k, rfl⟩ : ∃ j, k = j + 1 := ⟨k - 1, by omega⟩
  have hct' := (hnx.cell hBt).trans hct
  have hF94 : Fence.wide.fn 26 := trivial
  by_cases hend : i < s.size
  ·have hbyte : ∀ h, (((s[i]'h).toNat : Nat) : Int) = (byteN s i : Int) := fun h => by simp [byteN, h]
   have h256 : byteN s i < 256 := by unfold byteN; split <;> first | exact UInt8.toNat_lt _ | omega
   by_cases hbl : blankN (byteN s i) = true
   ·have hstep : runsL s = pre ++ runsFrom s k (i + 1) := by
     rw [hrun.out]; simp only [runsFrom]; rw [if_pos hend, if_pos hbl]
    have HS : Hid (runsL s = pre ++ runsFrom s k (i + 1)) := hstep
    clear hstep
    gi_wp2_with (gi_at_call 26; refine (blank_in (n - 1) (byteN s i) h256 _).mono ?_; rintro e w1 ⟨rfl, rfl⟩)
    go_roundw
    case rel => exact ⟨k, i + 1, pre, by simp, by omega, by omega, HS, hJs, hnx⟩
    case measure => simp [intOf]; omega
   ·have hbl' : blankN (byteN s i) = false := by simpa using hbl
    clear hbl
    gi_wp2_with (gi_at_call 26; refine (blank_in (n - 1) (byteN s i) h256 _).mono ?_; rintro e w1 ⟨rfl, rfl⟩)
    obtain ⟨E, hE⟩ : ∃ E, runEnd s s.size i = E := ⟨_, rfl⟩
    have hEle := runEnd_le s s.size i (Nat.le_of_lt hend)
    rw [hE] at hEle
    have hE1 : i + 1 ≤ E := by
     have h1 := runEnd_step s s.size i (by omega) hend hbl'
     have h2 := runEnd_le s (s.size - 1) (i + 1) (by omega)
     omega
    have HE : Hid (runEnd s s.size i = E) := hE
    have HL : Hid (E ≤ s.size) := hEle.2
    have HL1 : Hid (i + 1 ≤ E) := hE1
    have hstep : runsL s = (pre ++ [(i, E)]) ++ runsFrom s k E := by
     rw [hrun.out]; simp only [runsFrom]; rw [if_pos hend, hbl', hE]; simp
    have HS : Hid (runsL s = (pre ++ [(i, E)]) ++ runsFrom s k E) := hstep
    clear hstep hE hEle hE1 hbl'
    gi_loopw [3] (fun f wr => wr = w1 ∧ ∃ j : Nat, f = .int .i64 j ∧ i ≤ j ∧ j ≤ s.size ∧ Hid (runEnd s s.size j = E))
     (fun f _ => s.size - (intOf f).toNat)
    case atStart => exact ⟨rfl, i, rfl, Nat.le_refl _, hi, HE⟩
    case round =>
     obtain ⟨rfl, j, rfl, hij, hj, hjE⟩ := hrel
     have hbyteJ : ∀ h, (((s[j]'h).toNat : Nat) : Int) = (byteN s j : Int) := fun h => by simp [byteN, h]
     have h256J : byteN s j < 256 := by unfold byteN; split <;> first | exact UInt8.toNat_lt _ | omega
     by_cases hjs : j < s.size
     ·by_cases hbj : blankN (byteN s j) = true
      ·have hjj : j = E := by
        have := hjE.out
        obtain ⟨m, hm⟩ : ∃ m, s.size = m + 1 := ⟨s.size - 1, by omega⟩
        rw [hm] at this
        simp only [runEnd] at this
        rw [if_neg (by rw [hbj]; simp)] at this
        exact this
       have HJ : Hid (j = E) := hjj
       clear hjj
       obtain ⟨fnn, tmps, assign, body, hy, hR⟩ := hY pre (i, j) _ hJs hij hj (by rw [HS.out]; simp)
       simp only [encs] at hy
       gi_wp2_with (gi_at_call 26; refine (blank_in (n - 1) (byteN s j) h256J _).mono ?_; rintro e w1 ⟨rfl, rfl⟩)
       refine hR.mono ?_
       rintro e W3 (⟨rfl, hJ3, hk3⟩ | ⟨rfl, hJx3⟩)
       ·gi_wp2
        go_roundw
        case rel => exact ⟨k, j, pre ++ [(i, j)], rfl, hj, by have := HJ.out; have := HL1.out; omega, by have := HS.out; rw [← HJ.out] at this; exact this, hJ3, hnx.trans hk3⟩
        case measure => have := HJ.out; have := HL1.out; simp [intOf]; omega
       ·gi_wp2
        refine bodyPost_ret (results_none rfl _ _ _) rfl ?_
        exact ⟨⟨_, rfl⟩, .inr ⟨pre ++ [(i, j)], by rw [HS.out, HJ.out]; exact List.prefix_append _ _, hJx3⟩⟩
      ·have hbj' : blankN (byteN s j) = false := by simpa using hbj
       have hnext : runEnd s s.size (j + 1) = E := by
        have h1 := runEnd_step s s.size j (by omega) hjs hbj'
        have h2 := runEnd_fuel s (s.size - 1) (j + 1) (by omega)
        have h3 : s.size - 1 + 1 = s.size := by omega
        rw [h3] at h2
        rw [h2, ← h1]; exact hjE.out
       have HN : Hid (runEnd s s.size (j + 1) = E) := hnext
       clear hnext hbj
       gi_wp2_with (gi_at_call 26; refine (blank_in (n - 1) (byteN s j) h256J _).mono ?_; rintro e w1 ⟨rfl, rfl⟩)
       go_roundw
       case rel => exact ⟨trivial, j + 1, by simp, by omega, by omega, HN⟩
       case measure => simp [intOf]; omega
     ·have hjj : j = E := by
       have h1 := hjE.out
       have h2 := runEnd_le s s.size j hj
       omega
      have HJ : Hid (j = E) := hjj
      clear hjj
      obtain ⟨fnn, tmps, assign, body, hy, hR⟩ := hY pre (i, j) _ hJs hij hj (by rw [HS.out]; simp)
      simp only [encs] at hy
      gi_wp2
      refine hR.mono ?_
      rintro e W3 (⟨rfl, hJ3, hk3⟩ | ⟨rfl, hJx3⟩)
      ·gi_wp2
       go_roundw
       case rel => exact ⟨k, j, pre ++ [(i, j)], rfl, hj, by have := HJ.out; have := HL1.out; omega, by have := HS.out; rw [← HJ.out] at this; exact this, hJ3, hnx.trans hk3⟩
       case measure => have := HJ.out; have := HL1.out; simp [intOf]; omega
      ·gi_wp2
       refine bodyPost_ret (results_none rfl _ _ _) rfl ?_
       exact ⟨⟨_, rfl⟩, .inr ⟨pre ++ [(i, j)], by rw [HS.out, HJ.out]; exact List.prefix_append _ _, hJx3⟩⟩
  ·have hfin : runsL s = pre := by rw [hrun.out]; simp only [runsFrom]; rw [if_neg hend]; simp
   have HF : Hid (runsL s = pre) := hfin
   clear hfin
   gi_wp2
   go_end0
   exact ⟨⟨_, rfl⟩, .inl ⟨_, HF.out.symm, hJs⟩⟩
theorem runs_stops (n : Nat) (hn : 1 ≤ n) (Bt : Nat) (S : Nat → Prop) (s : ByteArray) (hs : s.size ≤ 1048576) (hBt : S Bt) (w : World) (hS : ∀ b, S b → b < w.heap.size)
  (hct : w.cell? ⟨Bt, 0, none⟩ = some (.string s)) :
  SeqStopsK Fence.wide n Tryz.prog 44 #[.pointer (some ⟨Bt, 0, none⟩)] (fun x : Pc s => encs x.1) (Keeps S) (fun ys => vals ys = runsL s) (fun pre => vals pre <+: runsL s) (runsL s).length w := fun l J Jx W hW hJ _ hY h0 => by
 have h := runs1_in n hn l Bt S s hs hBt (fun ys W => ∃ zs : List (Pc s), vals zs = ys ∧ J zs W) (fun ys W => ∃ zs : List (Pc s), vals zs = ys ∧ Jx zs W)
  (by
   rintro _ x W1 ⟨zs, rfl, hz⟩ hx1 hx2 hlt
   obtain ⟨fn, tmps, assign, body, hy, hR⟩ := hY zs ⟨x, hx1, hx2⟩ W1 hz (by rwa [vals_length] at hlt)
   refine ⟨fn, tmps, assign, body, hy, hR.mono ?_⟩
   rintro e W2 (⟨he, hj, hk⟩ | ⟨he, hj⟩)
   ·exact .inl ⟨he, ⟨_, by simp [vals], hj⟩, hk⟩
   ·exact .inr ⟨he, ⟨_, by simp [vals], hj⟩⟩)
  W ((hW.cell (p := ⟨Bt, 0, none⟩) (hS _ hBt)).trans hct) ⟨[], rfl, h0⟩
 refine h.mono ?_
 rintro e W' ⟨he, ⟨ys, rfl, zs, hz, hj⟩ | ⟨pre, hp, zs, rfl, hj⟩⟩
 ·exact ⟨he, .inl ⟨zs, hz, hj⟩⟩
 ·exact ⟨he, .inr ⟨zs, hp, hj⟩⟩
end Go.Proofs.YtahdkpoihpcfnaaGreatDoor.Runs
end

section
set_option linter.unusedVariables false
set_option linter.unusedSimpArgs false
namespace Go.Proofs.YtahdkpoihpcfnaaGreatDoor.Fields
open Go.RowKit Go.Shelf Go.Proofs.YtahdkpoihpcfnaaGreatDoor.CutsP Go.Proofs.YtahdkpoihpcfnaaGreatDoor.Cuts Go.Proofs.YtahdkpoihpcfnaaGreatDoor.Lines Go.Proofs.YtahdkpoihpcfnaaGreatDoor.Runs
attribute [local go_sem] Oper.semAt_some
def gotF (s : ByteArray) (pre : List (Nat × Nat)) : List Value := pre.map fun p => Value.string (s.extract p.1 p.2)
theorem own_slice {w : World} {base : Nat} {e : TypeId} {size n : Nat} {v : Value} {xs : List Value} (h : w.ownsRow base e size v n xs) : ∃ A c, v = .slice A n c := by
 rcases h with ⟨_, ⟨rfl, rfl⟩ | ⟨g, cap, cur, rfl, _⟩⟩
 ·exact ⟨_, _, rfl⟩
 ·exact ⟨_, _, rfl⟩
theorem results_cell_slice {fn : Func} {p : Tmp} (h : fn.results = #[.cell p 23]) (tmps : Array Value) (w : World) (B : Nat) (A : Option Addr) (n c : Nat)
  (hp : tmps.getD p undef = .pointer (some ⟨B, 0, none⟩)) (hc : w.cell? ⟨B, 0, none⟩ = some (.slice A n c)) :
  (results fn tmps).run Tryz.prog w = .ok (.slice A n c) w := by
 have hp' : tmps[p]?.getD undef = .pointer (some ⟨B, 0, none⟩) := by simpa using hp
 have ha : (loadVar 23 ⟨B, 0, none⟩).run Tryz.prog w = .ok (.slice A n c) w := by go_simp
 simp [results, h, hp', asAddr, ha]
set_option maxRecDepth 100000 in
set_option maxHeartbeats 2000000 in
theorem Fields_cuts_in (n : Nat) (hn : 3 ≤ n) (s sep : ByteArray) (hs : s.size ≤ 1048576) (hq : sep.size ≤ 1048576) (hs0 : s.toList ≠ []) (hsep : sep.toList ≠ []) (hsp : sep.toList ≠ [32]) (hN : (cutsL s.data.toList sep.data.toList).length ≤ 32767) (m : Int) (w : World) (hml : w.cell? ⟨0, 0, none⟩ = some (.int .i64 m)) :
  CallsIn Fence.wide n Tryz.prog 10 #[.string s, .string sep] w fun e w' => ∃ v, e = .returned v ∧ w'.ownsRow w.heap.size 9 1 v (gotF s (cutsL s.data.toList sep.data.toList)).length (gotF s (cutsL s.data.toList sep.data.toList)) ∧ Below w.heap.size w w' := by
 have h1 : 1 ≤ n := by omega
 have hsep0 : (sep.toList == ([] : List UInt8)) = false := by simpa using hsep
 have hsp0 : (sep.toList == ([32] : List UInt8)) = false := by simpa using hsp
 have hs00 : (s.toList == ([] : List UInt8)) = false := by simpa using hs0
 have hsep' : sep.data.toList ≠ [] := by rwa [Lib.toList_data] at hsep
 have hgs : 0 < w.heap.size := by
  cases hx : w.heap[0]? with
  | none => simp [World.cell?, hx] at hml
  | some o => exact (Array.getElem?_eq_some_iff.1 hx).1
 refine callsIn_of_wp_marks Tryz.func10 rfl trivial ?_ rfl
 simp only [Tryz.ntmps10, List.size_toArray, List.length_cons, List.length_nil, Nat.reduceAdd, Nat.reduceSub, Array.replicate_succ, Array.replicate_zero, List.push_toArray, List.append_toArray, List.nil_append, List.cons_append]
 have hF : Fence.wide.fn 24 := trivial
 gi_wp2_with (gi_at_call 24; refine (cuts_in (n - 1) _ _ _).mono ?_; rintro e w' ⟨rfl, rfl⟩)
 have bT := ((((((Boxed.new w 9 (.string s)).alloc (.cells #[.slice none 0 0] 23)).alloc (.cells #[.int .i64 (s.size : Int)] 3)).alloc (.cells #[.string s] 9)).alloc (.cells #[.string sep] 9)).alloc (.cells #[.slice none 0 0] 23))
 have bR := (((((Boxed.new (w.alloc (.cells #[.string s] 9)) 23 (.slice none 0 0)).alloc (.cells #[.int .i64 (s.size : Int)] 3)).alloc (.cells #[.string s] 9)).alloc (.cells #[.string sep] 9)).alloc (.cells #[.slice none 0 0] 23))
 have b1 := (((Boxed.new (((w.alloc (.cells #[.string s] 9)).alloc (.cells #[.slice none 0 0] 23)).alloc (.cells #[.int .i64 (s.size : Int)] 3)) 9 (.string s)).alloc (.cells #[.string sep] 9)).alloc (.cells #[.slice none 0 0] 23))
 have b2 := ((Boxed.new ((((w.alloc (.cells #[.string s] 9)).alloc (.cells #[.slice none 0 0] 23)).alloc (.cells #[.int .i64 (s.size : Int)] 3)).alloc (.cells #[.string s] 9)) 9 (.string sep)).alloc (.cells #[.slice none 0 0] 23))
 have bO := (Boxed.new (((((w.alloc (.cells #[.string s] 9)).alloc (.cells #[.slice none 0 0] 23)).alloc (.cells #[.int .i64 (s.size : Int)] 3)).alloc (.cells #[.string s] 9)).alloc (.cells #[.string sep] 9)) 23 (.slice none 0 0))
 simp only [World.size_alloc] at bR b1 b2 bO
 have hB0 : Below w.heap.size w ((((((w.alloc (.cells #[.string s] 9)).alloc (.cells #[.slice none 0 0] 23)).alloc (.cells #[.int .i64 (s.size : Int)] 3)).alloc (.cells #[.string s] 9)).alloc (.cells #[.string sep] 9)).alloc (.cells #[.slice none 0 0] 23)) := ((((((Below.refl _ w).alloc (Nat.le_refl _) _).alloc (by simp) _).alloc (by simp; omega) _).alloc (by simp; omega) _).alloc (by simp; omega) _).alloc (by simp; omega) _
 have hml0 := (hB0.cell (p := ⟨0, 0, none⟩) hgs).trans hml
 generalize hW0 : ((((((w.alloc (.cells #[.string s] 9)).alloc (.cells #[.slice none 0 0] 23)).alloc (.cells #[.int .i64 (s.size : Int)] 3)).alloc (.cells #[.string s] 9)).alloc (.cells #[.string sep] 9)).alloc (.cells #[.slice none 0 0] 23)) = W0 at *
 have hsz : W0.heap.size = w.heap.size + 6 := by rw [← hW0]; simp
 clear hW0
 refine wpIn_rangeFunc_ownG rfl h1 (gf := 43) (lb := #[.pointer (some ⟨w.heap.size + 1 + 1 + 1, 0, none⟩), .pointer (some ⟨w.heap.size + 1 + 1 + 1 + 1, 0, none⟩)]) rfl trivial (enters_of Tryz.func43 (by kernel_rfl) rfl)
  (cuts_stops (n - 1) (by omega) _ _ (fun b => b = w.heap.size + 1 + 1 + 1 ∨ b = w.heap.size + 1 + 1 + 1 + 1 ∨ b = 0) s sep hs hq hsep' (.inl rfl) (.inr (.inl rfl)) (.inr (.inr rfl)) m W0 (by rintro b (rfl | rfl | rfl) <;> omega) b1.cell b2.cell hml0)
  Keeps.trans (fun W l o o' hl _ _ _ => Keeps.put (m := W0.heap.size) (by rintro b (rfl | rfl | rfl) <;> omega) W l o' hl) (Below.refl _ _) (fun _ => rfl)
  (fun pre W => ((∃ v, Boxed W (w.heap.size + 5) 23 v ∧ W.ownsRow (w.heap.size + 6) 9 1 v (gotF s (vals pre)).length (gotF s (vals pre)) ∧ True) ∧ Below w.heap.size W0 W) ∧ (Boxed W w.heap.size 9 (.string s) ∧ Boxed W (w.heap.size + 1) 23 (.slice none 0 0)))
  (fun _ _ _ => False)
  (OwnFrom.and (OwnFrom.and (Own.from (holdsRow_own (w.heap.size + 6) (w.heap.size + 5) 23 9 1 (fun pre => (gotF s (vals pre)).length) (fun pre => gotF s (vals pre)) (fun pre _ => True)) _) (ownFrom_below (by omega) (by omega))) (OwnFrom.and (boxed_own _ _ _ _ (by omega)) (boxed_own _ _ _ _ (by omega))))
  (fun _ _ _ _ _ hs _ _ => hs)
  ⟨⟨⟨_, bO, World.ownsRow_nil _ _ _ _, trivial⟩, Below.refl _ _⟩, bT, bR⟩
  (fun (x : Pc s) => { tmps := #[.string s, .string sep, .pointer (some ⟨w.heap.size, 0, none⟩), undef, .pointer (some ⟨w.heap.size + 1, 0, none⟩), .func (.func 43) #[] #[.pointer (some ⟨w.heap.size + 1 + 1 + 1, 0, none⟩), .pointer (some ⟨w.heap.size + 1 + 1 + 1 + 1, 0, none⟩)], .pointer (some ⟨w.heap.size + 1 + 1, 0, none⟩), .pointer (some ⟨w.heap.size + 1 + 1 + 1 + 1 + 1, 0, none⟩), .int .i64 (x.1.1 : Int), .int .i64 (x.1.2 : Int), .string s, .bool false, .string s, .int .i64 (s.size : Int), .string sep, .string s, .string sep, .func (.func 43) #[] #[.pointer (some ⟨w.heap.size + 1 + 1 + 1, 0, none⟩), .pointer (some ⟨w.heap.size + 1 + 1 + 1 + 1, 0, none⟩)], .bool false, .bool false, undef, undef, undef, undef, undef, undef, undef, undef, undef, undef, undef, undef, undef, .bool false, .bool false, undef, undef, .func (.func 43) #[] #[.pointer (some ⟨w.heap.size + 1 + 1 + 1, 0, none⟩), .pointer (some ⟨w.heap.size + 1 + 1 + 1 + 1, 0, none⟩)], .int .i64 (x.1.1 : Int), .int .i64 (x.1.2 : Int), undef, undef, undef, undef, undef, undef, undef, undef, undef, undef, undef, undef, undef, undef, undef, undef, undef, undef], defers := [] }) ?assign ?body ?done ?stop
 case assign =>
  intro l x W K hK
  simp only [encs]
  gi_wp2
  exact hK
 case body =>
  rintro l pre ⟨⟨x, y⟩, hxy, hys⟩ W ⟨⟨⟨v, hv, hrow, _⟩, hB⟩, hT, hR⟩ hlt
  obtain ⟨A, c, rfl⟩ := own_slice hrow
  have hcT := hT.cell
  have hcO := hv.cell
  have hHX := Aside.mk (And.intro hxy hys)
  have hglen : (gotF s (vals pre)).length = pre.length := by simp [gotF, vals]
  have hne : (((gotF s (vals pre)).length : Int) == 32767) = false := by
   rw [beq_eq_false_iff_ne]; omega
  have HG := Aside.mk hglen
  clear hglen
  gi_wp2
  have hx1 := hHX.out.1
  have hx2 := hHX.out.2
  have hcT1 : W.drew.cell? ⟨w.heap.size, 0, none⟩ = some (Value.string s) := hcT
  have hcO1 : W.drew.cell? ⟨w.heap.size + 1 + 1 + 1 + 1 + 1, 0, none⟩ = some (.slice A (gotF s (vals pre)).length c) := hcO
  have hcO2 : ∀ o : Obj, (W.alloc o).cell? ⟨w.heap.size + 1 + 1 + 1 + 1 + 1, 0, none⟩ = some (.slice A (gotF s (vals pre)).length c) := fun o => (hv.alloc o).cell
  refine wpIn_region_any (by kernel_rfl) ?_
  change wpAnyIn _ _ _ _ _ _ _ _ _ (World.drew _)
  apply suff_
  ·intro H
   refine wpAnyIn_ready (rs := [0, 1, 2, 3]) (by kernel_rfl) (by simp) ?_
   refine AllReadyIn.cons rfl (fun K hK => ?_) ?_
   ·go_simp; refine hK _ _ ?_; clear hK K
    refine wpAnyIn_ready (rs := [1, 2, 3]) (by kernel_rfl) (by simp) ?_
    refine AllReadyIn.cons rfl (fun K hK => ?_) ?_
    ·go_simp; refine hK _ _ ?_; clear hK K
     refine wpAnyIn_ready (rs := [2, 3]) (by kernel_rfl) (by simp) ?_
     refine AllReadyIn.cons rfl (fun K hK => ?_) ?_
     ·go_simp; refine hK _ _ ?_; clear hK K
      refine wpAnyIn_ready (rs := [3]) (by kernel_rfl) (by simp) ?_
      refine AllReadyIn.cons rfl (fun K hK => ?_) ?_
      ·go_simp; refine hK _ _ ?_; clear hK K
       refine wpAnyIn_ready (rs := [4]) (by kernel_rfl) (by simp) ?_
       refine AllReadyIn.cons rfl (fun K hK => ?_) ?_
       ·go_simp; refine hK _ _ ?_; clear hK K
        refine wpAnyIn_ready (rs := [5]) (by kernel_rfl) (by simp) ?_
        refine AllReadyIn.cons rfl (fun K hK => ?_) ?_
        ·go_simp; refine hK _ _ ?_; clear hK K
         exact H
        exact AllReadyIn.nil
       exact AllReadyIn.nil
      exact AllReadyIn.nil
     refine AllReadyIn.cons rfl (fun K hK => ?_) ?_
     ·go_simp; refine hK _ _ ?_; clear hK K
      refine wpAnyIn_ready (rs := [2]) (by kernel_rfl) (by simp) ?_
      refine AllReadyIn.cons rfl (fun K hK => ?_) ?_
      ·go_simp; refine hK _ _ ?_; clear hK K
       refine wpAnyIn_ready (rs := [4]) (by kernel_rfl) (by simp) ?_
       refine AllReadyIn.cons rfl (fun K hK => ?_) ?_
       ·go_simp; refine hK _ _ ?_; clear hK K
        refine wpAnyIn_ready (rs := [5]) (by kernel_rfl) (by simp) ?_
        refine AllReadyIn.cons rfl (fun K hK => ?_) ?_
        ·go_simp; refine hK _ _ ?_; clear hK K
         exact H
        exact AllReadyIn.nil
       exact AllReadyIn.nil
      exact AllReadyIn.nil
     exact AllReadyIn.nil
    refine AllReadyIn.cons rfl (fun K hK => ?_) ?_
    ·go_simp; refine hK _ _ ?_; clear hK K
     refine wpAnyIn_ready (rs := [1, 3]) (by kernel_rfl) (by simp) ?_
     refine AllReadyIn.cons rfl (fun K hK => ?_) ?_
     ·go_simp; refine hK _ _ ?_; clear hK K
      refine wpAnyIn_ready (rs := [3]) (by kernel_rfl) (by simp) ?_
      refine AllReadyIn.cons rfl (fun K hK => ?_) ?_
      ·go_simp; refine hK _ _ ?_; clear hK K
       refine wpAnyIn_ready (rs := [4]) (by kernel_rfl) (by simp) ?_
       refine AllReadyIn.cons rfl (fun K hK => ?_) ?_
       ·go_simp; refine hK _ _ ?_; clear hK K
        refine wpAnyIn_ready (rs := [5]) (by kernel_rfl) (by simp) ?_
        refine AllReadyIn.cons rfl (fun K hK => ?_) ?_
        ·go_simp; refine hK _ _ ?_; clear hK K
         exact H
        exact AllReadyIn.nil
       exact AllReadyIn.nil
      exact AllReadyIn.nil
     refine AllReadyIn.cons rfl (fun K hK => ?_) ?_
     ·go_simp; refine hK _ _ ?_; clear hK K
      refine wpAnyIn_ready (rs := [1]) (by kernel_rfl) (by simp) ?_
      refine AllReadyIn.cons rfl (fun K hK => ?_) ?_
      ·go_simp; refine hK _ _ ?_; clear hK K
       refine wpAnyIn_ready (rs := [4]) (by kernel_rfl) (by simp) ?_
       refine AllReadyIn.cons rfl (fun K hK => ?_) ?_
       ·go_simp; refine hK _ _ ?_; clear hK K
        refine wpAnyIn_ready (rs := [5]) (by kernel_rfl) (by simp) ?_
        refine AllReadyIn.cons rfl (fun K hK => ?_) ?_
        ·go_simp; refine hK _ _ ?_; clear hK K
         exact H
        exact AllReadyIn.nil
       exact AllReadyIn.nil
      exact AllReadyIn.nil
     exact AllReadyIn.nil
    refine AllReadyIn.cons rfl (fun K hK => ?_) ?_
    ·go_simp; refine hK _ _ ?_; clear hK K
     refine wpAnyIn_ready (rs := [1, 2]) (by kernel_rfl) (by simp) ?_
     refine AllReadyIn.cons rfl (fun K hK => ?_) ?_
     ·go_simp; refine hK _ _ ?_; clear hK K
      refine wpAnyIn_ready (rs := [2]) (by kernel_rfl) (by simp) ?_
      refine AllReadyIn.cons rfl (fun K hK => ?_) ?_
      ·go_simp; refine hK _ _ ?_; clear hK K
       refine wpAnyIn_ready (rs := [4]) (by kernel_rfl) (by simp) ?_
       refine AllReadyIn.cons rfl (fun K hK => ?_) ?_
       ·go_simp; refine hK _ _ ?_; clear hK K
        refine wpAnyIn_ready (rs := [5]) (by kernel_rfl) (by simp) ?_
        refine AllReadyIn.cons rfl (fun K hK => ?_) ?_
        ·go_simp; refine hK _ _ ?_; clear hK K
         exact H
        exact AllReadyIn.nil
       exact AllReadyIn.nil
      exact AllReadyIn.nil
     refine AllReadyIn.cons rfl (fun K hK => ?_) ?_
     ·go_simp; refine hK _ _ ?_; clear hK K
      refine wpAnyIn_ready (rs := [1]) (by kernel_rfl) (by simp) ?_
      refine AllReadyIn.cons rfl (fun K hK => ?_) ?_
      ·go_simp; refine hK _ _ ?_; clear hK K
       refine wpAnyIn_ready (rs := [4]) (by kernel_rfl) (by simp) ?_
       refine AllReadyIn.cons rfl (fun K hK => ?_) ?_
       ·go_simp; refine hK _ _ ?_; clear hK K
        refine wpAnyIn_ready (rs := [5]) (by kernel_rfl) (by simp) ?_
        refine AllReadyIn.cons rfl (fun K hK => ?_) ?_
        ·go_simp; refine hK _ _ ?_; clear hK K
         exact H
        exact AllReadyIn.nil
       exact AllReadyIn.nil
      exact AllReadyIn.nil
     exact AllReadyIn.nil
    exact AllReadyIn.nil
   refine AllReadyIn.cons rfl (fun K hK => ?_) ?_
   ·go_simp; refine hK _ _ ?_; clear hK K
    refine wpAnyIn_ready (rs := [0, 2, 3]) (by kernel_rfl) (by simp) ?_
    refine AllReadyIn.cons rfl (fun K hK => ?_) ?_
    ·go_simp; refine hK _ _ ?_; clear hK K
     refine wpAnyIn_ready (rs := [2, 3]) (by kernel_rfl) (by simp) ?_
     refine AllReadyIn.cons rfl (fun K hK => ?_) ?_
     ·go_simp; refine hK _ _ ?_; clear hK K
      refine wpAnyIn_ready (rs := [3]) (by kernel_rfl) (by simp) ?_
      refine AllReadyIn.cons rfl (fun K hK => ?_) ?_
      ·go_simp; refine hK _ _ ?_; clear hK K
       refine wpAnyIn_ready (rs := [4]) (by kernel_rfl) (by simp) ?_
       refine AllReadyIn.cons rfl (fun K hK => ?_) ?_
       ·go_simp; refine hK _ _ ?_; clear hK K
        refine wpAnyIn_ready (rs := [5]) (by kernel_rfl) (by simp) ?_
        refine AllReadyIn.cons rfl (fun K hK => ?_) ?_
        ·go_simp; refine hK _ _ ?_; clear hK K
         exact H
        exact AllReadyIn.nil
       exact AllReadyIn.nil
      exact AllReadyIn.nil
     refine AllReadyIn.cons rfl (fun K hK => ?_) ?_
     ·go_simp; refine hK _ _ ?_; clear hK K
      refine wpAnyIn_ready (rs := [2]) (by kernel_rfl) (by simp) ?_
      refine AllReadyIn.cons rfl (fun K hK => ?_) ?_
      ·go_simp; refine hK _ _ ?_; clear hK K
       refine wpAnyIn_ready (rs := [4]) (by kernel_rfl) (by simp) ?_
       refine AllReadyIn.cons rfl (fun K hK => ?_) ?_
       ·go_simp; refine hK _ _ ?_; clear hK K
        refine wpAnyIn_ready (rs := [5]) (by kernel_rfl) (by simp) ?_
        refine AllReadyIn.cons rfl (fun K hK => ?_) ?_
        ·go_simp; refine hK _ _ ?_; clear hK K
         exact H
        exact AllReadyIn.nil
       exact AllReadyIn.nil
      exact AllReadyIn.nil
     exact AllReadyIn.nil
    refine AllReadyIn.cons rfl (fun K hK => ?_) ?_
    ·go_simp; refine hK _ _ ?_; clear hK K
     refine wpAnyIn_ready (rs := [0, 3]) (by kernel_rfl) (by simp) ?_
     refine AllReadyIn.cons rfl (fun K hK => ?_) ?_
     ·go_simp; refine hK _ _ ?_; clear hK K
      refine wpAnyIn_ready (rs := [3]) (by kernel_rfl) (by simp) ?_
      refine AllReadyIn.cons rfl (fun K hK => ?_) ?_
      ·go_simp; refine hK _ _ ?_; clear hK K
       refine wpAnyIn_ready (rs := [4]) (by kernel_rfl) (by simp) ?_
       refine AllReadyIn.cons rfl (fun K hK => ?_) ?_
       ·go_simp; refine hK _ _ ?_; clear hK K
        refine wpAnyIn_ready (rs := [5]) (by kernel_rfl) (by simp) ?_
        refine AllReadyIn.cons rfl (fun K hK => ?_) ?_
        ·go_simp; refine hK _ _ ?_; clear hK K
         exact H
        exact AllReadyIn.nil
       exact AllReadyIn.nil
      exact AllReadyIn.nil
     refine AllReadyIn.cons rfl (fun K hK => ?_) ?_
     ·go_simp; refine hK _ _ ?_; clear hK K
      refine wpAnyIn_ready (rs := [0, 4]) (by kernel_rfl) (by simp) ?_
      refine AllReadyIn.cons rfl (fun K hK => ?_) ?_
      ·go_simp; refine hK _ _ ?_; clear hK K
       refine wpAnyIn_ready (rs := [4]) (by kernel_rfl) (by simp) ?_
       refine AllReadyIn.cons rfl (fun K hK => ?_) ?_
       ·go_simp; refine hK _ _ ?_; clear hK K
        refine wpAnyIn_ready (rs := [5]) (by kernel_rfl) (by simp) ?_
        refine AllReadyIn.cons rfl (fun K hK => ?_) ?_
        ·go_simp; refine hK _ _ ?_; clear hK K
         exact H
        exact AllReadyIn.nil
       exact AllReadyIn.nil
      refine AllReadyIn.cons rfl (fun K hK => ?_) ?_
      ·go_simp; refine hK _ _ ?_; clear hK K
       refine wpAnyIn_ready (rs := [0, 5]) (by kernel_rfl) (by simp) ?_
       refine AllReadyIn.cons rfl (fun K hK => ?_) ?_
       ·go_simp; refine hK _ _ ?_; clear hK K
        refine wpAnyIn_ready (rs := [5]) (by kernel_rfl) (by simp) ?_
        refine AllReadyIn.cons rfl (fun K hK => ?_) ?_
        ·go_simp; refine hK _ _ ?_; clear hK K
         exact H
        exact AllReadyIn.nil
       refine AllReadyIn.cons rfl (fun K hK => ?_) ?_
       ·go_simp; refine hK _ _ ?_; clear hK K
        refine wpAnyIn_ready (rs := [0]) (by kernel_rfl) (by simp) ?_
        refine AllReadyIn.cons rfl (fun K hK => ?_) ?_
        ·go_simp; refine hK _ _ ?_; clear hK K
         exact H
        exact AllReadyIn.nil
       exact AllReadyIn.nil
      exact AllReadyIn.nil
     exact AllReadyIn.nil
    refine AllReadyIn.cons rfl (fun K hK => ?_) ?_
    ·go_simp; refine hK _ _ ?_; clear hK K
     refine wpAnyIn_ready (rs := [0, 2]) (by kernel_rfl) (by simp) ?_
     refine AllReadyIn.cons rfl (fun K hK => ?_) ?_
     ·go_simp; refine hK _ _ ?_; clear hK K
      refine wpAnyIn_ready (rs := [2]) (by kernel_rfl) (by simp) ?_
      refine AllReadyIn.cons rfl (fun K hK => ?_) ?_
      ·go_simp; refine hK _ _ ?_; clear hK K
       refine wpAnyIn_ready (rs := [4]) (by kernel_rfl) (by simp) ?_
       refine AllReadyIn.cons rfl (fun K hK => ?_) ?_
       ·go_simp; refine hK _ _ ?_; clear hK K
        refine wpAnyIn_ready (rs := [5]) (by kernel_rfl) (by simp) ?_
        refine AllReadyIn.cons rfl (fun K hK => ?_) ?_
        ·go_simp; refine hK _ _ ?_; clear hK K
         exact H
        exact AllReadyIn.nil
       exact AllReadyIn.nil
      exact AllReadyIn.nil
     refine AllReadyIn.cons rfl (fun K hK => ?_) ?_
     ·go_simp; refine hK _ _ ?_; clear hK K
      refine wpAnyIn_ready (rs := [0, 4]) (by kernel_rfl) (by simp) ?_
      refine AllReadyIn.cons rfl (fun K hK => ?_) ?_
      ·go_simp; refine hK _ _ ?_; clear hK K
       refine wpAnyIn_ready (rs := [4]) (by kernel_rfl) (by simp) ?_
       refine AllReadyIn.cons rfl (fun K hK => ?_) ?_
       ·go_simp; refine hK _ _ ?_; clear hK K
        refine wpAnyIn_ready (rs := [5]) (by kernel_rfl) (by simp) ?_
        refine AllReadyIn.cons rfl (fun K hK => ?_) ?_
        ·go_simp; refine hK _ _ ?_; clear hK K
         exact H
        exact AllReadyIn.nil
       exact AllReadyIn.nil
      refine AllReadyIn.cons rfl (fun K hK => ?_) ?_
      ·go_simp; refine hK _ _ ?_; clear hK K
       refine wpAnyIn_ready (rs := [0, 5]) (by kernel_rfl) (by simp) ?_
       refine AllReadyIn.cons rfl (fun K hK => ?_) ?_
       ·go_simp; refine hK _ _ ?_; clear hK K
        refine wpAnyIn_ready (rs := [5]) (by kernel_rfl) (by simp) ?_
        refine AllReadyIn.cons rfl (fun K hK => ?_) ?_
        ·go_simp; refine hK _ _ ?_; clear hK K
         exact H
        exact AllReadyIn.nil
       refine AllReadyIn.cons rfl (fun K hK => ?_) ?_
       ·go_simp; refine hK _ _ ?_; clear hK K
        refine wpAnyIn_ready (rs := [0]) (by kernel_rfl) (by simp) ?_
        refine AllReadyIn.cons rfl (fun K hK => ?_) ?_
        ·go_simp; refine hK _ _ ?_; clear hK K
         exact H
        exact AllReadyIn.nil
       exact AllReadyIn.nil
      exact AllReadyIn.nil
     exact AllReadyIn.nil
    exact AllReadyIn.nil
   refine AllReadyIn.cons rfl (fun K hK => ?_) ?_
   ·go_simp; refine hK _ _ ?_; clear hK K
    refine wpAnyIn_ready (rs := [0, 1, 3]) (by kernel_rfl) (by simp) ?_
    refine AllReadyIn.cons rfl (fun K hK => ?_) ?_
    ·go_simp; refine hK _ _ ?_; clear hK K
     refine wpAnyIn_ready (rs := [1, 3]) (by kernel_rfl) (by simp) ?_
     refine AllReadyIn.cons rfl (fun K hK => ?_) ?_
     ·go_simp; refine hK _ _ ?_; clear hK K
      refine wpAnyIn_ready (rs := [3]) (by kernel_rfl) (by simp) ?_
      refine AllReadyIn.cons rfl (fun K hK => ?_) ?_
      ·go_simp; refine hK _ _ ?_; clear hK K
       refine wpAnyIn_ready (rs := [4]) (by kernel_rfl) (by simp) ?_
       refine AllReadyIn.cons rfl (fun K hK => ?_) ?_
       ·go_simp; refine hK _ _ ?_; clear hK K
        refine wpAnyIn_ready (rs := [5]) (by kernel_rfl) (by simp) ?_
        refine AllReadyIn.cons rfl (fun K hK => ?_) ?_
        ·go_simp; refine hK _ _ ?_; clear hK K
         exact H
        exact AllReadyIn.nil
       exact AllReadyIn.nil
      exact AllReadyIn.nil
     refine AllReadyIn.cons rfl (fun K hK => ?_) ?_
     ·go_simp; refine hK _ _ ?_; clear hK K
      refine wpAnyIn_ready (rs := [1]) (by kernel_rfl) (by simp) ?_
      refine AllReadyIn.cons rfl (fun K hK => ?_) ?_
      ·go_simp; refine hK _ _ ?_; clear hK K
       refine wpAnyIn_ready (rs := [4]) (by kernel_rfl) (by simp) ?_
       refine AllReadyIn.cons rfl (fun K hK => ?_) ?_
       ·go_simp; refine hK _ _ ?_; clear hK K
        refine wpAnyIn_ready (rs := [5]) (by kernel_rfl) (by simp) ?_
        refine AllReadyIn.cons rfl (fun K hK => ?_) ?_
        ·go_simp; refine hK _ _ ?_; clear hK K
         exact H
        exact AllReadyIn.nil
       exact AllReadyIn.nil
      exact AllReadyIn.nil
     exact AllReadyIn.nil
    refine AllReadyIn.cons rfl (fun K hK => ?_) ?_
    ·go_simp; refine hK _ _ ?_; clear hK K
     refine wpAnyIn_ready (rs := [0, 3]) (by kernel_rfl) (by simp) ?_
     refine AllReadyIn.cons rfl (fun K hK => ?_) ?_
     ·go_simp; refine hK _ _ ?_; clear hK K
      refine wpAnyIn_ready (rs := [3]) (by kernel_rfl) (by simp) ?_
      refine AllReadyIn.cons rfl (fun K hK => ?_) ?_
      ·go_simp; refine hK _ _ ?_; clear hK K
       refine wpAnyIn_ready (rs := [4]) (by kernel_rfl) (by simp) ?_
       refine AllReadyIn.cons rfl (fun K hK => ?_) ?_
       ·go_simp; refine hK _ _ ?_; clear hK K
        refine wpAnyIn_ready (rs := [5]) (by kernel_rfl) (by simp) ?_
        refine AllReadyIn.cons rfl (fun K hK => ?_) ?_
        ·go_simp; refine hK _ _ ?_; clear hK K
         exact H
        exact AllReadyIn.nil
       exact AllReadyIn.nil
      exact AllReadyIn.nil
     refine AllReadyIn.cons rfl (fun K hK => ?_) ?_
     ·go_simp; refine hK _ _ ?_; clear hK K
      refine wpAnyIn_ready (rs := [0, 4]) (by kernel_rfl) (by simp) ?_
      refine AllReadyIn.cons rfl (fun K hK => ?_) ?_
      ·go_simp; refine hK _ _ ?_; clear hK K
       refine wpAnyIn_ready (rs := [4]) (by kernel_rfl) (by simp) ?_
       refine AllReadyIn.cons rfl (fun K hK => ?_) ?_
       ·go_simp; refine hK _ _ ?_; clear hK K
        refine wpAnyIn_ready (rs := [5]) (by kernel_rfl) (by simp) ?_
        refine AllReadyIn.cons rfl (fun K hK => ?_) ?_
        ·go_simp; refine hK _ _ ?_; clear hK K
         exact H
        exact AllReadyIn.nil
       exact AllReadyIn.nil
      refine AllReadyIn.cons rfl (fun K hK => ?_) ?_
      ·go_simp; refine hK _ _ ?_; clear hK K
       refine wpAnyIn_ready (rs := [0, 5]) (by kernel_rfl) (by simp) ?_
       refine AllReadyIn.cons rfl (fun K hK => ?_) ?_
       ·go_simp; refine hK _ _ ?_; clear hK K
        refine wpAnyIn_ready (rs := [5]) (by kernel_rfl) (by simp) ?_
        refine AllReadyIn.cons rfl (fun K hK => ?_) ?_
        ·go_simp; refine hK _ _ ?_; clear hK K
         exact H
        exact AllReadyIn.nil
       refine AllReadyIn.cons rfl (fun K hK => ?_) ?_
       ·go_simp; refine hK _ _ ?_; clear hK K
        refine wpAnyIn_ready (rs := [0]) (by kernel_rfl) (by simp) ?_
        refine AllReadyIn.cons rfl (fun K hK => ?_) ?_
        ·go_simp; refine hK _ _ ?_; clear hK K
         exact H
        exact AllReadyIn.nil
       exact AllReadyIn.nil
      exact AllReadyIn.nil
     exact AllReadyIn.nil
    refine AllReadyIn.cons rfl (fun K hK => ?_) ?_
    ·go_simp; refine hK _ _ ?_; clear hK K
     refine wpAnyIn_ready (rs := [0, 1]) (by kernel_rfl) (by simp) ?_
     refine AllReadyIn.cons rfl (fun K hK => ?_) ?_
     ·go_simp; refine hK _ _ ?_; clear hK K
      refine wpAnyIn_ready (rs := [1]) (by kernel_rfl) (by simp) ?_
      refine AllReadyIn.cons rfl (fun K hK => ?_) ?_
      ·go_simp; refine hK _ _ ?_; clear hK K
       refine wpAnyIn_ready (rs := [4]) (by kernel_rfl) (by simp) ?_
       refine AllReadyIn.cons rfl (fun K hK => ?_) ?_
       ·go_simp; refine hK _ _ ?_; clear hK K
        refine wpAnyIn_ready (rs := [5]) (by kernel_rfl) (by simp) ?_
        refine AllReadyIn.cons rfl (fun K hK => ?_) ?_
        ·go_simp; refine hK _ _ ?_; clear hK K
         exact H
        exact AllReadyIn.nil
       exact AllReadyIn.nil
      exact AllReadyIn.nil
     refine AllReadyIn.cons rfl (fun K hK => ?_) ?_
     ·go_simp; refine hK _ _ ?_; clear hK K
      refine wpAnyIn_ready (rs := [0, 4]) (by kernel_rfl) (by simp) ?_
      refine AllReadyIn.cons rfl (fun K hK => ?_) ?_
      ·go_simp; refine hK _ _ ?_; clear hK K
       refine wpAnyIn_ready (rs := [4]) (by kernel_rfl) (by simp) ?_
       refine AllReadyIn.cons rfl (fun K hK => ?_) ?_
       ·go_simp; refine hK _ _ ?_; clear hK K
        refine wpAnyIn_ready (rs := [5]) (by kernel_rfl) (by simp) ?_
        refine AllReadyIn.cons rfl (fun K hK => ?_) ?_
        ·go_simp; refine hK _ _ ?_; clear hK K
         exact H
        exact AllReadyIn.nil
       exact AllReadyIn.nil
      refine AllReadyIn.cons rfl (fun K hK => ?_) ?_
      ·go_simp; refine hK _ _ ?_; clear hK K
       refine wpAnyIn_ready (rs := [0, 5]) (by kernel_rfl) (by simp) ?_
       refine AllReadyIn.cons rfl (fun K hK => ?_) ?_
       ·go_simp; refine hK _ _ ?_; clear hK K
        refine wpAnyIn_ready (rs := [5]) (by kernel_rfl) (by simp) ?_
        refine AllReadyIn.cons rfl (fun K hK => ?_) ?_
        ·go_simp; refine hK _ _ ?_; clear hK K
         exact H
        exact AllReadyIn.nil
       refine AllReadyIn.cons rfl (fun K hK => ?_) ?_
       ·go_simp; refine hK _ _ ?_; clear hK K
        refine wpAnyIn_ready (rs := [0]) (by kernel_rfl) (by simp) ?_
        refine AllReadyIn.cons rfl (fun K hK => ?_) ?_
        ·go_simp; refine hK _ _ ?_; clear hK K
         exact H
        exact AllReadyIn.nil
       exact AllReadyIn.nil
      exact AllReadyIn.nil
     exact AllReadyIn.nil
    exact AllReadyIn.nil
   refine AllReadyIn.cons rfl (fun K hK => ?_) ?_
   ·go_simp; refine hK _ _ ?_; clear hK K
    refine wpAnyIn_ready (rs := [0, 1, 2]) (by kernel_rfl) (by simp) ?_
    refine AllReadyIn.cons rfl (fun K hK => ?_) ?_
    ·go_simp; refine hK _ _ ?_; clear hK K
     refine wpAnyIn_ready (rs := [1, 2]) (by kernel_rfl) (by simp) ?_
     refine AllReadyIn.cons rfl (fun K hK => ?_) ?_
     ·go_simp; refine hK _ _ ?_; clear hK K
      refine wpAnyIn_ready (rs := [2]) (by kernel_rfl) (by simp) ?_
      refine AllReadyIn.cons rfl (fun K hK => ?_) ?_
      ·go_simp; refine hK _ _ ?_; clear hK K
       refine wpAnyIn_ready (rs := [4]) (by kernel_rfl) (by simp) ?_
       refine AllReadyIn.cons rfl (fun K hK => ?_) ?_
       ·go_simp; refine hK _ _ ?_; clear hK K
        refine wpAnyIn_ready (rs := [5]) (by kernel_rfl) (by simp) ?_
        refine AllReadyIn.cons rfl (fun K hK => ?_) ?_
        ·go_simp; refine hK _ _ ?_; clear hK K
         exact H
        exact AllReadyIn.nil
       exact AllReadyIn.nil
      exact AllReadyIn.nil
     refine AllReadyIn.cons rfl (fun K hK => ?_) ?_
     ·go_simp; refine hK _ _ ?_; clear hK K
      refine wpAnyIn_ready (rs := [1]) (by kernel_rfl) (by simp) ?_
      refine AllReadyIn.cons rfl (fun K hK => ?_) ?_
      ·go_simp; refine hK _ _ ?_; clear hK K
       refine wpAnyIn_ready (rs := [4]) (by kernel_rfl) (by simp) ?_
       refine AllReadyIn.cons rfl (fun K hK => ?_) ?_
       ·go_simp; refine hK _ _ ?_; clear hK K
        refine wpAnyIn_ready (rs := [5]) (by kernel_rfl) (by simp) ?_
        refine AllReadyIn.cons rfl (fun K hK => ?_) ?_
        ·go_simp; refine hK _ _ ?_; clear hK K
         exact H
        exact AllReadyIn.nil
       exact AllReadyIn.nil
      exact AllReadyIn.nil
     exact AllReadyIn.nil
    refine AllReadyIn.cons rfl (fun K hK => ?_) ?_
    ·go_simp; refine hK _ _ ?_; clear hK K
     refine wpAnyIn_ready (rs := [0, 2]) (by kernel_rfl) (by simp) ?_
     refine AllReadyIn.cons rfl (fun K hK => ?_) ?_
     ·go_simp; refine hK _ _ ?_; clear hK K
      refine wpAnyIn_ready (rs := [2]) (by kernel_rfl) (by simp) ?_
      refine AllReadyIn.cons rfl (fun K hK => ?_) ?_
      ·go_simp; refine hK _ _ ?_; clear hK K
       refine wpAnyIn_ready (rs := [4]) (by kernel_rfl) (by simp) ?_
       refine AllReadyIn.cons rfl (fun K hK => ?_) ?_
       ·go_simp; refine hK _ _ ?_; clear hK K
        refine wpAnyIn_ready (rs := [5]) (by kernel_rfl) (by simp) ?_
        refine AllReadyIn.cons rfl (fun K hK => ?_) ?_
        ·go_simp; refine hK _ _ ?_; clear hK K
         exact H
        exact AllReadyIn.nil
       exact AllReadyIn.nil
      exact AllReadyIn.nil
     refine AllReadyIn.cons rfl (fun K hK => ?_) ?_
     ·go_simp; refine hK _ _ ?_; clear hK K
      refine wpAnyIn_ready (rs := [0, 4]) (by kernel_rfl) (by simp) ?_
      refine AllReadyIn.cons rfl (fun K hK => ?_) ?_
      ·go_simp; refine hK _ _ ?_; clear hK K
       refine wpAnyIn_ready (rs := [4]) (by kernel_rfl) (by simp) ?_
       refine AllReadyIn.cons rfl (fun K hK => ?_) ?_
       ·go_simp; refine hK _ _ ?_; clear hK K
        refine wpAnyIn_ready (rs := [5]) (by kernel_rfl) (by simp) ?_
        refine AllReadyIn.cons rfl (fun K hK => ?_) ?_
        ·go_simp; refine hK _ _ ?_; clear hK K
         exact H
        exact AllReadyIn.nil
       exact AllReadyIn.nil
      refine AllReadyIn.cons rfl (fun K hK => ?_) ?_
      ·go_simp; refine hK _ _ ?_; clear hK K
       refine wpAnyIn_ready (rs := [0, 5]) (by kernel_rfl) (by simp) ?_
       refine AllReadyIn.cons rfl (fun K hK => ?_) ?_
       ·go_simp; refine hK _ _ ?_; clear hK K
        refine wpAnyIn_ready (rs := [5]) (by kernel_rfl) (by simp) ?_
        refine AllReadyIn.cons rfl (fun K hK => ?_) ?_
        ·go_simp; refine hK _ _ ?_; clear hK K
         exact H
        exact AllReadyIn.nil
       refine AllReadyIn.cons rfl (fun K hK => ?_) ?_
       ·go_simp; refine hK _ _ ?_; clear hK K
        refine wpAnyIn_ready (rs := [0]) (by kernel_rfl) (by simp) ?_
        refine AllReadyIn.cons rfl (fun K hK => ?_) ?_
        ·go_simp; refine hK _ _ ?_; clear hK K
         exact H
        exact AllReadyIn.nil
       exact AllReadyIn.nil
      exact AllReadyIn.nil
     exact AllReadyIn.nil
    refine AllReadyIn.cons rfl (fun K hK => ?_) ?_
    ·go_simp; refine hK _ _ ?_; clear hK K
     refine wpAnyIn_ready (rs := [0, 1]) (by kernel_rfl) (by simp) ?_
     refine AllReadyIn.cons rfl (fun K hK => ?_) ?_
     ·go_simp; refine hK _ _ ?_; clear hK K
      refine wpAnyIn_ready (rs := [1]) (by kernel_rfl) (by simp) ?_
      refine AllReadyIn.cons rfl (fun K hK => ?_) ?_
      ·go_simp; refine hK _ _ ?_; clear hK K
       refine wpAnyIn_ready (rs := [4]) (by kernel_rfl) (by simp) ?_
       refine AllReadyIn.cons rfl (fun K hK => ?_) ?_
       ·go_simp; refine hK _ _ ?_; clear hK K
        refine wpAnyIn_ready (rs := [5]) (by kernel_rfl) (by simp) ?_
        refine AllReadyIn.cons rfl (fun K hK => ?_) ?_
        ·go_simp; refine hK _ _ ?_; clear hK K
         exact H
        exact AllReadyIn.nil
       exact AllReadyIn.nil
      exact AllReadyIn.nil
     refine AllReadyIn.cons rfl (fun K hK => ?_) ?_
     ·go_simp; refine hK _ _ ?_; clear hK K
      refine wpAnyIn_ready (rs := [0, 4]) (by kernel_rfl) (by simp) ?_
      refine AllReadyIn.cons rfl (fun K hK => ?_) ?_
      ·go_simp; refine hK _ _ ?_; clear hK K
       refine wpAnyIn_ready (rs := [4]) (by kernel_rfl) (by simp) ?_
       refine AllReadyIn.cons rfl (fun K hK => ?_) ?_
       ·go_simp; refine hK _ _ ?_; clear hK K
        refine wpAnyIn_ready (rs := [5]) (by kernel_rfl) (by simp) ?_
        refine AllReadyIn.cons rfl (fun K hK => ?_) ?_
        ·go_simp; refine hK _ _ ?_; clear hK K
         exact H
        exact AllReadyIn.nil
       exact AllReadyIn.nil
      refine AllReadyIn.cons rfl (fun K hK => ?_) ?_
      ·go_simp; refine hK _ _ ?_; clear hK K
       refine wpAnyIn_ready (rs := [0, 5]) (by kernel_rfl) (by simp) ?_
       refine AllReadyIn.cons rfl (fun K hK => ?_) ?_
       ·go_simp; refine hK _ _ ?_; clear hK K
        refine wpAnyIn_ready (rs := [5]) (by kernel_rfl) (by simp) ?_
        refine AllReadyIn.cons rfl (fun K hK => ?_) ?_
        ·go_simp; refine hK _ _ ?_; clear hK K
         exact H
        exact AllReadyIn.nil
       refine AllReadyIn.cons rfl (fun K hK => ?_) ?_
       ·go_simp; refine hK _ _ ?_; clear hK K
        refine wpAnyIn_ready (rs := [0]) (by kernel_rfl) (by simp) ?_
        refine AllReadyIn.cons rfl (fun K hK => ?_) ?_
        ·go_simp; refine hK _ _ ?_; clear hK K
         exact H
        exact AllReadyIn.nil
       exact AllReadyIn.nil
      exact AllReadyIn.nil
     exact AllReadyIn.nil
    exact AllReadyIn.nil
   exact AllReadyIn.nil
  ·obtain ⟨i0, hi, hz0, hz1, hz2⟩ := info_parts infoS
   have hrowS := own_lower hrow (show w.heap.size ≤ w.heap.size + 6 by omega)
   have hWs : w.heap.size + 6 ≤ W.heap.size := hsz ▸ hB.size
   have hmore : gotF s (vals (pre ++ [⟨(x, y), hxy, hys⟩])) = gotF s (vals pre) ++ [.string (s.extract x y)] := by rw [vals_snoc]; simp [gotF]
   have hpl := HG.out
   refine wpAnyIn_ready (rs := [6]) (by kernel_rfl) (by simp) ?_
   refine AllReadyIn.cons rfl (fun K hK => ?_) ?_
   ·rw [if_pos (by kernel_rfl)]
    refine wpIn_append_own _ (.tmp 50) (.tmp 55) 23 rfl (w.heap.size + 6) 9 i0 (.string ByteArray.empty) 1 16 (by kernel_rfl) hi hz0 hz1 hz2 rfl (by decide) _ _ _ rfl (own_drew (hrow.alloc _)) ⟨W.heap.size, 0, none⟩ 1 1 [.string (s.extract x y)] rfl rfl (cell_one_new W _ _) (by simp [Value.oneCell']) (by simp only [maxLen]; omega) (by omega) (by simp; omega) ?_
    intro v' w1 hown' hgrow _
    refine hK _ _ ?_
    clear hK K
    obtain ⟨g', cap', rfl⟩ := ownsRow_succ hown'
    have hgrow' : (W.alloc (.cells #[.string (s.extract x y)] 9)).grownBy w1 (Value.slice A (gotF s (vals pre)).length c).ownBlock := ⟨hgrow.os, hgrow.tape, hgrow.output, hgrow.size, hgrow.block⟩
    obtain ⟨hv1, hv2, _, hk2, hb2⟩ := hv.appended (by decide) hrowS (by omega) (by omega) (own_lower hown' (show w.heap.size ≤ w.heap.size + 6 by omega)) hgrow'
    have hr2 := hown'.kept (grownBy_setCell' w1 (w.heap.size + 5) (.slice (some ⟨g', 0, none⟩) ((gotF s (vals pre)).length + 1) cap')) (.inr (hv1.not_row (by decide) hown').symm)
    have hc1 : w1.cell? ⟨w.heap.size + 1 + 1 + 1 + 1 + 1, 0, none⟩ = some (.slice A (gotF s (vals pre)).length c) := hv1.cell
    have hf1 : w1.frozen? ⟨w.heap.size + 1 + 1 + 1 + 1 + 1, 0, none⟩ = false := hv1.frozen
    have hv2' := Aside.mk hv2
    have hr2' := Aside.mk hr2
    have hk2' := Aside.mk hk2
    have hb2' := Aside.mk hb2
    clear hv2 hr2 hk2 hb2 hpl
    refine wpAnyIn_ready (rs := [7]) (by kernel_rfl) (by simp) ?_
    refine AllReadyIn.cons rfl (fun K hK => ?_) ?_
    ·go_simp; refine hK _ _ ?_; clear hK K
     refine wpAnyIn_done (by kernel_rfl) ?_ _
     simp only [Exit.inBlock]
     refine ⟨hk2'.out.from _, ?_, ⟨⟨⟨_, hv2'.out, ?_, trivial⟩, hB.trans hb2'.out⟩, ?_, ?_⟩⟩
     ·intro b hb
      have hbs : b < W.heap.size := by rcases hb with rfl | rfl | rfl <;> omega
      have hb4 : b < w.heap.size + 6 := by rcases hb with rfl | rfl | rfl <;> omega
      rw [Below.heap_setCell _ _ _ _ (show b ≠ w.heap.size + 5 by rcases hb with rfl | rfl | rfl <;> omega), hgrow'.block b (by simp; omega) (own_far hrow hb4), Below.heap_alloc _ _ _ hbs]
     ·rw [hmore]; simpa using hr2'.out
     ·exact ((hT.alloc _).kept hgrow' (own_far hrow (by omega))).kept (grownBy_setCell' _ _ _) (by simp; omega)
     ·exact ((hR.alloc _).kept hgrow' (own_far hrow (by omega))).kept (grownBy_setCell' _ _ _) (by simp)
    exact AllReadyIn.nil
   exact AllReadyIn.nil
 case done =>
  rintro D ys W hD hS ⟨⟨⟨v, hv, hrow, _⟩, hB⟩, hT, hR⟩ hK
  rw [hS] at hrow
  clear hS
  obtain ⟨A, c, rfl⟩ := own_slice hrow
  have hc := hv.cell
  have hcR := hR.cell
  have hfR := hR.frozen
  gi_wp2
  have hDne : D ≠ w.heap.size + 1 := by omega
  have hK1 : (W.setCell ⟨w.heap.size + 1, 0, none⟩ (.slice A (gotF s (cutsL s.data.toList sep.data.toList)).length c)).heap[D]? = some (.deferred (some [])) := (Below.heap_setCell _ _ _ _ (show D ≠ w.heap.size + 1 from hDne)).trans hK
  refine ⟨by simp, .inl ⟨_, _, rfl, run_takeDeferred hK1, ?_⟩⟩
  have hr1 := hrow.kept (grownBy_setCell' W (w.heap.size + 1) (.slice A (gotF s (cutsL s.data.toList sep.data.toList)).length c)) (.inr (own_far hrow (by omega)).symm)
  have hcell : ((W.setCell ⟨w.heap.size + 1, 0, none⟩ (.slice A (gotF s (cutsL s.data.toList sep.data.toList)).length c)).putObj D (.deferred none)).cell? ⟨w.heap.size + 1, 0, none⟩ = some (.slice A (gotF s (cutsL s.data.toList sep.data.toList)).length c) := by
   have h2 := (hR.set (.slice A (gotF s (cutsL s.data.toList sep.data.toList)).length c))
   have h3 : Boxed ((W.setCell ⟨w.heap.size + 1, 0, none⟩ (.slice A (gotF s (cutsL s.data.toList sep.data.toList)).length c)).putObj D (.deferred none)) (w.heap.size + 1) 23 (.slice A (gotF s (cutsL s.data.toList sep.data.toList)).length c) :=
    h2.kept (grownBy_putObj' _ D _) (by simp; omega)
   exact h3.cell
  have hBl : Below w.heap.size w ((W.setCell ⟨w.heap.size + 1, 0, none⟩ (.slice A (gotF s (cutsL s.data.toList sep.data.toList)).length c)).putObj D (.deferred none)) :=
   ((hB0.trans hB).setCell (p := ⟨w.heap.size + 1, 0, none⟩) (by simp) _).trans (belowK_b (w := w) (Nat.le_refl _) _ D _ _ (by omega) hK1 rfl rfl)
  exact ⟨_, results_cell_slice rfl _ _ _ A _ c rfl hcell, _, rfl, ownsRow_putObj (own_lower hr1 (by omega)) _ hK1 rfl, hBl⟩
 case stop =>
  rintro D c pre W _ _ h _
  exact h.elim
end Go.Proofs.YtahdkpoihpcfnaaGreatDoor.Fields
end

section
set_option linter.unusedVariables false
set_option linter.unusedSimpArgs false
namespace Go.Proofs.YtahdkpoihpcfnaaGreatDoor.Fields
open Go.RowKit Go.Shelf Go.Proofs.YtahdkpoihpcfnaaGreatDoor.CutsP Go.Proofs.YtahdkpoihpcfnaaGreatDoor.Cuts Go.Proofs.YtahdkpoihpcfnaaGreatDoor.Lines Go.Proofs.YtahdkpoihpcfnaaGreatDoor.Runs
attribute [local go_sem] Oper.semAt_some
theorem boxes_new (w : World) (t0 t1 t2 t3 : TypeId) (v0 v1 v2 v3 : Value) : let W := ((((w.alloc (.cells #[v0] t0)).alloc (.cells #[v1] t1)).alloc (.cells #[v2] t2)).alloc (.cells #[v3] t3));
  Boxed W (w.heap.size + 2) t2 v2 ∧ Boxed W w.heap.size t0 v0 ∧ Boxed W (w.heap.size + 1) t1 v1 ∧ Boxed W (w.heap.size + 3) t3 v3 ∧ Below w.heap.size w W ∧ W.heap.size = w.heap.size + 4 := by
 have s1 : (w.alloc (.cells #[v0] t0)).heap.size = w.heap.size + 1 := World.size_alloc _ _
 have s2 : ((w.alloc (.cells #[v0] t0)).alloc (.cells #[v1] t1)).heap.size = w.heap.size + 2 := by rw [World.size_alloc, s1]
 have s3 : (((w.alloc (.cells #[v0] t0)).alloc (.cells #[v1] t1)).alloc (.cells #[v2] t2)).heap.size = w.heap.size + 3 := by rw [World.size_alloc, s2]
 have b0 := Boxed.new w t0 v0
 have b1 := Boxed.new (w.alloc (.cells #[v0] t0)) t1 v1
 have b2 := Boxed.new ((w.alloc (.cells #[v0] t0)).alloc (.cells #[v1] t1)) t2 v2
 have b3 := Boxed.new (((w.alloc (.cells #[v0] t0)).alloc (.cells #[v1] t1)).alloc (.cells #[v2] t2)) t3 v3
 rw [s1] at b1
 rw [s2] at b2
 rw [s3] at b3
 refine ⟨b2.alloc _, ((b0.alloc _).alloc _).alloc _, (b1.alloc _).alloc _, b3, ?_, by rw [World.size_alloc, s3]⟩
 exact ((((Below.refl _ _).alloc (Nat.le_refl _) _).alloc (by rw [s1]; omega) _).alloc (by rw [s2]; omega) _).alloc (by rw [s3]; omega) _
set_option maxRecDepth 100000 in
set_option maxHeartbeats 2000000 in
theorem Fields_runs_in (n : Nat) (hn : 3 ≤ n) (s sep : ByteArray) (hs : s.size ≤ 1048576) (hs0 : s.toList ≠ []) (hsp : sep.toList = [32]) (hN : (runsL s).length ≤ 32767) (w : World) :
  CallsIn Fence.wide n Tryz.prog 10 #[.string s, .string sep] w fun e w' => ∃ v, e = .returned v ∧ w'.ownsRow w.heap.size 9 1 v (gotF s (runsL s)).length (gotF s (runsL s)) ∧ Below w.heap.size w w' := by
 have h1 : 1 ≤ n := by omega
 have hsp0 : (sep.toList == ([32] : List UInt8)) = true := by simp [hsp]
 have hs00 : (s.toList == ([] : List UInt8)) = false := by simpa using hs0
 refine callsIn_of_wp_marks Tryz.func10 rfl trivial ?_ rfl
 simp only [Tryz.ntmps10, List.size_toArray, List.length_cons, List.length_nil, Nat.reduceAdd, Nat.reduceSub, Array.replicate_succ, Array.replicate_zero, List.push_toArray, List.append_toArray, List.nil_append, List.cons_append]
 have hF : Fence.wide.fn 25 := trivial
 clear hsp
 gi_wp2_with (gi_at_call 25; refine (runs_in (n - 1) _ _).mono ?_; rintro e w' ⟨rfl, rfl⟩)
 gi_loopw [] (fun wr => ∃ e : Nat, e ≤ s.size ∧ Boxed wr (w.heap.size + 2) 3 (.int .i64 e) ∧ Boxed wr w.heap.size 9 (.string s) ∧ Boxed wr (w.heap.size + 1) 23 (.slice none 0 0) ∧ Boxed wr (w.heap.size + 3) 9 (.string s) ∧ Below w.heap.size w wr ∧ wr.heap.size = w.heap.size + 4)
  (fun wr => (intOf ((wr.cell? ⟨w.heap.size + 2, 0, none⟩).getD undef)).toNat)
 case atStart => exact ⟨s.size, Nat.le_refl _, boxes_new w _ _ _ _ _ _ _ _⟩
 case round =>
  obtain ⟨e, he, hE, hT, hR, hB3, hBl, hsz⟩ := hrel
  have hcE : wr.cell? ⟨w.heap.size + 1 + 1, 0, none⟩ = some (.int .i64 e) := hE.cell
  have hfE : wr.frozen? ⟨w.heap.size + 1 + 1, 0, none⟩ = false := hE.frozen
  have hcT := hT.cell
  have hF94 : Fence.wide.fn 26 := trivial
  by_cases h0 : 0 < e
  ·obtain ⟨j, rfl⟩ : ∃ j, e = j + 1 := ⟨e - 1, by omega⟩
   have hbyte : ∀ h, (((s[j]'h).toNat : Nat) : Int) = (byteN s j : Int) := fun h => by simp [byteN, h]
   have h256 : byteN s j < 256 := by unfold byteN; split <;> first | exact UInt8.toNat_lt _ | omega
   by_cases hbl : blankN (byteN s j) = true
   ·gi_wp2_with (gi_at_call 26; refine (blank_in (n - 1) (byteN s j) h256 _).mono ?_; rintro e w1 ⟨rfl, rfl⟩)
    refine ⟨⟨j, by omega, hE.set _, hT.kept (grownBy_setCell' _ _ _) (by simp; omega), hR.kept (grownBy_setCell' _ _ _) (by simp), hB3.kept (grownBy_setCell' _ _ _) (by simp), hBl.setCell (p := ⟨w.heap.size + 1 + 1, 0, none⟩) (by simp; omega) _, by rw [World.size_setCell]; exact hsz⟩, ?_⟩
    have h5 : (w1.setCell ⟨w.heap.size + 1 + 1, 0, none⟩ (.int .i64 (j : Int))).cell? ⟨w.heap.size + 2, 0, none⟩ = some (.int .i64 (j : Int)) := (hE.set (.int .i64 (j : Int))).cell
    have h6 := hE.cell
    rw [h5, h6]
    simp [intOf]
   ·have hbl' : blankN (byteN s j) = false := by simpa using hbl
    clear hbl
    gi_wp2_with (gi_at_call 26; refine (blank_in (n - 1) (byteN s j) h256 _).mono ?_; rintro e w1 ⟨rfl, rfl⟩)
    clear hbl' hbyte h256
    have bO := Boxed.new w1 23 (.slice none 0 0)
    rw [hsz] at bO
    have bT := hT.alloc (.cells #[.slice none 0 0] 23)
    have bR := hR.alloc (.cells #[.slice none 0 0] 23)
    have b1 := hB3.alloc (.cells #[.slice none 0 0] 23)
    have hB0 := hBl.alloc (by omega) (.cells #[.slice none 0 0] 23)
    have hsz1 : (w1.alloc (.cells #[.slice none 0 0] 23)).heap.size = w.heap.size + 5 := by rw [World.size_alloc, hsz]
    clear hcE hfE hcT hE hT hR hB3 hBl
    generalize hW0 : w1.alloc (.cells #[.slice none 0 0] 23) = W0 at *
    clear hsz
    have hsz := hsz1
    clear hW0 hsz1
    refine wpIn_rangeFunc_ownG rfl h1 (gf := 44) (lb := #[.pointer (some ⟨w.heap.size + 1 + 1 + 1, 0, none⟩)]) rfl trivial (enters_of Tryz.func44 (by kernel_rfl) rfl)
     (runs_stops (n - 1) (by omega) _ (fun b => b = w.heap.size + 1 + 1 + 1) s hs rfl W0 (by rintro b rfl; omega) b1.cell)
     Keeps.trans (fun W l o o' hl _ _ _ => Keeps.put (m := W0.heap.size) (by rintro b rfl; omega) W l o' hl) (Below.refl _ _) (fun _ => rfl)
     (fun pre W => ((∃ v, Boxed W (w.heap.size + 4) 23 v ∧ W.ownsRow (w.heap.size + 5) 9 1 v (gotF s (vals pre)).length (gotF s (vals pre)) ∧ True) ∧ Below w.heap.size W0 W) ∧ (Boxed W w.heap.size 9 (.string s) ∧ Boxed W (w.heap.size + 1) 23 (.slice none 0 0)))
     (fun _ _ _ => False)
     (OwnFrom.and (OwnFrom.and (Own.from (holdsRow_own (w.heap.size + 5) (w.heap.size + 4) 23 9 1 (fun pre => (gotF s (vals pre)).length) (fun pre => gotF s (vals pre)) (fun pre _ => True)) _) (ownFrom_below (by omega) (by omega))) (OwnFrom.and (boxed_own _ _ _ _ (by omega)) (boxed_own _ _ _ _ (by omega))))
     (fun _ _ _ _ _ hs _ _ => hs)
     ⟨⟨⟨_, bO, World.ownsRow_nil _ _ _ _, trivial⟩, Below.refl _ _⟩, bT, bR⟩
     (fun (x : Pc s) => { tmps := #[.string s, .string sep, .pointer (some ⟨w.heap.size, 0, none⟩), undef, .pointer (some ⟨w.heap.size + 1, 0, none⟩), .func (.func 44) #[] #[.pointer (some ⟨w.heap.size + 1 + 1 + 1, 0, none⟩)], .pointer (some ⟨w.heap.size + 1 + 1, 0, none⟩), .pointer (some ⟨w.heap.size + 4, 0, none⟩), .int .i64 (x.1.1 : Int), .int .i64 (x.1.2 : Int), .string s, .bool false, .string s, .int .i64 (s.size : Int), .string sep, undef, undef, undef, .bool true, .bool true, .string s, .func (.func 44) #[] #[.pointer (some ⟨w.heap.size + 1 + 1 + 1, 0, none⟩)], .int .i64 ((j : Int) + 1), .bool true, .bool true, .string s, .int .i64 ((j : Int) + 1), .int .i64 (j : Int), .int .u8 (byteN s j : Int), .bool false, .bool false, u31, u32, undef, undef, undef, undef, .func (.func 44) #[] #[.pointer (some ⟨w.heap.size + 1 + 1 + 1, 0, none⟩)], .int .i64 (x.1.1 : Int), .int .i64 (x.1.2 : Int), undef, undef, undef, undef, undef, undef, undef, undef, undef, undef, undef, undef, undef, undef, undef, undef, undef, undef], defers := [] }) ?assign ?body ?done ?stop
    case assign =>
     intro l x W K hK
     simp only [encs]
     gi_wp2
     exact hK
    case body =>
     rintro l pre ⟨⟨x, y⟩, hxy, hys⟩ W ⟨⟨⟨v, hv, hrow, _⟩, hB⟩, hT, hR⟩ hlt
     obtain ⟨A, c, rfl⟩ := own_slice hrow
     have hcT := hT.cell
     have hcO := hv.cell
     have hHX := Aside.mk (And.intro hxy hys)
     have hglen : (gotF s (vals pre)).length = pre.length := by simp [gotF, vals]
     have hne : (((gotF s (vals pre)).length : Int) == 32767) = false := by
      rw [beq_eq_false_iff_ne]; omega
     have HG := Aside.mk hglen
     clear hglen
     gi_wp2
     have hx1 := hHX.out.1
     have hx2 := hHX.out.2
     have hcT1 : W.drew.cell? ⟨w.heap.size, 0, none⟩ = some (Value.string s) := hcT
     have hcO1 : W.drew.cell? ⟨w.heap.size + 4, 0, none⟩ = some (.slice A (gotF s (vals pre)).length c) := hcO
     have hcO2 : ∀ o : Obj, (W.alloc o).cell? ⟨w.heap.size + 4, 0, none⟩ = some (.slice A (gotF s (vals pre)).length c) := fun o => (hv.alloc o).cell
     refine wpIn_region_any (by kernel_rfl) ?_
     change wpAnyIn _ _ _ _ _ _ _ _ _ (World.drew _)
     apply suff_
     ·intro H
      refine wpAnyIn_ready (rs := [0, 1, 2, 3]) (by kernel_rfl) (by simp) ?_
      refine AllReadyIn.cons rfl (fun K hK => ?_) ?_
      ·go_simp; refine hK _ _ ?_; clear hK K
       refine wpAnyIn_ready (rs := [1, 2, 3]) (by kernel_rfl) (by simp) ?_
       refine AllReadyIn.cons rfl (fun K hK => ?_) ?_
       ·go_simp; refine hK _ _ ?_; clear hK K
        refine wpAnyIn_ready (rs := [2, 3]) (by kernel_rfl) (by simp) ?_
        refine AllReadyIn.cons rfl (fun K hK => ?_) ?_
        ·go_simp; refine hK _ _ ?_; clear hK K
         refine wpAnyIn_ready (rs := [3]) (by kernel_rfl) (by simp) ?_
         refine AllReadyIn.cons rfl (fun K hK => ?_) ?_
         ·go_simp; refine hK _ _ ?_; clear hK K
          refine wpAnyIn_ready (rs := [4]) (by kernel_rfl) (by simp) ?_
          refine AllReadyIn.cons rfl (fun K hK => ?_) ?_
          ·go_simp; refine hK _ _ ?_; clear hK K
           refine wpAnyIn_ready (rs := [5]) (by kernel_rfl) (by simp) ?_
           refine AllReadyIn.cons rfl (fun K hK => ?_) ?_
           ·go_simp; refine hK _ _ ?_; clear hK K
            exact H
           exact AllReadyIn.nil
          exact AllReadyIn.nil
         exact AllReadyIn.nil
        refine AllReadyIn.cons rfl (fun K hK => ?_) ?_
        ·go_simp; refine hK _ _ ?_; clear hK K
         refine wpAnyIn_ready (rs := [2]) (by kernel_rfl) (by simp) ?_
         refine AllReadyIn.cons rfl (fun K hK => ?_) ?_
         ·go_simp; refine hK _ _ ?_; clear hK K
          refine wpAnyIn_ready (rs := [4]) (by kernel_rfl) (by simp) ?_
          refine AllReadyIn.cons rfl (fun K hK => ?_) ?_
          ·go_simp; refine hK _ _ ?_; clear hK K
           refine wpAnyIn_ready (rs := [5]) (by kernel_rfl) (by simp) ?_
           refine AllReadyIn.cons rfl (fun K hK => ?_) ?_
           ·go_simp; refine hK _ _ ?_; clear hK K
            exact H
           exact AllReadyIn.nil
          exact AllReadyIn.nil
         exact AllReadyIn.nil
        exact AllReadyIn.nil
       refine AllReadyIn.cons rfl (fun K hK => ?_) ?_
       ·go_simp; refine hK _ _ ?_; clear hK K
        refine wpAnyIn_ready (rs := [1, 3]) (by kernel_rfl) (by simp) ?_
        refine AllReadyIn.cons rfl (fun K hK => ?_) ?_
        ·go_simp; refine hK _ _ ?_; clear hK K
         refine wpAnyIn_ready (rs := [3]) (by kernel_rfl) (by simp) ?_
         refine AllReadyIn.cons rfl (fun K hK => ?_) ?_
         ·go_simp; refine hK _ _ ?_; clear hK K
          refine wpAnyIn_ready (rs := [4]) (by kernel_rfl) (by simp) ?_
          refine AllReadyIn.cons rfl (fun K hK => ?_) ?_
          ·go_simp; refine hK _ _ ?_; clear hK K
           refine wpAnyIn_ready (rs := [5]) (by kernel_rfl) (by simp) ?_
           refine AllReadyIn.cons rfl (fun K hK => ?_) ?_
           ·go_simp; refine hK _ _ ?_; clear hK K
            exact H
           exact AllReadyIn.nil
          exact AllReadyIn.nil
         exact AllReadyIn.nil
        refine AllReadyIn.cons rfl (fun K hK => ?_) ?_
        ·go_simp; refine hK _ _ ?_; clear hK K
         refine wpAnyIn_ready (rs := [1]) (by kernel_rfl) (by simp) ?_
         refine AllReadyIn.cons rfl (fun K hK => ?_) ?_
         ·go_simp; refine hK _ _ ?_; clear hK K
          refine wpAnyIn_ready (rs := [4]) (by kernel_rfl) (by simp) ?_
          refine AllReadyIn.cons rfl (fun K hK => ?_) ?_
          ·go_simp; refine hK _ _ ?_; clear hK K
           refine wpAnyIn_ready (rs := [5]) (by kernel_rfl) (by simp) ?_
           refine AllReadyIn.cons rfl (fun K hK => ?_) ?_
           ·go_simp; refine hK _ _ ?_; clear hK K
            exact H
           exact AllReadyIn.nil
          exact AllReadyIn.nil
         exact AllReadyIn.nil
        exact AllReadyIn.nil
       refine AllReadyIn.cons rfl (fun K hK => ?_) ?_
       ·go_simp; refine hK _ _ ?_; clear hK K
        refine wpAnyIn_ready (rs := [1, 2]) (by kernel_rfl) (by simp) ?_
        refine AllReadyIn.cons rfl (fun K hK => ?_) ?_
        ·go_simp; refine hK _ _ ?_; clear hK K
         refine wpAnyIn_ready (rs := [2]) (by kernel_rfl) (by simp) ?_
         refine AllReadyIn.cons rfl (fun K hK => ?_) ?_
         ·go_simp; refine hK _ _ ?_; clear hK K
          refine wpAnyIn_ready (rs := [4]) (by kernel_rfl) (by simp) ?_
          refine AllReadyIn.cons rfl (fun K hK => ?_) ?_
          ·go_simp; refine hK _ _ ?_; clear hK K
           refine wpAnyIn_ready (rs := [5]) (by kernel_rfl) (by simp) ?_
           refine AllReadyIn.cons rfl (fun K hK => ?_) ?_
           ·go_simp; refine hK _ _ ?_; clear hK K
            exact H
           exact AllReadyIn.nil
          exact AllReadyIn.nil
         exact AllReadyIn.nil
        refine AllReadyIn.cons rfl (fun K hK => ?_) ?_
        ·go_simp; refine hK _ _ ?_; clear hK K
         refine wpAnyIn_ready (rs := [1]) (by kernel_rfl) (by simp) ?_
         refine AllReadyIn.cons rfl (fun K hK => ?_) ?_
         ·go_simp; refine hK _ _ ?_; clear hK K
          refine wpAnyIn_ready (rs := [4]) (by kernel_rfl) (by simp) ?_
          refine AllReadyIn.cons rfl (fun K hK => ?_) ?_
          ·go_simp; refine hK _ _ ?_; clear hK K
           refine wpAnyIn_ready (rs := [5]) (by kernel_rfl) (by simp) ?_
           refine AllReadyIn.cons rfl (fun K hK => ?_) ?_
           ·go_simp; refine hK _ _ ?_; clear hK K
            exact H
           exact AllReadyIn.nil
          exact AllReadyIn.nil
         exact AllReadyIn.nil
        exact AllReadyIn.nil
       exact AllReadyIn.nil
      refine AllReadyIn.cons rfl (fun K hK => ?_) ?_
      ·go_simp; refine hK _ _ ?_; clear hK K
       refine wpAnyIn_ready (rs := [0, 2, 3]) (by kernel_rfl) (by simp) ?_
       refine AllReadyIn.cons rfl (fun K hK => ?_) ?_
       ·go_simp; refine hK _ _ ?_; clear hK K
        refine wpAnyIn_ready (rs := [2, 3]) (by kernel_rfl) (by simp) ?_
        refine AllReadyIn.cons rfl (fun K hK => ?_) ?_
        ·go_simp; refine hK _ _ ?_; clear hK K
         refine wpAnyIn_ready (rs := [3]) (by kernel_rfl) (by simp) ?_
         refine AllReadyIn.cons rfl (fun K hK => ?_) ?_
         ·go_simp; refine hK _ _ ?_; clear hK K
          refine wpAnyIn_ready (rs := [4]) (by kernel_rfl) (by simp) ?_
          refine AllReadyIn.cons rfl (fun K hK => ?_) ?_
          ·go_simp; refine hK _ _ ?_; clear hK K
           refine wpAnyIn_ready (rs := [5]) (by kernel_rfl) (by simp) ?_
           refine AllReadyIn.cons rfl (fun K hK => ?_) ?_
           ·go_simp; refine hK _ _ ?_; clear hK K
            exact H
           exact AllReadyIn.nil
          exact AllReadyIn.nil
         exact AllReadyIn.nil
        refine AllReadyIn.cons rfl (fun K hK => ?_) ?_
        ·go_simp; refine hK _ _ ?_; clear hK K
         refine wpAnyIn_ready (rs := [2]) (by kernel_rfl) (by simp) ?_
         refine AllReadyIn.cons rfl (fun K hK => ?_) ?_
         ·go_simp; refine hK _ _ ?_; clear hK K
          refine wpAnyIn_ready (rs := [4]) (by kernel_rfl) (by simp) ?_
          refine AllReadyIn.cons rfl (fun K hK => ?_) ?_
          ·go_simp; refine hK _ _ ?_; clear hK K
           refine wpAnyIn_ready (rs := [5]) (by kernel_rfl) (by simp) ?_
           refine AllReadyIn.cons rfl (fun K hK => ?_) ?_
           ·go_simp; refine hK _ _ ?_; clear hK K
            exact H
           exact AllReadyIn.nil
          exact AllReadyIn.nil
         exact AllReadyIn.nil
        exact AllReadyIn.nil
       refine AllReadyIn.cons rfl (fun K hK => ?_) ?_
       ·go_simp; refine hK _ _ ?_; clear hK K
        refine wpAnyIn_ready (rs := [0, 3]) (by kernel_rfl) (by simp) ?_
        refine AllReadyIn.cons rfl (fun K hK => ?_) ?_
        ·go_simp; refine hK _ _ ?_; clear hK K
         refine wpAnyIn_ready (rs := [3]) (by kernel_rfl) (by simp) ?_
         refine AllReadyIn.cons rfl (fun K hK => ?_) ?_
         ·go_simp; refine hK _ _ ?_; clear hK K
          refine wpAnyIn_ready (rs := [4]) (by kernel_rfl) (by simp) ?_
          refine AllReadyIn.cons rfl (fun K hK => ?_) ?_
          ·go_simp; refine hK _ _ ?_; clear hK K
           refine wpAnyIn_ready (rs := [5]) (by kernel_rfl) (by simp) ?_
           refine AllReadyIn.cons rfl (fun K hK => ?_) ?_
           ·go_simp; refine hK _ _ ?_; clear hK K
            exact H
           exact AllReadyIn.nil
          exact AllReadyIn.nil
         exact AllReadyIn.nil
        refine AllReadyIn.cons rfl (fun K hK => ?_) ?_
        ·go_simp; refine hK _ _ ?_; clear hK K
         refine wpAnyIn_ready (rs := [0, 4]) (by kernel_rfl) (by simp) ?_
         refine AllReadyIn.cons rfl (fun K hK => ?_) ?_
         ·go_simp; refine hK _ _ ?_; clear hK K
          refine wpAnyIn_ready (rs := [4]) (by kernel_rfl) (by simp) ?_
          refine AllReadyIn.cons rfl (fun K hK => ?_) ?_
          ·go_simp; refine hK _ _ ?_; clear hK K
           refine wpAnyIn_ready (rs := [5]) (by kernel_rfl) (by simp) ?_
           refine AllReadyIn.cons rfl (fun K hK => ?_) ?_
           ·go_simp; refine hK _ _ ?_; clear hK K
            exact H
           exact AllReadyIn.nil
          exact AllReadyIn.nil
         refine AllReadyIn.cons rfl (fun K hK => ?_) ?_
         ·go_simp; refine hK _ _ ?_; clear hK K
          refine wpAnyIn_ready (rs := [0, 5]) (by kernel_rfl) (by simp) ?_
          refine AllReadyIn.cons rfl (fun K hK => ?_) ?_
          ·go_simp; refine hK _ _ ?_; clear hK K
           refine wpAnyIn_ready (rs := [5]) (by kernel_rfl) (by simp) ?_
           refine AllReadyIn.cons rfl (fun K hK => ?_) ?_
           ·go_simp; refine hK _ _ ?_; clear hK K
            exact H
           exact AllReadyIn.nil
          refine AllReadyIn.cons rfl (fun K hK => ?_) ?_
          ·go_simp; refine hK _ _ ?_; clear hK K
           refine wpAnyIn_ready (rs := [0]) (by kernel_rfl) (by simp) ?_
           refine AllReadyIn.cons rfl (fun K hK => ?_) ?_
           ·go_simp; refine hK _ _ ?_; clear hK K
            exact H
           exact AllReadyIn.nil
          exact AllReadyIn.nil
         exact AllReadyIn.nil
        exact AllReadyIn.nil
       refine AllReadyIn.cons rfl (fun K hK => ?_) ?_
       ·go_simp; refine hK _ _ ?_; clear hK K
        refine wpAnyIn_ready (rs := [0, 2]) (by kernel_rfl) (by simp) ?_
        refine AllReadyIn.cons rfl (fun K hK => ?_) ?_
        ·go_simp; refine hK _ _ ?_; clear hK K
         refine wpAnyIn_ready (rs := [2]) (by kernel_rfl) (by simp) ?_
         refine AllReadyIn.cons rfl (fun K hK => ?_) ?_
         ·go_simp; refine hK _ _ ?_; clear hK K
          refine wpAnyIn_ready (rs := [4]) (by kernel_rfl) (by simp) ?_
          refine AllReadyIn.cons rfl (fun K hK => ?_) ?_
          ·go_simp; refine hK _ _ ?_; clear hK K
           refine wpAnyIn_ready (rs := [5]) (by kernel_rfl) (by simp) ?_
           refine AllReadyIn.cons rfl (fun K hK => ?_) ?_
           ·go_simp; refine hK _ _ ?_; clear hK K
            exact H
           exact AllReadyIn.nil
          exact AllReadyIn.nil
         exact AllReadyIn.nil
        refine AllReadyIn.cons rfl (fun K hK => ?_) ?_
        ·go_simp; refine hK _ _ ?_; clear hK K
         refine wpAnyIn_ready (rs := [0, 4]) (by kernel_rfl) (by simp) ?_
         refine AllReadyIn.cons rfl (fun K hK => ?_) ?_
         ·go_simp; refine hK _ _ ?_; clear hK K
          refine wpAnyIn_ready (rs := [4]) (by kernel_rfl) (by simp) ?_
          refine AllReadyIn.cons rfl (fun K hK => ?_) ?_
          ·go_simp; refine hK _ _ ?_; clear hK K
           refine wpAnyIn_ready (rs := [5]) (by kernel_rfl) (by simp) ?_
           refine AllReadyIn.cons rfl (fun K hK => ?_) ?_
           ·go_simp; refine hK _ _ ?_; clear hK K
            exact H
           exact AllReadyIn.nil
          exact AllReadyIn.nil
         refine AllReadyIn.cons rfl (fun K hK => ?_) ?_
         ·go_simp; refine hK _ _ ?_; clear hK K
          refine wpAnyIn_ready (rs := [0, 5]) (by kernel_rfl) (by simp) ?_
          refine AllReadyIn.cons rfl (fun K hK => ?_) ?_
          ·go_simp; refine hK _ _ ?_; clear hK K
           refine wpAnyIn_ready (rs := [5]) (by kernel_rfl) (by simp) ?_
           refine AllReadyIn.cons rfl (fun K hK => ?_) ?_
           ·go_simp; refine hK _ _ ?_; clear hK K
            exact H
           exact AllReadyIn.nil
          refine AllReadyIn.cons rfl (fun K hK => ?_) ?_
          ·go_simp; refine hK _ _ ?_; clear hK K
           refine wpAnyIn_ready (rs := [0]) (by kernel_rfl) (by simp) ?_
           refine AllReadyIn.cons rfl (fun K hK => ?_) ?_
           ·go_simp; refine hK _ _ ?_; clear hK K
            exact H
           exact AllReadyIn.nil
          exact AllReadyIn.nil
         exact AllReadyIn.nil
        exact AllReadyIn.nil
       exact AllReadyIn.nil
      refine AllReadyIn.cons rfl (fun K hK => ?_) ?_
      ·go_simp; refine hK _ _ ?_; clear hK K
       refine wpAnyIn_ready (rs := [0, 1, 3]) (by kernel_rfl) (by simp) ?_
       refine AllReadyIn.cons rfl (fun K hK => ?_) ?_
       ·go_simp; refine hK _ _ ?_; clear hK K
        refine wpAnyIn_ready (rs := [1, 3]) (by kernel_rfl) (by simp) ?_
        refine AllReadyIn.cons rfl (fun K hK => ?_) ?_
        ·go_simp; refine hK _ _ ?_; clear hK K
         refine wpAnyIn_ready (rs := [3]) (by kernel_rfl) (by simp) ?_
         refine AllReadyIn.cons rfl (fun K hK => ?_) ?_
         ·go_simp; refine hK _ _ ?_; clear hK K
          refine wpAnyIn_ready (rs := [4]) (by kernel_rfl) (by simp) ?_
          refine AllReadyIn.cons rfl (fun K hK => ?_) ?_
          ·go_simp; refine hK _ _ ?_; clear hK K
           refine wpAnyIn_ready (rs := [5]) (by kernel_rfl) (by simp) ?_
           refine AllReadyIn.cons rfl (fun K hK => ?_) ?_
           ·go_simp; refine hK _ _ ?_; clear hK K
            exact H
           exact AllReadyIn.nil
          exact AllReadyIn.nil
         exact AllReadyIn.nil
        refine AllReadyIn.cons rfl (fun K hK => ?_) ?_
        ·go_simp; refine hK _ _ ?_; clear hK K
         refine wpAnyIn_ready (rs := [1]) (by kernel_rfl) (by simp) ?_
         refine AllReadyIn.cons rfl (fun K hK => ?_) ?_
         ·go_simp; refine hK _ _ ?_; clear hK K
          refine wpAnyIn_ready (rs := [4]) (by kernel_rfl) (by simp) ?_
          refine AllReadyIn.cons rfl (fun K hK => ?_) ?_
          ·go_simp; refine hK _ _ ?_; clear hK K
           refine wpAnyIn_ready (rs := [5]) (by kernel_rfl) (by simp) ?_
           refine AllReadyIn.cons rfl (fun K hK => ?_) ?_
           ·go_simp; refine hK _ _ ?_; clear hK K
            exact H
           exact AllReadyIn.nil
          exact AllReadyIn.nil
         exact AllReadyIn.nil
        exact AllReadyIn.nil
       refine AllReadyIn.cons rfl (fun K hK => ?_) ?_
       ·go_simp; refine hK _ _ ?_; clear hK K
        refine wpAnyIn_ready (rs := [0, 3]) (by kernel_rfl) (by simp) ?_
        refine AllReadyIn.cons rfl (fun K hK => ?_) ?_
        ·go_simp; refine hK _ _ ?_; clear hK K
         refine wpAnyIn_ready (rs := [3]) (by kernel_rfl) (by simp) ?_
         refine AllReadyIn.cons rfl (fun K hK => ?_) ?_
         ·go_simp; refine hK _ _ ?_; clear hK K
          refine wpAnyIn_ready (rs := [4]) (by kernel_rfl) (by simp) ?_
          refine AllReadyIn.cons rfl (fun K hK => ?_) ?_
          ·go_simp; refine hK _ _ ?_; clear hK K
           refine wpAnyIn_ready (rs := [5]) (by kernel_rfl) (by simp) ?_
           refine AllReadyIn.cons rfl (fun K hK => ?_) ?_
           ·go_simp; refine hK _ _ ?_; clear hK K
            exact H
           exact AllReadyIn.nil
          exact AllReadyIn.nil
         exact AllReadyIn.nil
        refine AllReadyIn.cons rfl (fun K hK => ?_) ?_
        ·go_simp; refine hK _ _ ?_; clear hK K
         refine wpAnyIn_ready (rs := [0, 4]) (by kernel_rfl) (by simp) ?_
         refine AllReadyIn.cons rfl (fun K hK => ?_) ?_
         ·go_simp; refine hK _ _ ?_; clear hK K
          refine wpAnyIn_ready (rs := [4]) (by kernel_rfl) (by simp) ?_
          refine AllReadyIn.cons rfl (fun K hK => ?_) ?_
          ·go_simp; refine hK _ _ ?_; clear hK K
           refine wpAnyIn_ready (rs := [5]) (by kernel_rfl) (by simp) ?_
           refine AllReadyIn.cons rfl (fun K hK => ?_) ?_
           ·go_simp; refine hK _ _ ?_; clear hK K
            exact H
           exact AllReadyIn.nil
          exact AllReadyIn.nil
         refine AllReadyIn.cons rfl (fun K hK => ?_) ?_
         ·go_simp; refine hK _ _ ?_; clear hK K
          refine wpAnyIn_ready (rs := [0, 5]) (by kernel_rfl) (by simp) ?_
          refine AllReadyIn.cons rfl (fun K hK => ?_) ?_
          ·go_simp; refine hK _ _ ?_; clear hK K
           refine wpAnyIn_ready (rs := [5]) (by kernel_rfl) (by simp) ?_
           refine AllReadyIn.cons rfl (fun K hK => ?_) ?_
           ·go_simp; refine hK _ _ ?_; clear hK K
            exact H
           exact AllReadyIn.nil
          refine AllReadyIn.cons rfl (fun K hK => ?_) ?_
          ·go_simp; refine hK _ _ ?_; clear hK K
           refine wpAnyIn_ready (rs := [0]) (by kernel_rfl) (by simp) ?_
           refine AllReadyIn.cons rfl (fun K hK => ?_) ?_
           ·go_simp; refine hK _ _ ?_; clear hK K
            exact H
           exact AllReadyIn.nil
          exact AllReadyIn.nil
         exact AllReadyIn.nil
        exact AllReadyIn.nil
       refine AllReadyIn.cons rfl (fun K hK => ?_) ?_
       ·go_simp; refine hK _ _ ?_; clear hK K
        refine wpAnyIn_ready (rs := [0, 1]) (by kernel_rfl) (by simp) ?_
        refine AllReadyIn.cons rfl (fun K hK => ?_) ?_
        ·go_simp; refine hK _ _ ?_; clear hK K
         refine wpAnyIn_ready (rs := [1]) (by kernel_rfl) (by simp) ?_
         refine AllReadyIn.cons rfl (fun K hK => ?_) ?_
         ·go_simp; refine hK _ _ ?_; clear hK K
          refine wpAnyIn_ready (rs := [4]) (by kernel_rfl) (by simp) ?_
          refine AllReadyIn.cons rfl (fun K hK => ?_) ?_
          ·go_simp; refine hK _ _ ?_; clear hK K
           refine wpAnyIn_ready (rs := [5]) (by kernel_rfl) (by simp) ?_
           refine AllReadyIn.cons rfl (fun K hK => ?_) ?_
           ·go_simp; refine hK _ _ ?_; clear hK K
            exact H
           exact AllReadyIn.nil
          exact AllReadyIn.nil
         exact AllReadyIn.nil
        refine AllReadyIn.cons rfl (fun K hK => ?_) ?_
        ·go_simp; refine hK _ _ ?_; clear hK K
         refine wpAnyIn_ready (rs := [0, 4]) (by kernel_rfl) (by simp) ?_
         refine AllReadyIn.cons rfl (fun K hK => ?_) ?_
         ·go_simp; refine hK _ _ ?_; clear hK K
          refine wpAnyIn_ready (rs := [4]) (by kernel_rfl) (by simp) ?_
          refine AllReadyIn.cons rfl (fun K hK => ?_) ?_
          ·go_simp; refine hK _ _ ?_; clear hK K
           refine wpAnyIn_ready (rs := [5]) (by kernel_rfl) (by simp) ?_
           refine AllReadyIn.cons rfl (fun K hK => ?_) ?_
           ·go_simp; refine hK _ _ ?_; clear hK K
            exact H
           exact AllReadyIn.nil
          exact AllReadyIn.nil
         refine AllReadyIn.cons rfl (fun K hK => ?_) ?_
         ·go_simp; refine hK _ _ ?_; clear hK K
          refine wpAnyIn_ready (rs := [0, 5]) (by kernel_rfl) (by simp) ?_
          refine AllReadyIn.cons rfl (fun K hK => ?_) ?_
          ·go_simp; refine hK _ _ ?_; clear hK K
           refine wpAnyIn_ready (rs := [5]) (by kernel_rfl) (by simp) ?_
           refine AllReadyIn.cons rfl (fun K hK => ?_) ?_
           ·go_simp; refine hK _ _ ?_; clear hK K
            exact H
           exact AllReadyIn.nil
          refine AllReadyIn.cons rfl (fun K hK => ?_) ?_
          ·go_simp; refine hK _ _ ?_; clear hK K
           refine wpAnyIn_ready (rs := [0]) (by kernel_rfl) (by simp) ?_
           refine AllReadyIn.cons rfl (fun K hK => ?_) ?_
           ·go_simp; refine hK _ _ ?_; clear hK K
            exact H
           exact AllReadyIn.nil
          exact AllReadyIn.nil
         exact AllReadyIn.nil
        exact AllReadyIn.nil
       exact AllReadyIn.nil
      refine AllReadyIn.cons rfl (fun K hK => ?_) ?_
      ·go_simp; refine hK _ _ ?_; clear hK K
       refine wpAnyIn_ready (rs := [0, 1, 2]) (by kernel_rfl) (by simp) ?_
       refine AllReadyIn.cons rfl (fun K hK => ?_) ?_
       ·go_simp; refine hK _ _ ?_; clear hK K
        refine wpAnyIn_ready (rs := [1, 2]) (by kernel_rfl) (by simp) ?_
        refine AllReadyIn.cons rfl (fun K hK => ?_) ?_
        ·go_simp; refine hK _ _ ?_; clear hK K
         refine wpAnyIn_ready (rs := [2]) (by kernel_rfl) (by simp) ?_
         refine AllReadyIn.cons rfl (fun K hK => ?_) ?_
         ·go_simp; refine hK _ _ ?_; clear hK K
          refine wpAnyIn_ready (rs := [4]) (by kernel_rfl) (by simp) ?_
          refine AllReadyIn.cons rfl (fun K hK => ?_) ?_
          ·go_simp; refine hK _ _ ?_; clear hK K
           refine wpAnyIn_ready (rs := [5]) (by kernel_rfl) (by simp) ?_
           refine AllReadyIn.cons rfl (fun K hK => ?_) ?_
           ·go_simp; refine hK _ _ ?_; clear hK K
            exact H
           exact AllReadyIn.nil
          exact AllReadyIn.nil
         exact AllReadyIn.nil
        refine AllReadyIn.cons rfl (fun K hK => ?_) ?_
        ·go_simp; refine hK _ _ ?_; clear hK K
         refine wpAnyIn_ready (rs := [1]) (by kernel_rfl) (by simp) ?_
         refine AllReadyIn.cons rfl (fun K hK => ?_) ?_
         ·go_simp; refine hK _ _ ?_; clear hK K
          refine wpAnyIn_ready (rs := [4]) (by kernel_rfl) (by simp) ?_
          refine AllReadyIn.cons rfl (fun K hK => ?_) ?_
          ·go_simp; refine hK _ _ ?_; clear hK K
           refine wpAnyIn_ready (rs := [5]) (by kernel_rfl) (by simp) ?_
           refine AllReadyIn.cons rfl (fun K hK => ?_) ?_
           ·go_simp; refine hK _ _ ?_; clear hK K
            exact H
           exact AllReadyIn.nil
          exact AllReadyIn.nil
         exact AllReadyIn.nil
        exact AllReadyIn.nil
       refine AllReadyIn.cons rfl (fun K hK => ?_) ?_
       ·go_simp; refine hK _ _ ?_; clear hK K
        refine wpAnyIn_ready (rs := [0, 2]) (by kernel_rfl) (by simp) ?_
        refine AllReadyIn.cons rfl (fun K hK => ?_) ?_
        ·go_simp; refine hK _ _ ?_; clear hK K
         refine wpAnyIn_ready (rs := [2]) (by kernel_rfl) (by simp) ?_
         refine AllReadyIn.cons rfl (fun K hK => ?_) ?_
         ·go_simp; refine hK _ _ ?_; clear hK K
          refine wpAnyIn_ready (rs := [4]) (by kernel_rfl) (by simp) ?_
          refine AllReadyIn.cons rfl (fun K hK => ?_) ?_
          ·go_simp; refine hK _ _ ?_; clear hK K
           refine wpAnyIn_ready (rs := [5]) (by kernel_rfl) (by simp) ?_
           refine AllReadyIn.cons rfl (fun K hK => ?_) ?_
           ·go_simp; refine hK _ _ ?_; clear hK K
            exact H
           exact AllReadyIn.nil
          exact AllReadyIn.nil
         exact AllReadyIn.nil
        refine AllReadyIn.cons rfl (fun K hK => ?_) ?_
        ·go_simp; refine hK _ _ ?_; clear hK K
         refine wpAnyIn_ready (rs := [0, 4]) (by kernel_rfl) (by simp) ?_
         refine AllReadyIn.cons rfl (fun K hK => ?_) ?_
         ·go_simp; refine hK _ _ ?_; clear hK K
          refine wpAnyIn_ready (rs := [4]) (by kernel_rfl) (by simp) ?_
          refine AllReadyIn.cons rfl (fun K hK => ?_) ?_
          ·go_simp; refine hK _ _ ?_; clear hK K
           refine wpAnyIn_ready (rs := [5]) (by kernel_rfl) (by simp) ?_
           refine AllReadyIn.cons rfl (fun K hK => ?_) ?_
           ·go_simp; refine hK _ _ ?_; clear hK K
            exact H
           exact AllReadyIn.nil
          exact AllReadyIn.nil
         refine AllReadyIn.cons rfl (fun K hK => ?_) ?_
         ·go_simp; refine hK _ _ ?_; clear hK K
          refine wpAnyIn_ready (rs := [0, 5]) (by kernel_rfl) (by simp) ?_
          refine AllReadyIn.cons rfl (fun K hK => ?_) ?_
          ·go_simp; refine hK _ _ ?_; clear hK K
           refine wpAnyIn_ready (rs := [5]) (by kernel_rfl) (by simp) ?_
           refine AllReadyIn.cons rfl (fun K hK => ?_) ?_
           ·go_simp; refine hK _ _ ?_; clear hK K
            exact H
           exact AllReadyIn.nil
          refine AllReadyIn.cons rfl (fun K hK => ?_) ?_
          ·go_simp; refine hK _ _ ?_; clear hK K
           refine wpAnyIn_ready (rs := [0]) (by kernel_rfl) (by simp) ?_
           refine AllReadyIn.cons rfl (fun K hK => ?_) ?_
           ·go_simp; refine hK _ _ ?_; clear hK K
            exact H
           exact AllReadyIn.nil
          exact AllReadyIn.nil
         exact AllReadyIn.nil
        exact AllReadyIn.nil
       refine AllReadyIn.cons rfl (fun K hK => ?_) ?_
       ·go_simp; refine hK _ _ ?_; clear hK K
        refine wpAnyIn_ready (rs := [0, 1]) (by kernel_rfl) (by simp) ?_
        refine AllReadyIn.cons rfl (fun K hK => ?_) ?_
        ·go_simp; refine hK _ _ ?_; clear hK K
         refine wpAnyIn_ready (rs := [1]) (by kernel_rfl) (by simp) ?_
         refine AllReadyIn.cons rfl (fun K hK => ?_) ?_
         ·go_simp; refine hK _ _ ?_; clear hK K
          refine wpAnyIn_ready (rs := [4]) (by kernel_rfl) (by simp) ?_
          refine AllReadyIn.cons rfl (fun K hK => ?_) ?_
          ·go_simp; refine hK _ _ ?_; clear hK K
           refine wpAnyIn_ready (rs := [5]) (by kernel_rfl) (by simp) ?_
           refine AllReadyIn.cons rfl (fun K hK => ?_) ?_
           ·go_simp; refine hK _ _ ?_; clear hK K
            exact H
           exact AllReadyIn.nil
          exact AllReadyIn.nil
         exact AllReadyIn.nil
        refine AllReadyIn.cons rfl (fun K hK => ?_) ?_
        ·go_simp; refine hK _ _ ?_; clear hK K
         refine wpAnyIn_ready (rs := [0, 4]) (by kernel_rfl) (by simp) ?_
         refine AllReadyIn.cons rfl (fun K hK => ?_) ?_
         ·go_simp; refine hK _ _ ?_; clear hK K
          refine wpAnyIn_ready (rs := [4]) (by kernel_rfl) (by simp) ?_
          refine AllReadyIn.cons rfl (fun K hK => ?_) ?_
          ·go_simp; refine hK _ _ ?_; clear hK K
           refine wpAnyIn_ready (rs := [5]) (by kernel_rfl) (by simp) ?_
           refine AllReadyIn.cons rfl (fun K hK => ?_) ?_
           ·go_simp; refine hK _ _ ?_; clear hK K
            exact H
           exact AllReadyIn.nil
          exact AllReadyIn.nil
         refine AllReadyIn.cons rfl (fun K hK => ?_) ?_
         ·go_simp; refine hK _ _ ?_; clear hK K
          refine wpAnyIn_ready (rs := [0, 5]) (by kernel_rfl) (by simp) ?_
          refine AllReadyIn.cons rfl (fun K hK => ?_) ?_
          ·go_simp; refine hK _ _ ?_; clear hK K
           refine wpAnyIn_ready (rs := [5]) (by kernel_rfl) (by simp) ?_
           refine AllReadyIn.cons rfl (fun K hK => ?_) ?_
           ·go_simp; refine hK _ _ ?_; clear hK K
            exact H
           exact AllReadyIn.nil
          refine AllReadyIn.cons rfl (fun K hK => ?_) ?_
          ·go_simp; refine hK _ _ ?_; clear hK K
           refine wpAnyIn_ready (rs := [0]) (by kernel_rfl) (by simp) ?_
           refine AllReadyIn.cons rfl (fun K hK => ?_) ?_
           ·go_simp; refine hK _ _ ?_; clear hK K
            exact H
           exact AllReadyIn.nil
          exact AllReadyIn.nil
         exact AllReadyIn.nil
        exact AllReadyIn.nil
       exact AllReadyIn.nil
      exact AllReadyIn.nil
     ·obtain ⟨i0, hi, hz0, hz1, hz2⟩ := info_parts infoS
      have hrowS := own_lower hrow (show w.heap.size ≤ w.heap.size + 5 by omega)
      have hWs : w.heap.size + 5 ≤ W.heap.size := hsz ▸ hB.size
      have hmore : gotF s (vals (pre ++ [⟨(x, y), hxy, hys⟩])) = gotF s (vals pre) ++ [.string (s.extract x y)] := by rw [vals_snoc]; simp [gotF]
      have hpl := HG.out
      refine wpAnyIn_ready (rs := [6]) (by kernel_rfl) (by simp) ?_
      refine AllReadyIn.cons rfl (fun K hK => ?_) ?_
      ·rw [if_pos (by kernel_rfl)]
       refine wpIn_append_own _ (.tmp 50) (.tmp 55) 23 rfl (w.heap.size + 5) 9 i0 (.string ByteArray.empty) 1 16 (by kernel_rfl) hi hz0 hz1 hz2 rfl (by decide) _ _ _ rfl (own_drew (hrow.alloc _)) ⟨W.heap.size, 0, none⟩ 1 1 [.string (s.extract x y)] rfl rfl (cell_one_new W _ _) (by simp [Value.oneCell']) (by simp only [maxLen]; omega) (by omega) (by simp; omega) ?_
       intro v' w1 hown' hgrow _
       refine hK _ _ ?_
       clear hK K
       obtain ⟨g', cap', rfl⟩ := ownsRow_succ hown'
       have hgrow' : (W.alloc (.cells #[.string (s.extract x y)] 9)).grownBy w1 (Value.slice A (gotF s (vals pre)).length c).ownBlock := ⟨hgrow.os, hgrow.tape, hgrow.output, hgrow.size, hgrow.block⟩
       obtain ⟨hv1, hv2, _, hk2, hb2⟩ := hv.appended (by decide) hrowS (by omega) (by omega) (own_lower hown' (show w.heap.size ≤ w.heap.size + 5 by omega)) hgrow'
       have hr2 := hown'.kept (grownBy_setCell' w1 (w.heap.size + 4) (.slice (some ⟨g', 0, none⟩) ((gotF s (vals pre)).length + 1) cap')) (.inr (hv1.not_row (by decide) hown').symm)
       have hc1 : w1.cell? ⟨w.heap.size + 4, 0, none⟩ = some (.slice A (gotF s (vals pre)).length c) := hv1.cell
       have hf1 : w1.frozen? ⟨w.heap.size + 4, 0, none⟩ = false := hv1.frozen
       have hv2' := Aside.mk hv2
       have hr2' := Aside.mk hr2
       have hk2' := Aside.mk hk2
       have hb2' := Aside.mk hb2
       clear hv2 hr2 hk2 hb2 hpl
       refine wpAnyIn_ready (rs := [7]) (by kernel_rfl) (by simp) ?_
       refine AllReadyIn.cons rfl (fun K hK => ?_) ?_
       ·go_simp; refine hK _ _ ?_; clear hK K
        refine wpAnyIn_done (by kernel_rfl) ?_ _
        simp only [Exit.inBlock]
        refine ⟨hk2'.out.from _, ?_, ⟨⟨⟨_, hv2'.out, ?_, trivial⟩, hB.trans hb2'.out⟩, ?_, ?_⟩⟩
        ·intro b hb
         have hbs : b < W.heap.size := by subst hb; omega
         have hb4 : b < w.heap.size + 5 := by subst hb; omega
         rw [Below.heap_setCell _ _ _ _ (show b ≠ w.heap.size + 4 by subst hb; omega), hgrow'.block b (by simp; omega) (own_far hrow hb4), Below.heap_alloc _ _ _ hbs]
        ·rw [hmore]; simpa using hr2'.out
        ·exact ((hT.alloc _).kept hgrow' (own_far hrow (by omega))).kept (grownBy_setCell' _ _ _) (by simp)
        ·exact ((hR.alloc _).kept hgrow' (own_far hrow (by omega))).kept (grownBy_setCell' _ _ _) (by simp)
       exact AllReadyIn.nil
      exact AllReadyIn.nil
    case done =>
     rintro D ys W hD hS ⟨⟨⟨v, hv, hrow, _⟩, hB⟩, hT, hR⟩ hK
     rw [hS] at hrow
     clear hS
     obtain ⟨A, c, rfl⟩ := own_slice hrow
     have hc := hv.cell
     have hcR := hR.cell
     have hfR := hR.frozen
     gi_wp2
     have hDne : D ≠ w.heap.size + 1 := by omega
     have hK1 : (W.setCell ⟨w.heap.size + 1, 0, none⟩ (.slice A (gotF s (runsL s)).length c)).heap[D]? = some (.deferred (some [])) := (Below.heap_setCell _ _ _ _ (show D ≠ w.heap.size + 1 from hDne)).trans hK
     refine ⟨by simp, .inl ⟨_, _, rfl, run_takeDeferred hK1, ?_⟩⟩
     have hr1 := hrow.kept (grownBy_setCell' W (w.heap.size + 1) (.slice A (gotF s (runsL s)).length c)) (.inr (own_far hrow (by omega)).symm)
     have hcell : ((W.setCell ⟨w.heap.size + 1, 0, none⟩ (.slice A (gotF s (runsL s)).length c)).putObj D (.deferred none)).cell? ⟨w.heap.size + 1, 0, none⟩ = some (.slice A (gotF s (runsL s)).length c) := by
      have h2 := (hR.set (.slice A (gotF s (runsL s)).length c))
      have h3 : Boxed ((W.setCell ⟨w.heap.size + 1, 0, none⟩ (.slice A (gotF s (runsL s)).length c)).putObj D (.deferred none)) (w.heap.size + 1) 23 (.slice A (gotF s (runsL s)).length c) :=
       h2.kept (grownBy_putObj' _ D _) (by simp; omega)
      exact h3.cell
     have hBl : Below w.heap.size w ((W.setCell ⟨w.heap.size + 1, 0, none⟩ (.slice A (gotF s (runsL s)).length c)).putObj D (.deferred none)) :=
      ((hB0.trans hB).setCell (p := ⟨w.heap.size + 1, 0, none⟩) (by simp) _).trans (belowK_b (w := w) (Nat.le_refl _) _ D _ _ (by omega) hK1 rfl rfl)
     exact ⟨_, results_cell_slice rfl _ _ _ A _ c rfl hcell, _, rfl, ownsRow_putObj (own_lower hr1 (by omega)) _ hK1 rfl, hBl⟩
    case stop =>
     rintro D c pre W _ _ h _
     exact h.elim
  ·obtain rfl : e = 0 := by omega
   gi_wp2
   have bO := Boxed.new wr 23 (.slice none 0 0)
   rw [hsz] at bO
   have bT := hT.alloc (.cells #[.slice none 0 0] 23)
   have bR := hR.alloc (.cells #[.slice none 0 0] 23)
   have b1 := hB3.alloc (.cells #[.slice none 0 0] 23)
   have hB0 := hBl.alloc (by omega) (.cells #[.slice none 0 0] 23)
   have hsz1 : (wr.alloc (.cells #[.slice none 0 0] 23)).heap.size = w.heap.size + 5 := by rw [World.size_alloc, hsz]
   clear hcE hfE hcT hE hT hR hB3 hBl
   generalize hW0 : wr.alloc (.cells #[.slice none 0 0] 23) = W0 at *
   clear hsz
   have hsz := hsz1
   clear hW0 hsz1
   refine wpIn_rangeFunc_ownG rfl h1 (gf := 44) (lb := #[.pointer (some ⟨w.heap.size + 1 + 1 + 1, 0, none⟩)]) rfl trivial (enters_of Tryz.func44 (by kernel_rfl) rfl)
    (runs_stops (n - 1) (by omega) _ (fun b => b = w.heap.size + 1 + 1 + 1) s hs rfl W0 (by rintro b rfl; omega) b1.cell)
    Keeps.trans (fun W l o o' hl _ _ _ => Keeps.put (m := W0.heap.size) (by rintro b rfl; omega) W l o' hl) (Below.refl _ _) (fun _ => rfl)
    (fun pre W => ((∃ v, Boxed W (w.heap.size + 4) 23 v ∧ W.ownsRow (w.heap.size + 5) 9 1 v (gotF s (vals pre)).length (gotF s (vals pre)) ∧ True) ∧ Below w.heap.size W0 W) ∧ (Boxed W w.heap.size 9 (.string s) ∧ Boxed W (w.heap.size + 1) 23 (.slice none 0 0)))
    (fun _ _ _ => False)
    (OwnFrom.and (OwnFrom.and (Own.from (holdsRow_own (w.heap.size + 5) (w.heap.size + 4) 23 9 1 (fun pre => (gotF s (vals pre)).length) (fun pre => gotF s (vals pre)) (fun pre _ => True)) _) (ownFrom_below (by omega) (by omega))) (OwnFrom.and (boxed_own _ _ _ _ (by omega)) (boxed_own _ _ _ _ (by omega))))
    (fun _ _ _ _ _ hs _ _ => hs)
    ⟨⟨⟨_, bO, World.ownsRow_nil _ _ _ _, trivial⟩, Below.refl _ _⟩, bT, bR⟩
    (fun (x : Pc s) => { tmps := #[.string s, .string sep, .pointer (some ⟨w.heap.size, 0, none⟩), undef, .pointer (some ⟨w.heap.size + 1, 0, none⟩), .func (.func 44) #[] #[.pointer (some ⟨w.heap.size + 1 + 1 + 1, 0, none⟩)], .pointer (some ⟨w.heap.size + 1 + 1, 0, none⟩), .pointer (some ⟨w.heap.size + 4, 0, none⟩), .int .i64 (x.1.1 : Int), .int .i64 (x.1.2 : Int), .string s, .bool false, .string s, .int .i64 (s.size : Int), .string sep, undef, undef, undef, .bool true, .bool true, .string s, .func (.func 44) #[] #[.pointer (some ⟨w.heap.size + 1 + 1 + 1, 0, none⟩)], .int .i64 0, .bool false, .bool false, undef, undef, undef, undef, undef, .bool false, u31, u32, undef, undef, undef, undef, .func (.func 44) #[] #[.pointer (some ⟨w.heap.size + 1 + 1 + 1, 0, none⟩)], .int .i64 (x.1.1 : Int), .int .i64 (x.1.2 : Int), undef, undef, undef, undef, undef, undef, undef, undef, undef, undef, undef, undef, undef, undef, undef, undef, undef, undef], defers := [] }) ?assign ?body ?done ?stop
   case assign =>
    intro l x W K hK
    simp only [encs]
    gi_wp2
    exact hK
   case body =>
    rintro l pre ⟨⟨x, y⟩, hxy, hys⟩ W ⟨⟨⟨v, hv, hrow, _⟩, hB⟩, hT, hR⟩ hlt
    obtain ⟨A, c, rfl⟩ := own_slice hrow
    have hcT := hT.cell
    have hcO := hv.cell
    have hHX := Aside.mk (And.intro hxy hys)
    have hglen : (gotF s (vals pre)).length = pre.length := by simp [gotF, vals]
    have hne : (((gotF s (vals pre)).length : Int) == 32767) = false := by
     rw [beq_eq_false_iff_ne]; omega
    have HG := Aside.mk hglen
    clear hglen
    gi_wp2
    have hx1 := hHX.out.1
    have hx2 := hHX.out.2
    have hcT1 : W.drew.cell? ⟨w.heap.size, 0, none⟩ = some (Value.string s) := hcT
    have hcO1 : W.drew.cell? ⟨w.heap.size + 4, 0, none⟩ = some (.slice A (gotF s (vals pre)).length c) := hcO
    have hcO2 : ∀ o : Obj, (W.alloc o).cell? ⟨w.heap.size + 4, 0, none⟩ = some (.slice A (gotF s (vals pre)).length c) := fun o => (hv.alloc o).cell
    refine wpIn_region_any (by kernel_rfl) ?_
    change wpAnyIn _ _ _ _ _ _ _ _ _ (World.drew _)
    apply suff_
    ·intro H
     refine wpAnyIn_ready (rs := [0, 1, 2, 3]) (by kernel_rfl) (by simp) ?_
     refine AllReadyIn.cons rfl (fun K hK => ?_) ?_
     ·go_simp; refine hK _ _ ?_; clear hK K
      refine wpAnyIn_ready (rs := [1, 2, 3]) (by kernel_rfl) (by simp) ?_
      refine AllReadyIn.cons rfl (fun K hK => ?_) ?_
      ·go_simp; refine hK _ _ ?_; clear hK K
       refine wpAnyIn_ready (rs := [2, 3]) (by kernel_rfl) (by simp) ?_
       refine AllReadyIn.cons rfl (fun K hK => ?_) ?_
       ·go_simp; refine hK _ _ ?_; clear hK K
        refine wpAnyIn_ready (rs := [3]) (by kernel_rfl) (by simp) ?_
        refine AllReadyIn.cons rfl (fun K hK => ?_) ?_
        ·go_simp; refine hK _ _ ?_; clear hK K
         refine wpAnyIn_ready (rs := [4]) (by kernel_rfl) (by simp) ?_
         refine AllReadyIn.cons rfl (fun K hK => ?_) ?_
         ·go_simp; refine hK _ _ ?_; clear hK K
          refine wpAnyIn_ready (rs := [5]) (by kernel_rfl) (by simp) ?_
          refine AllReadyIn.cons rfl (fun K hK => ?_) ?_
          ·go_simp; refine hK _ _ ?_; clear hK K
           exact H
          exact AllReadyIn.nil
         exact AllReadyIn.nil
        exact AllReadyIn.nil
       refine AllReadyIn.cons rfl (fun K hK => ?_) ?_
       ·go_simp; refine hK _ _ ?_; clear hK K
        refine wpAnyIn_ready (rs := [2]) (by kernel_rfl) (by simp) ?_
        refine AllReadyIn.cons rfl (fun K hK => ?_) ?_
        ·go_simp; refine hK _ _ ?_; clear hK K
         refine wpAnyIn_ready (rs := [4]) (by kernel_rfl) (by simp) ?_
         refine AllReadyIn.cons rfl (fun K hK => ?_) ?_
         ·go_simp; refine hK _ _ ?_; clear hK K
          refine wpAnyIn_ready (rs := [5]) (by kernel_rfl) (by simp) ?_
          refine AllReadyIn.cons rfl (fun K hK => ?_) ?_
          ·go_simp; refine hK _ _ ?_; clear hK K
           exact H
          exact AllReadyIn.nil
         exact AllReadyIn.nil
        exact AllReadyIn.nil
       exact AllReadyIn.nil
      refine AllReadyIn.cons rfl (fun K hK => ?_) ?_
      ·go_simp; refine hK _ _ ?_; clear hK K
       refine wpAnyIn_ready (rs := [1, 3]) (by kernel_rfl) (by simp) ?_
       refine AllReadyIn.cons rfl (fun K hK => ?_) ?_
       ·go_simp; refine hK _ _ ?_; clear hK K
        refine wpAnyIn_ready (rs := [3]) (by kernel_rfl) (by simp) ?_
        refine AllReadyIn.cons rfl (fun K hK => ?_) ?_
        ·go_simp; refine hK _ _ ?_; clear hK K
         refine wpAnyIn_ready (rs := [4]) (by kernel_rfl) (by simp) ?_
         refine AllReadyIn.cons rfl (fun K hK => ?_) ?_
         ·go_simp; refine hK _ _ ?_; clear hK K
          refine wpAnyIn_ready (rs := [5]) (by kernel_rfl) (by simp) ?_
          refine AllReadyIn.cons rfl (fun K hK => ?_) ?_
          ·go_simp; refine hK _ _ ?_; clear hK K
           exact H
          exact AllReadyIn.nil
         exact AllReadyIn.nil
        exact AllReadyIn.nil
       refine AllReadyIn.cons rfl (fun K hK => ?_) ?_
       ·go_simp; refine hK _ _ ?_; clear hK K
        refine wpAnyIn_ready (rs := [1]) (by kernel_rfl) (by simp) ?_
        refine AllReadyIn.cons rfl (fun K hK => ?_) ?_
        ·go_simp; refine hK _ _ ?_; clear hK K
         refine wpAnyIn_ready (rs := [4]) (by kernel_rfl) (by simp) ?_
         refine AllReadyIn.cons rfl (fun K hK => ?_) ?_
         ·go_simp; refine hK _ _ ?_; clear hK K
          refine wpAnyIn_ready (rs := [5]) (by kernel_rfl) (by simp) ?_
          refine AllReadyIn.cons rfl (fun K hK => ?_) ?_
          ·go_simp; refine hK _ _ ?_; clear hK K
           exact H
          exact AllReadyIn.nil
         exact AllReadyIn.nil
        exact AllReadyIn.nil
       exact AllReadyIn.nil
      refine AllReadyIn.cons rfl (fun K hK => ?_) ?_
      ·go_simp; refine hK _ _ ?_; clear hK K
       refine wpAnyIn_ready (rs := [1, 2]) (by kernel_rfl) (by simp) ?_
       refine AllReadyIn.cons rfl (fun K hK => ?_) ?_
       ·go_simp; refine hK _ _ ?_; clear hK K
        refine wpAnyIn_ready (rs := [2]) (by kernel_rfl) (by simp) ?_
        refine AllReadyIn.cons rfl (fun K hK => ?_) ?_
        ·go_simp; refine hK _ _ ?_; clear hK K
         refine wpAnyIn_ready (rs := [4]) (by kernel_rfl) (by simp) ?_
         refine AllReadyIn.cons rfl (fun K hK => ?_) ?_
         ·go_simp; refine hK _ _ ?_; clear hK K
          refine wpAnyIn_ready (rs := [5]) (by kernel_rfl) (by simp) ?_
          refine AllReadyIn.cons rfl (fun K hK => ?_) ?_
          ·go_simp; refine hK _ _ ?_; clear hK K
           exact H
          exact AllReadyIn.nil
         exact AllReadyIn.nil
        exact AllReadyIn.nil
       refine AllReadyIn.cons rfl (fun K hK => ?_) ?_
       ·go_simp; refine hK _ _ ?_; clear hK K
        refine wpAnyIn_ready (rs := [1]) (by kernel_rfl) (by simp) ?_
        refine AllReadyIn.cons rfl (fun K hK => ?_) ?_
        ·go_simp; refine hK _ _ ?_; clear hK K
         refine wpAnyIn_ready (rs := [4]) (by kernel_rfl) (by simp) ?_
         refine AllReadyIn.cons rfl (fun K hK => ?_) ?_
         ·go_simp; refine hK _ _ ?_; clear hK K
          refine wpAnyIn_ready (rs := [5]) (by kernel_rfl) (by simp) ?_
          refine AllReadyIn.cons rfl (fun K hK => ?_) ?_
          ·go_simp; refine hK _ _ ?_; clear hK K
           exact H
          exact AllReadyIn.nil
         exact AllReadyIn.nil
        exact AllReadyIn.nil
       exact AllReadyIn.nil
      exact AllReadyIn.nil
     refine AllReadyIn.cons rfl (fun K hK => ?_) ?_
     ·go_simp; refine hK _ _ ?_; clear hK K
      refine wpAnyIn_ready (rs := [0, 2, 3]) (by kernel_rfl) (by simp) ?_
      refine AllReadyIn.cons rfl (fun K hK => ?_) ?_
      ·go_simp; refine hK _ _ ?_; clear hK K
       refine wpAnyIn_ready (rs := [2, 3]) (by kernel_rfl) (by simp) ?_
       refine AllReadyIn.cons rfl (fun K hK => ?_) ?_
       ·go_simp; refine hK _ _ ?_; clear hK K
        refine wpAnyIn_ready (rs := [3]) (by kernel_rfl) (by simp) ?_
        refine AllReadyIn.cons rfl (fun K hK => ?_) ?_
        ·go_simp; refine hK _ _ ?_; clear hK K
         refine wpAnyIn_ready (rs := [4]) (by kernel_rfl) (by simp) ?_
         refine AllReadyIn.cons rfl (fun K hK => ?_) ?_
         ·go_simp; refine hK _ _ ?_; clear hK K
          refine wpAnyIn_ready (rs := [5]) (by kernel_rfl) (by simp) ?_
          refine AllReadyIn.cons rfl (fun K hK => ?_) ?_
          ·go_simp; refine hK _ _ ?_; clear hK K
           exact H
          exact AllReadyIn.nil
         exact AllReadyIn.nil
        exact AllReadyIn.nil
       refine AllReadyIn.cons rfl (fun K hK => ?_) ?_
       ·go_simp; refine hK _ _ ?_; clear hK K
        refine wpAnyIn_ready (rs := [2]) (by kernel_rfl) (by simp) ?_
        refine AllReadyIn.cons rfl (fun K hK => ?_) ?_
        ·go_simp; refine hK _ _ ?_; clear hK K
         refine wpAnyIn_ready (rs := [4]) (by kernel_rfl) (by simp) ?_
         refine AllReadyIn.cons rfl (fun K hK => ?_) ?_
         ·go_simp; refine hK _ _ ?_; clear hK K
          refine wpAnyIn_ready (rs := [5]) (by kernel_rfl) (by simp) ?_
          refine AllReadyIn.cons rfl (fun K hK => ?_) ?_
          ·go_simp; refine hK _ _ ?_; clear hK K
           exact H
          exact AllReadyIn.nil
         exact AllReadyIn.nil
        exact AllReadyIn.nil
       exact AllReadyIn.nil
      refine AllReadyIn.cons rfl (fun K hK => ?_) ?_
      ·go_simp; refine hK _ _ ?_; clear hK K
       refine wpAnyIn_ready (rs := [0, 3]) (by kernel_rfl) (by simp) ?_
       refine AllReadyIn.cons rfl (fun K hK => ?_) ?_
       ·go_simp; refine hK _ _ ?_; clear hK K
        refine wpAnyIn_ready (rs := [3]) (by kernel_rfl) (by simp) ?_
        refine AllReadyIn.cons rfl (fun K hK => ?_) ?_
        ·go_simp; refine hK _ _ ?_; clear hK K
         refine wpAnyIn_ready (rs := [4]) (by kernel_rfl) (by simp) ?_
         refine AllReadyIn.cons rfl (fun K hK => ?_) ?_
         ·go_simp; refine hK _ _ ?_; clear hK K
          refine wpAnyIn_ready (rs := [5]) (by kernel_rfl) (by simp) ?_
          refine AllReadyIn.cons rfl (fun K hK => ?_) ?_
          ·go_simp; refine hK _ _ ?_; clear hK K
           exact H
          exact AllReadyIn.nil
         exact AllReadyIn.nil
        exact AllReadyIn.nil
       refine AllReadyIn.cons rfl (fun K hK => ?_) ?_
       ·go_simp; refine hK _ _ ?_; clear hK K
        refine wpAnyIn_ready (rs := [0, 4]) (by kernel_rfl) (by simp) ?_
        refine AllReadyIn.cons rfl (fun K hK => ?_) ?_
        ·go_simp; refine hK _ _ ?_; clear hK K
         refine wpAnyIn_ready (rs := [4]) (by kernel_rfl) (by simp) ?_
         refine AllReadyIn.cons rfl (fun K hK => ?_) ?_
         ·go_simp; refine hK _ _ ?_; clear hK K
          refine wpAnyIn_ready (rs := [5]) (by kernel_rfl) (by simp) ?_
          refine AllReadyIn.cons rfl (fun K hK => ?_) ?_
          ·go_simp; refine hK _ _ ?_; clear hK K
           exact H
          exact AllReadyIn.nil
         exact AllReadyIn.nil
        refine AllReadyIn.cons rfl (fun K hK => ?_) ?_
        ·go_simp; refine hK _ _ ?_; clear hK K
         refine wpAnyIn_ready (rs := [0, 5]) (by kernel_rfl) (by simp) ?_
         refine AllReadyIn.cons rfl (fun K hK => ?_) ?_
         ·go_simp; refine hK _ _ ?_; clear hK K
          refine wpAnyIn_ready (rs := [5]) (by kernel_rfl) (by simp) ?_
          refine AllReadyIn.cons rfl (fun K hK => ?_) ?_
          ·go_simp; refine hK _ _ ?_; clear hK K
           exact H
          exact AllReadyIn.nil
         refine AllReadyIn.cons rfl (fun K hK => ?_) ?_
         ·go_simp; refine hK _ _ ?_; clear hK K
          refine wpAnyIn_ready (rs := [0]) (by kernel_rfl) (by simp) ?_
          refine AllReadyIn.cons rfl (fun K hK => ?_) ?_
          ·go_simp; refine hK _ _ ?_; clear hK K
           exact H
          exact AllReadyIn.nil
         exact AllReadyIn.nil
        exact AllReadyIn.nil
       exact AllReadyIn.nil
      refine AllReadyIn.cons rfl (fun K hK => ?_) ?_
      ·go_simp; refine hK _ _ ?_; clear hK K
       refine wpAnyIn_ready (rs := [0, 2]) (by kernel_rfl) (by simp) ?_
       refine AllReadyIn.cons rfl (fun K hK => ?_) ?_
       ·go_simp; refine hK _ _ ?_; clear hK K
        refine wpAnyIn_ready (rs := [2]) (by kernel_rfl) (by simp) ?_
        refine AllReadyIn.cons rfl (fun K hK => ?_) ?_
        ·go_simp; refine hK _ _ ?_; clear hK K
         refine wpAnyIn_ready (rs := [4]) (by kernel_rfl) (by simp) ?_
         refine AllReadyIn.cons rfl (fun K hK => ?_) ?_
         ·go_simp; refine hK _ _ ?_; clear hK K
          refine wpAnyIn_ready (rs := [5]) (by kernel_rfl) (by simp) ?_
          refine AllReadyIn.cons rfl (fun K hK => ?_) ?_
          ·go_simp; refine hK _ _ ?_; clear hK K
           exact H
          exact AllReadyIn.nil
         exact AllReadyIn.nil
        exact AllReadyIn.nil
       refine AllReadyIn.cons rfl (fun K hK => ?_) ?_
       ·go_simp; refine hK _ _ ?_; clear hK K
        refine wpAnyIn_ready (rs := [0, 4]) (by kernel_rfl) (by simp) ?_
        refine AllReadyIn.cons rfl (fun K hK => ?_) ?_
        ·go_simp; refine hK _ _ ?_; clear hK K
         refine wpAnyIn_ready (rs := [4]) (by kernel_rfl) (by simp) ?_
         refine AllReadyIn.cons rfl (fun K hK => ?_) ?_
         ·go_simp; refine hK _ _ ?_; clear hK K
          refine wpAnyIn_ready (rs := [5]) (by kernel_rfl) (by simp) ?_
          refine AllReadyIn.cons rfl (fun K hK => ?_) ?_
          ·go_simp; refine hK _ _ ?_; clear hK K
           exact H
          exact AllReadyIn.nil
         exact AllReadyIn.nil
        refine AllReadyIn.cons rfl (fun K hK => ?_) ?_
        ·go_simp; refine hK _ _ ?_; clear hK K
         refine wpAnyIn_ready (rs := [0, 5]) (by kernel_rfl) (by simp) ?_
         refine AllReadyIn.cons rfl (fun K hK => ?_) ?_
         ·go_simp; refine hK _ _ ?_; clear hK K
          refine wpAnyIn_ready (rs := [5]) (by kernel_rfl) (by simp) ?_
          refine AllReadyIn.cons rfl (fun K hK => ?_) ?_
          ·go_simp; refine hK _ _ ?_; clear hK K
           exact H
          exact AllReadyIn.nil
         refine AllReadyIn.cons rfl (fun K hK => ?_) ?_
         ·go_simp; refine hK _ _ ?_; clear hK K
          refine wpAnyIn_ready (rs := [0]) (by kernel_rfl) (by simp) ?_
          refine AllReadyIn.cons rfl (fun K hK => ?_) ?_
          ·go_simp; refine hK _ _ ?_; clear hK K
           exact H
          exact AllReadyIn.nil
         exact AllReadyIn.nil
        exact AllReadyIn.nil
       exact AllReadyIn.nil
      exact AllReadyIn.nil
     refine AllReadyIn.cons rfl (fun K hK => ?_) ?_
     ·go_simp; refine hK _ _ ?_; clear hK K
      refine wpAnyIn_ready (rs := [0, 1, 3]) (by kernel_rfl) (by simp) ?_
      refine AllReadyIn.cons rfl (fun K hK => ?_) ?_
      ·go_simp; refine hK _ _ ?_; clear hK K
       refine wpAnyIn_ready (rs := [1, 3]) (by kernel_rfl) (by simp) ?_
       refine AllReadyIn.cons rfl (fun K hK => ?_) ?_
       ·go_simp; refine hK _ _ ?_; clear hK K
        refine wpAnyIn_ready (rs := [3]) (by kernel_rfl) (by simp) ?_
        refine AllReadyIn.cons rfl (fun K hK => ?_) ?_
        ·go_simp; refine hK _ _ ?_; clear hK K
         refine wpAnyIn_ready (rs := [4]) (by kernel_rfl) (by simp) ?_
         refine AllReadyIn.cons rfl (fun K hK => ?_) ?_
         ·go_simp; refine hK _ _ ?_; clear hK K
          refine wpAnyIn_ready (rs := [5]) (by kernel_rfl) (by simp) ?_
          refine AllReadyIn.cons rfl (fun K hK => ?_) ?_
          ·go_simp; refine hK _ _ ?_; clear hK K
           exact H
          exact AllReadyIn.nil
         exact AllReadyIn.nil
        exact AllReadyIn.nil
       refine AllReadyIn.cons rfl (fun K hK => ?_) ?_
       ·go_simp; refine hK _ _ ?_; clear hK K
        refine wpAnyIn_ready (rs := [1]) (by kernel_rfl) (by simp) ?_
        refine AllReadyIn.cons rfl (fun K hK => ?_) ?_
        ·go_simp; refine hK _ _ ?_; clear hK K
         refine wpAnyIn_ready (rs := [4]) (by kernel_rfl) (by simp) ?_
         refine AllReadyIn.cons rfl (fun K hK => ?_) ?_
         ·go_simp; refine hK _ _ ?_; clear hK K
          refine wpAnyIn_ready (rs := [5]) (by kernel_rfl) (by simp) ?_
          refine AllReadyIn.cons rfl (fun K hK => ?_) ?_
          ·go_simp; refine hK _ _ ?_; clear hK K
           exact H
          exact AllReadyIn.nil
         exact AllReadyIn.nil
        exact AllReadyIn.nil
       exact AllReadyIn.nil
      refine AllReadyIn.cons rfl (fun K hK => ?_) ?_
      ·go_simp; refine hK _ _ ?_; clear hK K
       refine wpAnyIn_ready (rs := [0, 3]) (by kernel_rfl) (by simp) ?_
       refine AllReadyIn.cons rfl (fun K hK => ?_) ?_
       ·go_simp; refine hK _ _ ?_; clear hK K
        refine wpAnyIn_ready (rs := [3]) (by kernel_rfl) (by simp) ?_
        refine AllReadyIn.cons rfl (fun K hK => ?_) ?_
        ·go_simp; refine hK _ _ ?_; clear hK K
         refine wpAnyIn_ready (rs := [4]) (by kernel_rfl) (by simp) ?_
         refine AllReadyIn.cons rfl (fun K hK => ?_) ?_
         ·go_simp; refine hK _ _ ?_; clear hK K
          refine wpAnyIn_ready (rs := [5]) (by kernel_rfl) (by simp) ?_
          refine AllReadyIn.cons rfl (fun K hK => ?_) ?_
          ·go_simp; refine hK _ _ ?_; clear hK K
           exact H
          exact AllReadyIn.nil
         exact AllReadyIn.nil
        exact AllReadyIn.nil
       refine AllReadyIn.cons rfl (fun K hK => ?_) ?_
       ·go_simp; refine hK _ _ ?_; clear hK K
        refine wpAnyIn_ready (rs := [0, 4]) (by kernel_rfl) (by simp) ?_
        refine AllReadyIn.cons rfl (fun K hK => ?_) ?_
        ·go_simp; refine hK _ _ ?_; clear hK K
         refine wpAnyIn_ready (rs := [4]) (by kernel_rfl) (by simp) ?_
         refine AllReadyIn.cons rfl (fun K hK => ?_) ?_
         ·go_simp; refine hK _ _ ?_; clear hK K
          refine wpAnyIn_ready (rs := [5]) (by kernel_rfl) (by simp) ?_
          refine AllReadyIn.cons rfl (fun K hK => ?_) ?_
          ·go_simp; refine hK _ _ ?_; clear hK K
           exact H
          exact AllReadyIn.nil
         exact AllReadyIn.nil
        refine AllReadyIn.cons rfl (fun K hK => ?_) ?_
        ·go_simp; refine hK _ _ ?_; clear hK K
         refine wpAnyIn_ready (rs := [0, 5]) (by kernel_rfl) (by simp) ?_
         refine AllReadyIn.cons rfl (fun K hK => ?_) ?_
         ·go_simp; refine hK _ _ ?_; clear hK K
          refine wpAnyIn_ready (rs := [5]) (by kernel_rfl) (by simp) ?_
          refine AllReadyIn.cons rfl (fun K hK => ?_) ?_
          ·go_simp; refine hK _ _ ?_; clear hK K
           exact H
          exact AllReadyIn.nil
         refine AllReadyIn.cons rfl (fun K hK => ?_) ?_
         ·go_simp; refine hK _ _ ?_; clear hK K
          refine wpAnyIn_ready (rs := [0]) (by kernel_rfl) (by simp) ?_
          refine AllReadyIn.cons rfl (fun K hK => ?_) ?_
          ·go_simp; refine hK _ _ ?_; clear hK K
           exact H
          exact AllReadyIn.nil
         exact AllReadyIn.nil
        exact AllReadyIn.nil
       exact AllReadyIn.nil
      refine AllReadyIn.cons rfl (fun K hK => ?_) ?_
      ·go_simp; refine hK _ _ ?_; clear hK K
       refine wpAnyIn_ready (rs := [0, 1]) (by kernel_rfl) (by simp) ?_
       refine AllReadyIn.cons rfl (fun K hK => ?_) ?_
       ·go_simp; refine hK _ _ ?_; clear hK K
        refine wpAnyIn_ready (rs := [1]) (by kernel_rfl) (by simp) ?_
        refine AllReadyIn.cons rfl (fun K hK => ?_) ?_
        ·go_simp; refine hK _ _ ?_; clear hK K
         refine wpAnyIn_ready (rs := [4]) (by kernel_rfl) (by simp) ?_
         refine AllReadyIn.cons rfl (fun K hK => ?_) ?_
         ·go_simp; refine hK _ _ ?_; clear hK K
          refine wpAnyIn_ready (rs := [5]) (by kernel_rfl) (by simp) ?_
          refine AllReadyIn.cons rfl (fun K hK => ?_) ?_
          ·go_simp; refine hK _ _ ?_; clear hK K
           exact H
          exact AllReadyIn.nil
         exact AllReadyIn.nil
        exact AllReadyIn.nil
       refine AllReadyIn.cons rfl (fun K hK => ?_) ?_
       ·go_simp; refine hK _ _ ?_; clear hK K
        refine wpAnyIn_ready (rs := [0, 4]) (by kernel_rfl) (by simp) ?_
        refine AllReadyIn.cons rfl (fun K hK => ?_) ?_
        ·go_simp; refine hK _ _ ?_; clear hK K
         refine wpAnyIn_ready (rs := [4]) (by kernel_rfl) (by simp) ?_
         refine AllReadyIn.cons rfl (fun K hK => ?_) ?_
         ·go_simp; refine hK _ _ ?_; clear hK K
          refine wpAnyIn_ready (rs := [5]) (by kernel_rfl) (by simp) ?_
          refine AllReadyIn.cons rfl (fun K hK => ?_) ?_
          ·go_simp; refine hK _ _ ?_; clear hK K
           exact H
          exact AllReadyIn.nil
         exact AllReadyIn.nil
        refine AllReadyIn.cons rfl (fun K hK => ?_) ?_
        ·go_simp; refine hK _ _ ?_; clear hK K
         refine wpAnyIn_ready (rs := [0, 5]) (by kernel_rfl) (by simp) ?_
         refine AllReadyIn.cons rfl (fun K hK => ?_) ?_
         ·go_simp; refine hK _ _ ?_; clear hK K
          refine wpAnyIn_ready (rs := [5]) (by kernel_rfl) (by simp) ?_
          refine AllReadyIn.cons rfl (fun K hK => ?_) ?_
          ·go_simp; refine hK _ _ ?_; clear hK K
           exact H
          exact AllReadyIn.nil
         refine AllReadyIn.cons rfl (fun K hK => ?_) ?_
         ·go_simp; refine hK _ _ ?_; clear hK K
          refine wpAnyIn_ready (rs := [0]) (by kernel_rfl) (by simp) ?_
          refine AllReadyIn.cons rfl (fun K hK => ?_) ?_
          ·go_simp; refine hK _ _ ?_; clear hK K
           exact H
          exact AllReadyIn.nil
         exact AllReadyIn.nil
        exact AllReadyIn.nil
       exact AllReadyIn.nil
      exact AllReadyIn.nil
     refine AllReadyIn.cons rfl (fun K hK => ?_) ?_
     ·go_simp; refine hK _ _ ?_; clear hK K
      refine wpAnyIn_ready (rs := [0, 1, 2]) (by kernel_rfl) (by simp) ?_
      refine AllReadyIn.cons rfl (fun K hK => ?_) ?_
      ·go_simp; refine hK _ _ ?_; clear hK K
       refine wpAnyIn_ready (rs := [1, 2]) (by kernel_rfl) (by simp) ?_
       refine AllReadyIn.cons rfl (fun K hK => ?_) ?_
       ·go_simp; refine hK _ _ ?_; clear hK K
        refine wpAnyIn_ready (rs := [2]) (by kernel_rfl) (by simp) ?_
        refine AllReadyIn.cons rfl (fun K hK => ?_) ?_
        ·go_simp; refine hK _ _ ?_; clear hK K
         refine wpAnyIn_ready (rs := [4]) (by kernel_rfl) (by simp) ?_
         refine AllReadyIn.cons rfl (fun K hK => ?_) ?_
         ·go_simp; refine hK _ _ ?_; clear hK K
          refine wpAnyIn_ready (rs := [5]) (by kernel_rfl) (by simp) ?_
          refine AllReadyIn.cons rfl (fun K hK => ?_) ?_
          ·go_simp; refine hK _ _ ?_; clear hK K
           exact H
          exact AllReadyIn.nil
         exact AllReadyIn.nil
        exact AllReadyIn.nil
       refine AllReadyIn.cons rfl (fun K hK => ?_) ?_
       ·go_simp; refine hK _ _ ?_; clear hK K
        refine wpAnyIn_ready (rs := [1]) (by kernel_rfl) (by simp) ?_
        refine AllReadyIn.cons rfl (fun K hK => ?_) ?_
        ·go_simp; refine hK _ _ ?_; clear hK K
         refine wpAnyIn_ready (rs := [4]) (by kernel_rfl) (by simp) ?_
         refine AllReadyIn.cons rfl (fun K hK => ?_) ?_
         ·go_simp; refine hK _ _ ?_; clear hK K
          refine wpAnyIn_ready (rs := [5]) (by kernel_rfl) (by simp) ?_
          refine AllReadyIn.cons rfl (fun K hK => ?_) ?_
          ·go_simp; refine hK _ _ ?_; clear hK K
           exact H
          exact AllReadyIn.nil
         exact AllReadyIn.nil
        exact AllReadyIn.nil
       exact AllReadyIn.nil
      refine AllReadyIn.cons rfl (fun K hK => ?_) ?_
      ·go_simp; refine hK _ _ ?_; clear hK K
       refine wpAnyIn_ready (rs := [0, 2]) (by kernel_rfl) (by simp) ?_
       refine AllReadyIn.cons rfl (fun K hK => ?_) ?_
       ·go_simp; refine hK _ _ ?_; clear hK K
        refine wpAnyIn_ready (rs := [2]) (by kernel_rfl) (by simp) ?_
        refine AllReadyIn.cons rfl (fun K hK => ?_) ?_
        ·go_simp; refine hK _ _ ?_; clear hK K
         refine wpAnyIn_ready (rs := [4]) (by kernel_rfl) (by simp) ?_
         refine AllReadyIn.cons rfl (fun K hK => ?_) ?_
         ·go_simp; refine hK _ _ ?_; clear hK K
          refine wpAnyIn_ready (rs := [5]) (by kernel_rfl) (by simp) ?_
          refine AllReadyIn.cons rfl (fun K hK => ?_) ?_
          ·go_simp; refine hK _ _ ?_; clear hK K
           exact H
          exact AllReadyIn.nil
         exact AllReadyIn.nil
        exact AllReadyIn.nil
       refine AllReadyIn.cons rfl (fun K hK => ?_) ?_
       ·go_simp; refine hK _ _ ?_; clear hK K
        refine wpAnyIn_ready (rs := [0, 4]) (by kernel_rfl) (by simp) ?_
        refine AllReadyIn.cons rfl (fun K hK => ?_) ?_
        ·go_simp; refine hK _ _ ?_; clear hK K
         refine wpAnyIn_ready (rs := [4]) (by kernel_rfl) (by simp) ?_
         refine AllReadyIn.cons rfl (fun K hK => ?_) ?_
         ·go_simp; refine hK _ _ ?_; clear hK K
          refine wpAnyIn_ready (rs := [5]) (by kernel_rfl) (by simp) ?_
          refine AllReadyIn.cons rfl (fun K hK => ?_) ?_
          ·go_simp; refine hK _ _ ?_; clear hK K
           exact H
          exact AllReadyIn.nil
         exact AllReadyIn.nil
        refine AllReadyIn.cons rfl (fun K hK => ?_) ?_
        ·go_simp; refine hK _ _ ?_; clear hK K
         refine wpAnyIn_ready (rs := [0, 5]) (by kernel_rfl) (by simp) ?_
         refine AllReadyIn.cons rfl (fun K hK => ?_) ?_
         ·go_simp; refine hK _ _ ?_; clear hK K
          refine wpAnyIn_ready (rs := [5]) (by kernel_rfl) (by simp) ?_
          refine AllReadyIn.cons rfl (fun K hK => ?_) ?_
          ·go_simp; refine hK _ _ ?_; clear hK K
           exact H
          exact AllReadyIn.nil
         refine AllReadyIn.cons rfl (fun K hK => ?_) ?_
         ·go_simp; refine hK _ _ ?_; clear hK K
          refine wpAnyIn_ready (rs := [0]) (by kernel_rfl) (by simp) ?_
          refine AllReadyIn.cons rfl (fun K hK => ?_) ?_
          ·go_simp; refine hK _ _ ?_; clear hK K
           exact H
          exact AllReadyIn.nil
         exact AllReadyIn.nil
        exact AllReadyIn.nil
       exact AllReadyIn.nil
      refine AllReadyIn.cons rfl (fun K hK => ?_) ?_
      ·go_simp; refine hK _ _ ?_; clear hK K
       refine wpAnyIn_ready (rs := [0, 1]) (by kernel_rfl) (by simp) ?_
       refine AllReadyIn.cons rfl (fun K hK => ?_) ?_
       ·go_simp; refine hK _ _ ?_; clear hK K
        refine wpAnyIn_ready (rs := [1]) (by kernel_rfl) (by simp) ?_
        refine AllReadyIn.cons rfl (fun K hK => ?_) ?_
        ·go_simp; refine hK _ _ ?_; clear hK K
         refine wpAnyIn_ready (rs := [4]) (by kernel_rfl) (by simp) ?_
         refine AllReadyIn.cons rfl (fun K hK => ?_) ?_
         ·go_simp; refine hK _ _ ?_; clear hK K
          refine wpAnyIn_ready (rs := [5]) (by kernel_rfl) (by simp) ?_
          refine AllReadyIn.cons rfl (fun K hK => ?_) ?_
          ·go_simp; refine hK _ _ ?_; clear hK K
           exact H
          exact AllReadyIn.nil
         exact AllReadyIn.nil
        exact AllReadyIn.nil
       refine AllReadyIn.cons rfl (fun K hK => ?_) ?_
       ·go_simp; refine hK _ _ ?_; clear hK K
        refine wpAnyIn_ready (rs := [0, 4]) (by kernel_rfl) (by simp) ?_
        refine AllReadyIn.cons rfl (fun K hK => ?_) ?_
        ·go_simp; refine hK _ _ ?_; clear hK K
         refine wpAnyIn_ready (rs := [4]) (by kernel_rfl) (by simp) ?_
         refine AllReadyIn.cons rfl (fun K hK => ?_) ?_
         ·go_simp; refine hK _ _ ?_; clear hK K
          refine wpAnyIn_ready (rs := [5]) (by kernel_rfl) (by simp) ?_
          refine AllReadyIn.cons rfl (fun K hK => ?_) ?_
          ·go_simp; refine hK _ _ ?_; clear hK K
           exact H
          exact AllReadyIn.nil
         exact AllReadyIn.nil
        refine AllReadyIn.cons rfl (fun K hK => ?_) ?_
        ·go_simp; refine hK _ _ ?_; clear hK K
         refine wpAnyIn_ready (rs := [0, 5]) (by kernel_rfl) (by simp) ?_
         refine AllReadyIn.cons rfl (fun K hK => ?_) ?_
         ·go_simp; refine hK _ _ ?_; clear hK K
          refine wpAnyIn_ready (rs := [5]) (by kernel_rfl) (by simp) ?_
          refine AllReadyIn.cons rfl (fun K hK => ?_) ?_
          ·go_simp; refine hK _ _ ?_; clear hK K
           exact H
          exact AllReadyIn.nil
         refine AllReadyIn.cons rfl (fun K hK => ?_) ?_
         ·go_simp; refine hK _ _ ?_; clear hK K
          refine wpAnyIn_ready (rs := [0]) (by kernel_rfl) (by simp) ?_
          refine AllReadyIn.cons rfl (fun K hK => ?_) ?_
          ·go_simp; refine hK _ _ ?_; clear hK K
           exact H
          exact AllReadyIn.nil
         exact AllReadyIn.nil
        exact AllReadyIn.nil
       exact AllReadyIn.nil
      exact AllReadyIn.nil
     exact AllReadyIn.nil
    ·obtain ⟨i0, hi, hz0, hz1, hz2⟩ := info_parts infoS
     have hrowS := own_lower hrow (show w.heap.size ≤ w.heap.size + 5 by omega)
     have hWs : w.heap.size + 5 ≤ W.heap.size := hsz ▸ hB.size
     have hmore : gotF s (vals (pre ++ [⟨(x, y), hxy, hys⟩])) = gotF s (vals pre) ++ [.string (s.extract x y)] := by rw [vals_snoc]; simp [gotF]
     have hpl := HG.out
     refine wpAnyIn_ready (rs := [6]) (by kernel_rfl) (by simp) ?_
     refine AllReadyIn.cons rfl (fun K hK => ?_) ?_
     ·rw [if_pos (by kernel_rfl)]
      refine wpIn_append_own _ (.tmp 50) (.tmp 55) 23 rfl (w.heap.size + 5) 9 i0 (.string ByteArray.empty) 1 16 (by kernel_rfl) hi hz0 hz1 hz2 rfl (by decide) _ _ _ rfl (own_drew (hrow.alloc _)) ⟨W.heap.size, 0, none⟩ 1 1 [.string (s.extract x y)] rfl rfl (cell_one_new W _ _) (by simp [Value.oneCell']) (by simp only [maxLen]; omega) (by omega) (by simp; omega) ?_
      intro v' w1 hown' hgrow _
      refine hK _ _ ?_
      clear hK K
      obtain ⟨g', cap', rfl⟩ := ownsRow_succ hown'
      have hgrow' : (W.alloc (.cells #[.string (s.extract x y)] 9)).grownBy w1 (Value.slice A (gotF s (vals pre)).length c).ownBlock := ⟨hgrow.os, hgrow.tape, hgrow.output, hgrow.size, hgrow.block⟩
      obtain ⟨hv1, hv2, _, hk2, hb2⟩ := hv.appended (by decide) hrowS (by omega) (by omega) (own_lower hown' (show w.heap.size ≤ w.heap.size + 5 by omega)) hgrow'
      have hr2 := hown'.kept (grownBy_setCell' w1 (w.heap.size + 4) (.slice (some ⟨g', 0, none⟩) ((gotF s (vals pre)).length + 1) cap')) (.inr (hv1.not_row (by decide) hown').symm)
      have hc1 : w1.cell? ⟨w.heap.size + 4, 0, none⟩ = some (.slice A (gotF s (vals pre)).length c) := hv1.cell
      have hf1 : w1.frozen? ⟨w.heap.size + 4, 0, none⟩ = false := hv1.frozen
      have hv2' := Aside.mk hv2
      have hr2' := Aside.mk hr2
      have hk2' := Aside.mk hk2
      have hb2' := Aside.mk hb2
      clear hv2 hr2 hk2 hb2 hpl
      refine wpAnyIn_ready (rs := [7]) (by kernel_rfl) (by simp) ?_
      refine AllReadyIn.cons rfl (fun K hK => ?_) ?_
      ·go_simp; refine hK _ _ ?_; clear hK K
       refine wpAnyIn_done (by kernel_rfl) ?_ _
       simp only [Exit.inBlock]
       refine ⟨hk2'.out.from _, ?_, ⟨⟨⟨_, hv2'.out, ?_, trivial⟩, hB.trans hb2'.out⟩, ?_, ?_⟩⟩
       ·intro b hb
        have hbs : b < W.heap.size := by subst hb; omega
        have hb4 : b < w.heap.size + 5 := by subst hb; omega
        rw [Below.heap_setCell _ _ _ _ (show b ≠ w.heap.size + 4 by subst hb; omega), hgrow'.block b (by simp; omega) (own_far hrow hb4), Below.heap_alloc _ _ _ hbs]
       ·rw [hmore]; simpa using hr2'.out
       ·exact ((hT.alloc _).kept hgrow' (own_far hrow (by omega))).kept (grownBy_setCell' _ _ _) (by simp)
       ·exact ((hR.alloc _).kept hgrow' (own_far hrow (by omega))).kept (grownBy_setCell' _ _ _) (by simp)
      exact AllReadyIn.nil
     exact AllReadyIn.nil
   case done =>
    rintro D ys W hD hS ⟨⟨⟨v, hv, hrow, _⟩, hB⟩, hT, hR⟩ hK
    rw [hS] at hrow
    clear hS
    obtain ⟨A, c, rfl⟩ := own_slice hrow
    have hc := hv.cell
    have hcR := hR.cell
    have hfR := hR.frozen
    gi_wp2
    have hDne : D ≠ w.heap.size + 1 := by omega
    have hK1 : (W.setCell ⟨w.heap.size + 1, 0, none⟩ (.slice A (gotF s (runsL s)).length c)).heap[D]? = some (.deferred (some [])) := (Below.heap_setCell _ _ _ _ (show D ≠ w.heap.size + 1 from hDne)).trans hK
    refine ⟨by simp, .inl ⟨_, _, rfl, run_takeDeferred hK1, ?_⟩⟩
    have hr1 := hrow.kept (grownBy_setCell' W (w.heap.size + 1) (.slice A (gotF s (runsL s)).length c)) (.inr (own_far hrow (by omega)).symm)
    have hcell : ((W.setCell ⟨w.heap.size + 1, 0, none⟩ (.slice A (gotF s (runsL s)).length c)).putObj D (.deferred none)).cell? ⟨w.heap.size + 1, 0, none⟩ = some (.slice A (gotF s (runsL s)).length c) := by
     have h2 := (hR.set (.slice A (gotF s (runsL s)).length c))
     have h3 : Boxed ((W.setCell ⟨w.heap.size + 1, 0, none⟩ (.slice A (gotF s (runsL s)).length c)).putObj D (.deferred none)) (w.heap.size + 1) 23 (.slice A (gotF s (runsL s)).length c) :=
      h2.kept (grownBy_putObj' _ D _) (by simp; omega)
     exact h3.cell
    have hBl : Below w.heap.size w ((W.setCell ⟨w.heap.size + 1, 0, none⟩ (.slice A (gotF s (runsL s)).length c)).putObj D (.deferred none)) :=
     ((hB0.trans hB).setCell (p := ⟨w.heap.size + 1, 0, none⟩) (by simp) _).trans (belowK_b (w := w) (Nat.le_refl _) _ D _ _ (by omega) hK1 rfl rfl)
    exact ⟨_, results_cell_slice rfl _ _ _ A _ c rfl hcell, _, rfl, ownsRow_putObj (own_lower hr1 (by omega)) _ hK1 rfl, hBl⟩
   case stop =>
    rintro D c pre W _ _ h _
    exact h.elim
end Go.Proofs.YtahdkpoihpcfnaaGreatDoor.Fields
end

section
set_option linter.unusedVariables false
set_option linter.unusedSimpArgs false
namespace Go.Proofs.YtahdkpoihpcfnaaGreatDoor.Stub
open Go Go.RowKit Go.Shelf Go.Proofs.YtahdkpoihpcfnaaGreatDoorW.PrintWords Go.Proofs.YtahdkpoihpcfnaaGreatDoor.CutsP
open Go.Proofs.YtahdkpoihpcfnaaGreatDoor.Lines Go.Proofs.YtahdkpoihpcfnaaGreatDoor.Runs Go.Proofs.YtahdkpoihpcfnaaGreatDoor.Fields
def ofL (l : List UInt8) : ByteArray := ⟨l.toArray⟩
theorem extract_ofL (s : ByteArray) (a b : Nat) : s.extract a b = ofL (piece s.data.toList (a, b)) := by
  unfold ofL piece
  rw [← Cuts.piece_text]
def record_Lines.f (s t : ByteArray) : Option (List ByteArray) :=
  if s.size ≤ 1048576 ∧ t.size ≤ 1048576 ∧ t.toList ≠ [] then some ((linesP s.data.toList t.data.toList).map ofL) else none
theorem record_Lines.calls (s t : ByteArray) (r : List ByteArray) (w : World) (hT : Tabs w) (h : record_Lines.f s t = some r) :
    Calls Tryz.prog 7 #[.string s, .string t] w fun e w' => ∃ v0_ : Value, e = .returned (v0_) ∧ Kd.R Kd.string 9 w' w.heap.size (fun _ => True) v0_ r ∧ Below w.heap.size w w' := by
  unfold record_Lines.f at h
  split at h
  · rename_i hc
    cases h
    obtain ⟨m, hm⟩ := hT.maxlen
    refine ((Lines_in 3 (Nat.le_refl _) s t hc.1 hc.2.1 hc.2.2 m w hm).calls (fun k => room_wide k)).mono ?_
    rintro e w' ⟨v, rfl, ho, hb⟩
    have he : got s (cutsL s.data.toList t.data.toList) = encs Value.string ((linesP s.data.toList t.data.toList).map ofL) := by
      unfold got encs linesP
      rw [List.map_map, List.map_map]
      exact List.map_congr_left fun p _ => by simp only [Function.comp]; rw [extract_ofL]
    rw [he, encs_length] at ho
    exact ⟨v, rfl, Kd.R_of_own ho (fun _ _ => trivial), hb⟩
  · cases h
def record_Fields.f (s t : ByteArray) : Option (List ByteArray) :=
  if s.size ≤ 1048576 ∧ t.size ≤ 1048576 ∧ s.toList ≠ [] then
    (if t.toList = [32] then (if (runsL s).length ≤ 32767 then some ((runsL s).map fun p => s.extract p.1 p.2) else none)
    else if t.toList ≠ [] ∧ (cutsL s.data.toList t.data.toList).length ≤ 32767 then some ((cutsL s.data.toList t.data.toList).map fun p => s.extract p.1 p.2) else none)
  else none
theorem gotF_encs (s : ByteArray) (l : List (Nat × Nat)) : gotF s l = encs Value.string (l.map fun p => s.extract p.1 p.2) := by
  unfold gotF encs
  rw [List.map_map]
  rfl
theorem record_Fields.calls (s t : ByteArray) (r : List ByteArray) (w : World) (hT : Tabs w) (h : record_Fields.f s t = some r) :
    Calls Tryz.prog 10 #[.string s, .string t] w fun e w' => ∃ v0_ : Value, e = .returned (v0_) ∧ Kd.R Kd.string 9 w' w.heap.size (fun _ => True) v0_ r ∧ Below w.heap.size w w' := by
  unfold record_Fields.f at h
  split at h
  · rename_i hc
    split at h
    · rename_i hsp
      split at h
      · rename_i hN
        cases h
        refine ((Fields_runs_in 3 (Nat.le_refl _) s t hc.1 hc.2.2 hsp hN w).calls (fun k => room_wide k)).mono ?_
        rintro e w' ⟨v, rfl, ho, hb⟩
        rw [gotF_encs, encs_length] at ho
        exact ⟨v, rfl, Kd.R_of_own ho (fun _ _ => trivial), hb⟩
      · cases h
    · rename_i hsp
      split at h
      · rename_i hN
        cases h
        obtain ⟨m, hm⟩ := hT.maxlen
        refine ((Fields_cuts_in 3 (Nat.le_refl _) s t hc.1 hc.2.1 hc.2.2 hN.1 hsp hN.2 m w hm).calls (fun k => room_wide k)).mono ?_
        rintro e w' ⟨v, rfl, ho, hb⟩
        rw [gotF_encs, encs_length] at ho
        exact ⟨v, rfl, Kd.R_of_own ho (fun _ _ => trivial), hb⟩
      · cases h
  · cases h
end Go.Proofs.YtahdkpoihpcfnaaGreatDoor.Stub
end

section
set_option linter.unusedVariables false
set_option linter.unusedSimpArgs false
namespace Go.Proofs.YtahdkpoihpcfnaaGreatDoor.Rec
open Go Go.RowKit Go.Shelf Go.Proofs.YtahdkpoihpcfnaaGreatDoorW.PrintWords Go.Proofs.YtahdkpoihpcfnaaGreatDoorW.PrintLast Go.Proofs.YtahdkpoihpcfnaaGreatDoorW.PrintMore Go.Proofs.YtahdkpoihpcfnaaGreatDoor.Stub Go.Proofs.YtahdkpoihpcfnaaGreatDoor.PD Go.Proofs.YtahdkpoihpcfnaaGreatDoor.Flat
def encV (x : S32) : List Value := [.int .i64 x.f0, .int .u64 x.f1, .string x.f2]
theorem flatV : Flat k32 encV where
 len _ := rfl
 pos := by decide
 one x u hu := by
  simp only [encV, List.mem_cons, List.not_mem_nil, or_false] at hu
  rcases hu with rfl | rfl | rfl <;> rfl
 K h := k32_open h
 M w base ok x := k32_mkM w base ok x
def RecAt (w : World) (g : Nat) (s : ByteArray) (xs : List S32) (fs ofs : ByteArray) : Prop :=
 ∃ v, w.heap[g]? = some (.cells #[.string s, v, .string fs, .string ofs] 56 (0, 0)) ∧ Kd.R k32 32 w 0 (fun _ => True) v xs
theorem RecAt.below {w w' : World} {g : Nat} {s : ByteArray} {xs : List S32} {fs ofs : ByteArray} (h : RecAt w g s xs fs ofs) (hb : Below w.heap.size w w') : RecAt w' g s xs fs ofs := by
 obtain ⟨v, hg, hr⟩ := h
 exact ⟨v, (hb.block g (Array.getElem?_eq_some_iff.1 hg).1).trans hg, Kd.R_below hr hb⟩
section
variable {w : World} {g : Nat} {s : ByteArray} {xs : List S32} {fs ofs : ByteArray}
theorem Text_at (h : RecAt w g s xs fs ofs) : Calls Tryz.prog 19 #[.pointer (some ⟨g, 0, none⟩)] w fun e w' => e = .returned (.string s) ∧ w = w' := by
 obtain ⟨v, hg, hr⟩ := h
 have hc : w.cell? ⟨g, 0, none⟩ = some (.string s) := by simp [World.cell?, hg]
 clear hg hr
 go_enter Tryz.func19, Tryz.ntmps19
 go_wp2
 go_ret
 exact ⟨rfl, rfl⟩
theorem Text_nil (w : World) : Calls Tryz.prog 19 #[.pointer none] w fun e w' => e = .returned (.string ⟨#[]⟩) ∧ w = w' := by
 go_enter Tryz.func19, Tryz.ntmps19
 go_wp2
 go_ret
 exact ⟨rfl, rfl⟩
theorem Count_at (h : RecAt w g s xs fs ofs) : Calls Tryz.prog 14 #[.pointer (some ⟨g, 0, none⟩)] w fun e w' => e = .returned (.int .i64 (xs.length : Int)) ∧ w = w' := by
 obtain ⟨v, hg, hr⟩ := h
 obtain ⟨A, c, rfl⟩ := Kd.R_slice hr
 have hc : w.cell? ⟨g, 1, none⟩ = some (.slice A xs.length c) := by simp [World.cell?, hg]
 clear hg hr
 go_enter Tryz.func14, Tryz.ntmps14
 go_wp2
 go_ret
 exact ⟨rfl, rfl⟩
theorem Count_nil (w : World) : Calls Tryz.prog 14 #[.pointer none] w fun e w' => e = .returned (.int .i64 0) ∧ w = w' := by
 go_enter Tryz.func14, Tryz.ntmps14
 go_wp2
 go_ret
 exact ⟨rfl, rfl⟩
theorem New_calls (k : Nat) (parts : List ByteArray) (hT : Tabs w) (hF : record_Fields.f s fs = some parts) (hI : record_inputs.f k parts = some xs) :
  Calls Tryz.prog 21 #[.string s, .string fs, .string ofs] w fun e w' => ∃ g, e = .returned (.pointer (some ⟨g, 0, none⟩)) ∧ w.heap.size ≤ g ∧ RecAt w' g s xs fs ofs ∧ Below w.heap.size w w' := by
 have HF := Aside0.mk hF
 have HI := Aside0.mk hI
 clear hF hI
 go_enter Tryz.func21, Tryz.ntmps21
 go_wp2_with (first
  | (go_at_call 10; refine (record_Fields.calls _ _ _ _ hT HF.out).mono ?_; rintro e w1 ⟨v0, rfl, hr1, hb1⟩; obtain ⟨A, c, rfl, hc1, hC1⟩ := Kd.R_reads hr1; have HC1 := Aside0.mk hC1; have Hc1 := Aside0.mk hc1; have HB1 := Aside0.mk hb1; clear hC1 hc1 hb1 hr1)
  | (go_at_call 33; refine (record_inputs.calls k _ _ _ _ _ HC1.out Hc1.out (Tabs.below hT HB1.out) HI.out).mono ?_; rintro e w2 ⟨v1, rfl, hr2, hb2⟩; obtain ⟨A2, c2, rfl⟩ := Kd.R_slice hr2; have HR2 := Aside0.mk hr2; have HB2 := Aside0.mk (HB1.out.trans (hb2.mono HB1.out.size)); clear hr2 hb2))
 go_ret
 exact ⟨w2.heap.size, rfl, HB2.out.size, ⟨.slice A2 xs.length c2, heap_alloc_last w2 _, Kd.R_lower (Kd.R_alloc HR2.out _) (Nat.zero_le _)⟩, HB2.out.alloc HB2.out.size _⟩
def resizedL (xs : List S32) (n : Nat) : List S32 := xs.take n ++ List.replicate (n - xs.length) z32
theorem resizedL_eq (xs : List S32) (n : Nat) : xs.take (min xs.length n) ++ (List.replicate n z32).drop (min xs.length n) = resizedL xs n := by
 unfold resizedL
 rw [List.drop_replicate]
 rcases Nat.le_total xs.length n with h | h
 ·rw [Nat.min_eq_left h, List.take_of_length_le (Nat.le_refl _), List.take_of_length_le h]
 ·rw [Nat.min_eq_right h, Nat.sub_self, Nat.sub_eq_zero_of_le h]
set_option maxRecDepth 100000 in
set_option maxHeartbeats 2000000 in
theorem resized_calls (n : Int) (h : RecAt w g s xs fs ofs) (h0 : 0 ≤ n) (h1 : n ≤ 32768) :
  Calls Tryz.prog 30 #[.pointer (some ⟨g, 0, none⟩), .int .i64 n] w fun e w' => ∃ v, e = .returned v ∧ Kd.R k32 32 w' w.heap.size (fun _ => True) v (resizedL xs n.toNat) ∧ Below w.heap.size w w' := by
 obtain ⟨v, hg, hr⟩ := h
 obtain ⟨A, c, rfl, hc, hC⟩ := Kd.R_reads hr
 have hglt : g < w.heap.size := (Array.getElem?_eq_some_iff.1 hg).1
 have HC := Aside0.mk hC
 have HG := Aside0.mk hg
 have H0 := Aside0.mk h0
 clear hg hr hC hc
 go_enter Tryz.func30, Tryz.ntmps30
 go_wp2_with (first
  | ((with_reducible refine gate_dst (N := 7) rfl ?_); refine Kd.R_make k32 _ 32 rfl (N := 7) rfl 35 _ _ rfl n rfl rfl Tryz.underlying35 (.agg #[(.int .i64 0), (.int .u64 0), (.string ⟨#[]⟩)]) 32 info32 rfl (by decide) (by omega) z32 (ok := fun _ => True) (okp := fun _ => True) (k32_mkM _ _ _ z32) (fun _ hk => hk) trivial h0 (Nat.le_trans (Nat.mul_le_mul_right _ (show n.toNat ≤ 32768 by omega)) (by omega)) (Below.refl _ _) (Nat.le_refl _) ?_; intro v1 w1 hr1 hb1 hg1 hn1; have HR1 := Aside0.mk hr1; have HB1 := Aside0.mk hb1; have hc1 : w1.cell? ⟨g, 1, none⟩ = some (.slice A xs.length c) := (hb1.cell (p := ⟨g, 1, none⟩) hglt).trans (by simp [World.cell?, HG.out]); clear hr1 hb1 hg1 hn1)
  | ((with_reducible refine gate_builtin (b := .copy) (xs := #[.tmp 8, .tmp 12]) rfl ?_); refine R_copy_flat flatV (w0 := w) w.heap.size rfl (.tmp 8) (.tmp 12) 35 35 32 rfl Tryz.underlying35 (by kernel_rfl) v1 _ xs A xs.length c (fun _ => True) rfl rfl HR1.out (Kd.C_below HC.out HB1.out) HB1.out HB1.out.size ?_; intro w2 hr2 hb2 hg2; have HR2 := Aside0.mk hr2; have HB2 := Aside0.mk hb2; clear hr2 hb2 hg2))
 go_ret
 refine ⟨v1, rfl, ?_, HB2.out⟩
 have := HR2.out
 rwa [List.length_replicate, resizedL_eq] at this
theorem heap_setCell_cells {w : World} {g : Nat} {cs : Array Value} {t : TypeId} {fr : Nat × Nat} (h : w.heap[g]? = some (.cells cs t fr)) (j : Nat) (v : Value) : (w.setCell ⟨g, j, none⟩ v).heap[g]? = some (.cells (cs.setIfInBounds j v) t fr) := by
 simp [World.setCell, Array.getElem?_modify, h]
theorem RecAt.put {w : World} {g : Nat} {s : ByteArray} {xs : List S32} {fs ofs : ByteArray} (h : RecAt w g s xs fs ofs) {t : ByteArray} {v : Value} {ys : List S32} {b : Nat} {ok : Nat → Prop} (hv : Kd.R k32 32 w b ok v ys) :
  RecAt ((w.setCell ⟨g, 0, none⟩ (.string t)).setCell ⟨g, 1, none⟩ v) g t ys fs ofs := by
 obtain ⟨v0, hg, _⟩ := h
 have h1 := heap_setCell_cells hg 0 (.string t)
 refine ⟨v, ?_, ?_⟩
 ·rw [heap_setCell_cells h1 1 v]
  rfl
 ·have ht : ∀ q, q ∈ 32 :: Kd.E k32 → q ≠ 56 := by decide
  exact Kd.R_mono (Kd.R_lower (Kd.R_set (Kd.R_set hv hg ht 0 (.string t)) h1 ht 1 v) (Nat.zero_le _)) (fun _ _ => trivial)
theorem grown_set {w w1 : World} {g : Nat} (h : w.grownBy w1 (some g)) (j : Nat) (v : Value) : w.grownBy (w1.setCell ⟨g, j, none⟩ v) (some g) :=
 ⟨h.os, h.tape, h.output, by simpa [World.setCell] using h.size, fun k hk hne => (Below.heap_setCell w1 ⟨g, j, none⟩ v k (fun he => hne (by rw [he]))).trans (h.block k hk hne)⟩
set_option maxRecDepth 100000 in
set_option maxHeartbeats 2000000 in
theorem put_ok (k : Nat) (ys : List S32) (v : Value) (b : Nat) (ok : Nat → Prop) (fmt t : ByteArray) (h : RecAt w g s xs fs ofs) (hT : Tabs w) (hv : Kd.R k32 32 w b ok v ys) (hB : record_build.f k ys ofs fmt = some (t, 0)) :
  Calls Tryz.prog 31 #[.pointer (some ⟨g, 0, none⟩), v, .string fmt] w fun e w' => e = .returned (.int .i64 0) ∧ RecAt w' g t ys fs ofs ∧ w.grownBy w' (some g) := by
 have h' := h
 obtain ⟨v0, hg, hr⟩ := h
 obtain ⟨A, c, rfl, hc, hC⟩ := Kd.R_reads hv
 have hglt : g < w.heap.size := (Array.getElem?_eq_some_iff.1 hg).1
 have hc3 : w.cell? ⟨g, 3, none⟩ = some (.string ofs) := by simp [World.cell?, hg]
 have HH := Aside0.mk h'
 have HC := Aside0.mk hC
 have HV := Aside0.mk hv
 have Hc := Aside0.mk hc
 have HG := Aside0.mk hg
 have HBB := Aside0.mk hB
 have HT := Aside0.mk hT
 clear hg hr hC hc h' hv hB hT
 go_enter Tryz.func31, Tryz.ntmps31
 go_wp2_with (first
  | (go_at_call 50; refine (record_build.calls k _ _ _ _ _ _ _ _ HC.out Hc.out HT.out HBB.out).mono ?_; rintro e w1 ⟨rfl, hb1⟩; have HB1 := Aside0.mk hb1; have hg1 : w1.heap[g]? = _ := (hb1.block g hglt).trans HG.out; have hc0 : w1.cell? ⟨g, 0, none⟩ = some (.string s) := (by simp [World.cell?, hg1]); have hc1 : w1.cell? ⟨g, 1, none⟩ = some v0 := (by simp [World.cell?, hg1]); have hf0 : w1.frozen? ⟨g, 0, none⟩ = false := (by simp [World.frozen?, hg1]); have hf1 : w1.frozen? ⟨g, 1, none⟩ = false := (by simp [World.frozen?, hg1]); clear hb1 hg1))
 go_ret
 exact ⟨rfl, (HH.out.below HB1.out).put (Kd.R_below HV.out HB1.out), grown_set (grown_set (grown_of_below HB1.out _) _ _) _ _⟩
def setL (xs : List S32) (i : Int) (p : S32) : List S32 := (resizedL xs (max i.toNat xs.length)).set (i - 1).toNat p
theorem seg_whole {W : World} {base : Nat} {c : List Value} (hc : c.length = k32.sz) (p : S32) : k32.M W base (fun _ => False) p (c.take 0 ++ encV p ++ c.drop (0 + (encV p).length)) := by
 have : c.drop (0 + (encV p).length) = [] := List.drop_eq_nil_of_le (by rw [hc, flatV.len]; omega)
 rw [this, List.take_zero, List.nil_append, List.append_nil]
 exact k32_mkM _ _ _ p
theorem resizedL_length (xs : List S32) (n : Nat) : (resizedL xs n).length = n := by
 unfold resizedL
 rw [List.length_append, List.length_take, List.length_replicate]
 omega
theorem resized_pos (n : Int) (h : RecAt w g s xs fs ofs) (h0 : 0 < n) (h1 : n ≤ 32768) :
  Calls Tryz.prog 30 #[.pointer (some ⟨g, 0, none⟩), .int .i64 n] w fun e w' => ∃ (g1 cap nL : Nat), e = .returned (.slice (some ⟨g1, 0, none⟩) nL cap) ∧ Aside0 ((nL : Int) = n) ∧ w.heap.size ≤ g1 ∧ Kd.R k32 32 w' w.heap.size (fun _ => True) (.slice (some ⟨g1, 0, none⟩) nL cap) (resizedL xs n.toNat) ∧ Below w.heap.size w w' := by
 refine (resized_calls n h (by omega) h1).mono ?_
 rintro e w' ⟨v, rfl, hr, hb⟩
 obtain ⟨g1, cap, rfl, hbg, hlt, _⟩ := Kd.R_form hr (by rw [resizedL_length]; omega)
 exact ⟨g1, cap, _, rfl, ⟨by rw [resizedL_length]; omega⟩, hbg, hr, hb⟩
attribute [local go_sem] cell_isSome_setCell max2_int
set_option maxRecDepth 100000 in
set_option maxHeartbeats 2000000 in
theorem Set_ok (k : Nat) (i : Int) (x0 x1 : Int) (x2 : ByteArray) (p : S32) (fmt t : ByteArray) (h : RecAt w g s xs fs ofs) (hT : Tabs w) (hi0 : 0 < i) (hi1 : i ≤ 32768) (hx : xs.length ≤ 32768)
  (hP : value_Plain.f x0 x1 x2 = some (p.f0, p.f1, p.f2)) (hB : record_build.f k (setL xs i p) ofs fmt = some (t, 0)) :
  Calls Tryz.prog 17 #[.pointer (some ⟨g, 0, none⟩), .int .i64 i, .agg #[.int .i64 x0, .int .u64 x1, .string x2], .string fmt] w fun e w' => e = .returned (.int .i64 0) ∧ RecAt w' g t (setL xs i p) fs ofs ∧ w.grownBy w' (some g) := by
 have h' := h
 obtain ⟨v0, hg, hr⟩ := h
 obtain ⟨A, c, rfl, hc, hC⟩ := Kd.R_reads hr
 have hglt : g < w.heap.size := (Array.getElem?_eq_some_iff.1 hg).1
 have hc1 : w.cell? ⟨g, 1, none⟩ = some (.slice A xs.length c) := by simp [World.cell?, hg]
 have HH := Aside0.mk h'
 have HBB := Aside0.mk hB
 have HT := Aside0.mk hT
 have HP := Aside0.mk hP
 have HX := Aside0.mk hx
 obtain ⟨W1, hW1⟩ : ∃ W1, W1 = w.alloc (.cells #[.int .i64 x0, .int .u64 x1, .string x2] 32) := ⟨_, rfl⟩
 have hB1 : Below w.heap.size w W1 := by rw [hW1]; exact (Below.refl _ _).alloc (Nat.le_refl _) _
 clear hg hr hC hc h' hB hT hP hx
 go_enter Tryz.func17, Tryz.ntmps17
 have hset : (resizedL xs (max i (xs.length : Int)).toNat).set (i - 1).toNat p = setL xs i p := by
  unfold setL
  rw [show (max i (xs.length : Int)).toNat = max i.toNat xs.length by omega]
 have HBB' : Aside0 (record_build.f k ((resizedL xs (max i (xs.length : Int)).toNat).set (i - 1).toNat p) ofs fmt = some (t, 0)) := ⟨by rw [hset]; exact HBB.out⟩
 have HS := Lib.hid hset
 clear hset
 have hm0 : 0 < max i (xs.length : Int) := by omega
 have hm1 : max i (xs.length : Int) ≤ 32768 := by have := HX.out; omega
 go_wp2_with (first
  | (go_at_call 30; refine (resized_pos (max i (xs.length : Int)) (HH.out.below (w' := w.alloc _) ((Below.refl _ _).alloc (Nat.le_refl _) _)) hm0 hm1).mono ?_; rintro e w1 ⟨g1, cap, nL, rfl, HN, hg1, hr1, hb1⟩; have hx0 : w1.cell? ⟨w.heap.size, 0, none⟩ = some (.int .i64 x0) := (hb1.cell (p := ⟨w.heap.size, 0, none⟩) (by simp)).trans (by go_simp); have hx1 : w1.cell? ⟨w.heap.size, 1, none⟩ = some (.int .u64 x1) := (hb1.cell (p := ⟨w.heap.size, 1, none⟩) (by simp)).trans (by go_simp); have hx2 : w1.cell? ⟨w.heap.size, 2, none⟩ = some (.string x2) := (hb1.cell (p := ⟨w.heap.size, 2, none⟩) (by simp)).trans (by go_simp); have HR1 := Aside0.mk hr1; have HB1 := Aside0.mk (((Below.refl w.heap.size w).alloc (Nat.le_refl _) _).trans (hb1.mono (by simp))); have hin : i - 1 < (nL : Int) := (by rw [HN.out]; omega); clear hr1 hb1)
  | (go_at_call 28; refine (value_Plain.calls _ _ _ _ _ _ _ HP.out).mono ?_; rintro e w2 ⟨rfl, hb2⟩; have HR2 := Aside0.mk (Kd.R_below HR1.out hb2); have HB2 := Aside0.mk (HB1.out.trans (hb2.mono HB1.out.size)); clear hb2)
  | ((with_reducible refine gate_store (t := 32) (p := 36) (v := .tmp 35) rfl ?_); obtain ⟨cc, hcl, _, hcc, _⟩ := Kd.R_elem HR2.out z32 (i - 1) (by omega) hin; refine Kd.R_store k32 (w0 := w) w.heap.size rfl rfl 32 (.tmp 36) (.tmp 35) rfl 32 (i - 1) 0 _ p (.agg #[.int .i64 p.f0, .int .u64 p.f1, .string p.f2]) (encV p) cc (fun _ => True) (fun _ => False) rfl ?ao rfl rfl (by kernel_rfl) (flatV.one p) (Kd.R_lower HR2.out (by simp)) ?a0 hin hcl hcc ?aj (seg_whole hcl p) (fun _ hk => hk.elim) HB2.out ?_; (case ao => show (i.toNat - 1) * 3 = (i - 1).toNat * 3 + 0; omega); (case a0 => omega); (case aj => exact Nat.le_refl _); intro w3 hr3 hb3 _; have HR3 := Aside0.mk hr3; have HB3 := Aside0.mk hb3; clear hr3 hb3 hcc hcl)
  | (go_at_call 31; refine (put_ok k _ _ _ _ _ _ (HH.out.below HB3.out) (Tabs.below HT.out HB3.out) HR3.out HBB'.out).mono ?_; rintro e w4 ⟨rfl, hr4, hg4⟩; have HR4 := Aside0.mk hr4; have HG4 := Aside0.mk hg4; clear hr4 hg4))
 go_ret
 refine ⟨rfl, ?_, (grown_of_below HB3.out _).trans HG4.out⟩
 have := HR4.out
 rwa [HS.out] at this
end
end Go.Proofs.YtahdkpoihpcfnaaGreatDoor.Rec
end
