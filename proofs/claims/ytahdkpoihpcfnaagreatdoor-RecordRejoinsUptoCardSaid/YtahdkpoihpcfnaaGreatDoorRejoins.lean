/- RecordRejoins, for every text and separator that are together of bulk at most 1048576: the call returns true and its arguments read as before; the listed tables hold what the program's text lays (tied). The road leans on no other condition. -/
import Derived.Test.YtahdkpoihpcfnaaGreatDoorRows
import Derived.Deep.DeepHandedRow
import Derived.Deep.DeepWitnessRowRef
import Derived.Lib.LaidTab
import Derived.Lib.LaidCaseMet
import Derived.PinnedBridge
import Derived.Shelf.Vars
import Derived.Test.YtahdkpoihpcfnaaGreatDoorCards
import Derived.Test.YtahdkpoihpcfnaaGreatDoorTie
import Derived.WalkKit
import Derived.ProofKit
import Derived.OpenShut
import Derived.ShutString
import Derived.ChangeOld
import Derived.Below
import Derived.SizedLaws
import Derived.Test.YtahdkpoihpcfnaaGreatDoorC6
section
set_option linter.unusedVariables false
set_option linter.unusedSimpArgs false
namespace Go.Proofs.YtahdkpoihpcfnaaGreatDoor.Laid
open Go Go.RowKit Go.Shelf Go.Lib
def theList : List (String × DataW Unit) := [("math/bits.deBruijn32tab", Rows.laid_math_bits_deBruijn32tab), ("math/bits.deBruijn64tab", Rows.laid_math_bits_deBruijn64tab), ("internal/strconv.uint64pow10", Rows.laid_internal_strconv_uint64pow10), ("unicode/utf8.acceptRanges", Rows.laid_unicode_utf8_acceptRanges), ("unicode.CaseRanges", Rows.laid_unicode_CaseRanges), ("unicode/utf8.first", Rows.laid_unicode_utf8_first)]
theorem own : ownKnob Tryz.prog.godebug = none := by kernel_rfl
theorem laidVars_perm {P : Program} {w : World} {l l' : List (String × DataW Unit)} (h : l.Perm l') : ∀ {ps}, DataW.LaidVars P w l ps → ∃ ps', DataW.LaidVars P w l' ps' ∧ ps.Perm ps' := by
  induction h with
  | nil => exact fun {ps} hv => ⟨ps, hv, .refl _⟩
  | cons x _ ih =>
    rintro ps ⟨g, t, cs, fuel, p, q, h1, h2, h3, h4, h5, rfl⟩
    obtain ⟨q', hv, hp⟩ := ih h5
    exact ⟨_, ⟨g, t, cs, fuel, p, q', h1, h2, h3, h4, hv, rfl⟩, List.Perm.append_left _ hp⟩
  | swap x y l =>
    rintro ps ⟨g, t, cs, fuel, p, q, h1, h2, h3, h4, ⟨g', t', cs', fuel', p', q', h1', h2', h3', h4', h5', rfl⟩, rfl⟩
    refine ⟨_, ⟨g', t', cs', fuel', p', _, h1', h2', h3', h4', ⟨g, t, cs, fuel, p, q', h1, h2, h3, h4, h5', rfl⟩, rfl⟩, ?_⟩
    rw [← List.append_assoc, ← List.append_assoc (MemPlace.row ⟨g', 0, none⟩ cs'.size ++ p')]
    exact List.Perm.append_right _ List.perm_append_comm
  | trans _ _ ih1 ih2 =>
    intro ps hv
    obtain ⟨ps1, hv1, hp1⟩ := ih1 hv
    obtain ⟨ps2, hv2, hp2⟩ := ih2 hv1
    exact ⟨ps2, hv2, hp1.trans hp2⟩
theorem laidMet_perm {P : Program} {w : World} {l l' : List (String × DataW Unit)} (h : l.Perm l') (hl : laidMet P l w) : laidMet P l' w := by
  obtain ⟨ps, hv, hn, hr⟩ := hl
  obtain ⟨ps', hv', hp⟩ := laidVars_perm h hv
  exact ⟨ps', hv', (hp.nodup_iff).1 hn, fun b off hm => hr b off ((hp.mem_iff).2 hm)⟩
theorem g64 : Tryz.prog.globalNamed "math/bits.deBruijn64tab" = some 3 := by kernel_rfl
theorem g64Type : (Tryz.prog.globals[3]?).map (·.type) = some 187 := by kernel_rfl
theorem cells64 : Tryz.prog.cellsOf 187 = 64 := by kernel_rfl
theorem cells5 : Tryz.prog.cellsOf 5 = 1 := by kernel_rfl
theorem laid64 : (Rows.laid_math_bits_deBruijn64tab : DataW Unit) = tabData .u8 (deBruijn64tab.map fun (n : Nat) => (n : Int)) := by kernel_rfl
theorem tabs {W : World} (h : laidMet Tryz.prog theList W) (hsh : W.ShapedOpen Tryz.prog) : Stub.Tabs W := by
  refine ⟨fun j hj => ?_, cell_of_shapedOpen_int (zero := #[.int .i64 0]) (t := 3) hsh (of_decide_eq_true (by kernel_rfl)) (by kernel_rfl) rfl (by kernel_rfl) (by kernel_rfl) Tryz.underlying3⟩
  have h' : laidMet Tryz.prog (("math/bits.deBruijn64tab", tabData .u8 (deBruijn64tab.map fun (n : Nat) => (n : Int))) :: [("math/bits.deBruijn32tab", Rows.laid_math_bits_deBruijn32tab), ("internal/strconv.uint64pow10", Rows.laid_internal_strconv_uint64pow10), ("unicode/utf8.acceptRanges", Rows.laid_unicode_utf8_acceptRanges), ("unicode.CaseRanges", Rows.laid_unicode_CaseRanges), ("unicode/utf8.first", Rows.laid_unicode_utf8_first)]) W := by
    rw [← laid64]
    exact laidMet_perm (List.Perm.swap _ _ _) h
  have ht := tabIs_of_head g64 g64Type Tryz.underlying187 Tryz.underlying5 cells5 cells64 h'
  have hc := ht.cell g64 j (by rw [List.length_map]; exact hj)
  rw [hc]
  congr 2
  simp [List.getD_eq_getElem?_getD, List.getElem?_map, List.getElem?_eq_getElem hj]
def caseRen : Go.Shelf.Ren := ⟨Tryz.lays274_ren.f, Tryz.lays274_ren.t, fun | 13 => 5 | n => n⟩
theorem caseLays : Go.Proofs.Lays.n274 Tryz.prog caseRen := { Tryz.lays274 with }
def cells32 : List Value := (deBruijn32tab.map fun (n : Nat) => Value.int .u8 (n : Int))
def cells64L : List Value := (deBruijn64tab.map fun (n : Nat) => Value.int .u8 (n : Int))
def cells10 : List Value := (List.range 20).map fun i => Value.int .u64 ((10 ^ i : Nat) : Int)
def cellsFirst : List Value := firstTab.map fun z => Value.int .u8 z
def cellsAccept : List Value := (List.range 16).flatMap fun i => [Value.int .u8 (accLo i), Value.int .u8 (accHi i)]
noncomputable def laidWorld (os : Os) : World :=
  let N := (World.settled Tryz.prog os).heap.size
  let w0 := World.holding Tryz.prog os ⟨#[.cells caseCells5 (caseRen.t 208)], #[], []⟩
  let put (h : Array Obj) (g : Nat) (cs : Array Value) : Array Obj := h.modify g fun
    | .cells _ t frozen => .cells cs t frozen
    | o => o
  let h1 := put w0.heap 6 cells32.toArray
  let h2 := put h1 3 cells64L.toArray
  let h3 := put h2 4 cells10.toArray
  let h4 := put h3 2 cellsAccept.toArray
  let h5 := put h4 1 cellsFirst.toArray
  let h6 := put h5 5 #[.slice (some ⟨N, 0, none⟩) 336 336]
  { w0 with heap := h6 }
set_option maxRecDepth 100000 in
theorem laid_met (os : Os) (args : Array Value) : laidMet Tryz.prog theList ((laidWorld os).forCall (fun _ _ => 0) ⟨#[], args, []⟩).memory := by
  have h : laidMet Tryz.prog ([("math/bits.deBruijn32tab", Rows.laid_math_bits_deBruijn32tab), ("math/bits.deBruijn64tab", Rows.laid_math_bits_deBruijn64tab), ("internal/strconv.uint64pow10", Rows.laid_internal_strconv_uint64pow10), ("unicode/utf8.acceptRanges", Rows.laid_unicode_utf8_acceptRanges), ("unicode/utf8.first", Rows.laid_unicode_utf8_first)] ++ [("unicode.CaseRanges", caseData)]) ((laidWorld os).forCall (fun _ _ => 0) ⟨#[], args, []⟩).memory :=
    laidMet_with_case (ρ := caseRen) caseLays (by kernel_rfl) ⟨by kernel_rfl, by kernel_rfl, by kernel_rfl, by kernel_rfl, by kernel_rfl, by kernel_rfl⟩
      10 (by kernel_rfl) (by kernel_rfl) (by kernel_rfl) (World.settled Tryz.prog default).heap.size (caseRen.t 208) (of_decide_eq_true (by kernel_rfl)) (by kernel_rfl) (by kernel_rfl) (by kernel_rfl)
  rw [← Pinned.caseRanges_eq] at h
  exact laidMet_perm (List.Perm.cons _ (List.Perm.cons _ (List.Perm.cons _ (List.Perm.cons _ (List.Perm.swap _ _ _))))) h
end Go.Proofs.YtahdkpoihpcfnaaGreatDoor.Laid
end

section
set_option linter.unusedVariables false
set_option linter.unusedSimpArgs false
namespace Go.Proofs.YtahdkpoihpcfnaaGreatDoor.recordRejoins
open Go.ChangeShapes Go.WideShapes Go.ChangeAt Go.RowKit
open Go.ChangeMaps (open_string shut_string)
theorem answers (s t : ByteArray) (hs : s.size ≤ 1048576) (ht : t.size ≤ 1048576) (w : World) (hT : Stub.Tabs w) :
    Calls Tryz.prog 3 #[.string s, .string t] w fun e w' => e = .returned (.bool true) ∧ Below w.heap.size w w' := by
  obtain ⟨k, h⟩ := Rejoins.rejoins rfl s t hs ht
  refine (PE.abacuslaw21_RecordRejoins.calls k s t true w hT h).mono ?_
  rintro e w' ⟨rfl, hd⟩
  exact ⟨rfl, hd⟩
theorem bulk2 {H : Type} {x y : List UInt8} (h : Rows.uptoSmall H [.lit (.string x), .lit (.string y)] = true) : x.length ≤ 1048576 ∧ y.length ≤ 1048576 := by
  have h1 := of_decide_eq_true h
  simp only [Rows.uptoBulkAll, Rows.uptoBulk] at h1
  omega
theorem reads (os : Os) {H : Type} (enc : TypeId × Value → H) : ∃ places, DataW.whole enc Tryz.prog ((Laid.laidWorld os).forCall (fun _ _ => 0) ⟨#[], #[.string ByteArray.empty, .string ByteArray.empty], []⟩).memory Tryz.f3.params.toList Rows.recordRejoinsSpec.vars false #[Value.string ByteArray.empty, Value.string ByteArray.empty].toList 8 = some ([.lit (.string []), .lit (.string [])], [], places) :=
  ⟨[], by kernel_rfl⟩
set_option maxRecDepth 100000 in
theorem lifted (os : Os) (started : os.Started) (H : Type) (enc : TypeId × Value → H) (F : Stop.Interp) :
    ReturnsInHanded {} Tryz.checked os 3 .any ((Rows.OpenSpec.upto Rows.recordRejoinsSpec).preRow enc Tryz.prog Tryz.f3 Rows.recordRejoinsUptoRow.domain false Rows.recordRejoinsUptoRow.laid) (((Rows.OpenSpec.upto Rows.recordRejoinsSpec).at F).post enc Tryz.prog Tryz.f3 false true false false) := by
  obtain ⟨places, hx⟩ := reads os enc
  refine returnsInHanded_of_row (C := Tryz.checked) (s := Rows.OpenSpec.upto Rows.recordRejoinsSpec) Laid.own started (by kernel_rfl) Tryz.func3
    (witness_row_atRef (enc := enc) (C := Tryz.checked) false (Laid.laidWorld os) #[.string ByteArray.empty, .string ByteArray.empty] rfl (by kernel_rfl) (by kernel_rfl) (by kernel_rfl)
      (OpenSpec.preRow_of_cond 8 hx (by kernel_rfl) (fun k hk => by cases hk; kernel_rfl) (by kernel_rfl) (Laid.laid_met os _))) ?_
  intro W base args ds gs before hval0 hW _ hcond _ hL hsh _
  have hc := hcond _ rfl
  have hval : ∀ (j : Nat) t v, Tryz.f3.params[j]? = some t → args[j]? = some v → Value.okWide Tryz.prog W .any base t v := hval0
  have hW' := hW
  obtain ⟨p, q, hA0, hV, rfl, hfz, hnd⟩ := hW
  have hA : DataW.TrodAll enc Tryz.prog W 0 (fun _ => true) true Tryz.f3.params.toList args.toList ds p := hA0
  rw [Tryz.params3] at hA hval
  obtain ⟨v0, vs0, d0, ds0, p0, q0, hargs, rfl, rfl, h0, r0⟩ := trodAll_cons hA
  obtain ⟨v1, vs1, d1, ds1, p1, q1, rfl, rfl, rfl, h1, r1⟩ := trodAll_cons r0
  obtain ⟨rfl, rfl, rfl⟩ := trodAll_nil r1
  obtain rfl : args = #[v0, v1] := by cases args; simp_all
  obtain ⟨rfl, rfl⟩ := trodVars_none hV
  obtain ⟨a0, rfl, rfl, rfl, y0⟩ := open_string Tryz.underlying9 (hval 0 9 v0 rfl rfl) h0
  obtain ⟨a1, rfl, rfl, rfl, y1⟩ := open_string Tryz.underlying9 (hval 1 9 v1 rfl rfl) h1
  have hb := bulk2 hc
  have w0 : a0.size ≤ 1048576 := by have := hb.1; rwa [Array.length_toList] at this
  have w1 : a1.size ≤ 1048576 := by have := hb.2; rwa [Array.length_toList] at this
  clear hA0 hval0 hc hcond
  refine (answers a0 a1 w0 w1 W (Laid.tabs hL hsh)).mono fun e W' ⟨he, bel⟩ => ?_
  subst he
  exact ⟨_, rfl, _, _, _, [], _, [], hW', trodAll_mk1 (shut_bool Tryz.underlying4 _), (trodAll_cons_mk (shut_string Tryz.underlying9 y0) (trodAll_cons_mk (shut_string Tryz.underlying9 y1) trodAll_mk0)), rfl, bel.frame _, fun h => by cases h⟩
theorem saidUpto : Rows.RecordRejoinsUptoSaid :=
  OpenClaim.holds_of_cond 3 Tryz.f3 rfl rfl rfl rfl rfl rfl rfl ⟨rfl, rfl, rfl, rfl, rfl⟩ rfl rfl rfl rfl rfl (by kernel_rfl) Tryz.func3 (by kernel_rfl)
    (of_decide_eq_true (by kernel_rfl)) (by unfold Func.isWrapper; first | (rw [if_pos (by decide +kernel)]; kernel_rfl) | (rw [if_neg (by decide +kernel)]; exact ⟨rfl, rfl⟩))
    (fun os started H enc _ F => by rw [OpenClaim.pre_eq_preRow]; exact lifted os started H enc F)
theorem plain (f : FuncId) (fn : Func) (hf : Tryz.pinned.checked.prog.funcNamed "abacus/abacuslaw21.RecordRejoins" = some f) (hfn : Tryz.pinned.checked.prog.funcs[f]? = some fn) :
    true = Tryz.pinned.checked.prog.looks [] ∧ ∀ (j : Nat) t, fn.params[j]? = some t → Tryz.pinned.checked.prog.wantsStandIn t = false := by
  obtain rfl : f = 3 := Option.some.inj ((show Tryz.prog.funcNamed "abacus/abacuslaw21.RecordRejoins" = some 3 by kernel_rfl).symm.trans hf) |>.symm
  obtain rfl : fn = Tryz.f3 := (Option.some.inj (Tryz.func3.symm.trans hfn)).symm
  refine ⟨by kernel_rfl, fun j t ht => ?_⟩
  rw [Tryz.params3] at ht
  have ht' := Array.mem_of_getElem? ht
  simp only [List.mem_toArray, List.mem_cons, List.not_mem_nil, or_false, or_self] at ht'
  subst ht'
  exact (show Tryz.prog.wantsStandIn 9 = false by kernel_rfl)
theorem cardUpto : Rows.RecordRejoinsUptoCardSaid :=
  Claim7.holds_tied_plain_at .later [] _ _ _ _ saidUpto (fun _ h => by cases h) (by kernel_rfl) (fun _ h => by cases h) recordRejoinsUpto_row_tie rfl ⟨rfl, rfl⟩ (by kernel_rfl) rfl plain (by kernel_rfl)
end Go.Proofs.YtahdkpoihpcfnaaGreatDoor.recordRejoins
namespace Go.Proofs.YtahdkpoihpcfnaaGreatDoor
theorem recordRejoinsUpto_holds : Rows.RecordRejoinsUptoCardSaid := recordRejoins.cardUpto
end Go.Proofs.YtahdkpoihpcfnaaGreatDoor
end
