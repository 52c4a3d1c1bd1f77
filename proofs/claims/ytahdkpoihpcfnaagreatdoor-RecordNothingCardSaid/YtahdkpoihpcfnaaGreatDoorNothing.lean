/- RecordNothing, for every number, value and text: the call returns true and its arguments read as before; the listed tables hold what the program's text lays (tied). No other condition. -/
import Derived.Test.YtahdkpoihpcfnaaGreatDoorRows
import Derived.Deep.DeepHandedRow
import Derived.Deep.DeepWitnessRowRef
import Derived.Lib.LaidTab
import Derived.Lib.LaidCaseMet
import Derived.PinnedBridge
import Derived.Shelf.Vars
import Derived.Test.YtahdkpoihpcfnaaGreatDoorCards
import Derived.Test.YtahdkpoihpcfnaaGreatDoorTie
import Derived.WalkKit
import Derived.ProofKit
import Derived.OpenShut
import Derived.ShutString
import Derived.ChangeOld
import Derived.Below
import Derived.SizedLaws
import Derived.Lib.SmallJoins
import Derived.Test.YtahdkpoihpcfnaaGreatDoorC6
section
set_option linter.unusedVariables false
set_option linter.unusedSimpArgs false
namespace Go.Proofs.YtahdkpoihpcfnaaGreatDoor.Laid
open Go Go.RowKit Go.Shelf Go.Lib
def theList : List (String × DataW Unit) := [("math/bits.deBruijn32tab", Rows.laid_math_bits_deBruijn32tab), ("math/bits.deBruijn64tab", Rows.laid_math_bits_deBruijn64tab), ("internal/strconv.uint64pow10", Rows.laid_internal_strconv_uint64pow10), ("unicode/utf8.acceptRanges", Rows.laid_unicode_utf8_acceptRanges), ("unicode.CaseRanges", Rows.laid_unicode_CaseRanges), ("unicode/utf8.first", Rows.laid_unicode_utf8_first)]
theorem own : ownKnob Tryz.prog.godebug = none := by kernel_rfl
theorem laidVars_perm {P : Program} {w : World} {l l' : List (String × DataW Unit)} (h : l.Perm l') : ∀ {ps}, DataW.LaidVars P w l ps → ∃ ps', DataW.LaidVars P w l' ps' ∧ ps.Perm ps' := by
  induction h with
  | nil => exact fun {ps} hv => ⟨ps, hv, .refl _⟩
  | cons x _ ih =>
    rintro ps ⟨g, t, cs, fuel, p, q, h1, h2, h3, h4, h5, rfl⟩
    obtain ⟨q', hv, hp⟩ := ih h5
    exact ⟨_, ⟨g, t, cs, fuel, p, q', h1, h2, h3, h4, hv, rfl⟩, List.Perm.append_left _ hp⟩
  | swap x y l =>
    rintro ps ⟨g, t, cs, fuel, p, q, h1, h2, h3, h4, ⟨g', t', cs', fuel', p', q', h1', h2', h3', h4', h5', rfl⟩, rfl⟩
    refine ⟨_, ⟨g', t', cs', fuel', p', _, h1', h2', h3', h4', ⟨g, t, cs, fuel, p, q', h1, h2, h3, h4, h5', rfl⟩, rfl⟩, ?_⟩
    rw [← List.append_assoc, ← List.append_assoc (MemPlace.row ⟨g', 0, none⟩ cs'.size ++ p')]
    exact List.Perm.append_right _ List.perm_append_comm
  | trans _ _ ih1 ih2 =>
    intro ps hv
    obtain ⟨ps1, hv1, hp1⟩ := ih1 hv
    obtain ⟨ps2, hv2, hp2⟩ := ih2 hv1
    exact ⟨ps2, hv2, hp1.trans hp2⟩
theorem laidMet_perm {P : Program} {w : World} {l l' : List (String × DataW Unit)} (h : l.Perm l') (hl : laidMet P l w) : laidMet P l' w := by
  obtain ⟨ps, hv, hn, hr⟩ := hl
  obtain ⟨ps', hv', hp⟩ := laidVars_perm h hv
  exact ⟨ps', hv', (hp.nodup_iff).1 hn, fun b off hm => hr b off ((hp.mem_iff).2 hm)⟩
theorem g64 : Tryz.prog.globalNamed "math/bits.deBruijn64tab" = some 3 := by kernel_rfl
theorem g64Type : (Tryz.prog.globals[3]?).map (·.type) = some 187 := by kernel_rfl
theorem cells64 : Tryz.prog.cellsOf 187 = 64 := by kernel_rfl
theorem cells5 : Tryz.prog.cellsOf 5 = 1 := by kernel_rfl
theorem laid64 : (Rows.laid_math_bits_deBruijn64tab : DataW Unit) = tabData .u8 (deBruijn64tab.map fun (n : Nat) => (n : Int)) := by kernel_rfl
theorem tabs {W : World} (h : laidMet Tryz.prog theList W) (hsh : W.ShapedOpen Tryz.prog) : Stub.Tabs W := by
  refine ⟨fun j hj => ?_, cell_of_shapedOpen_int (zero := #[.int .i64 0]) (t := 3) hsh (of_decide_eq_true (by kernel_rfl)) (by kernel_rfl) rfl (by kernel_rfl) (by kernel_rfl) Tryz.underlying3⟩
  have h' : laidMet Tryz.prog (("math/bits.deBruijn64tab", tabData .u8 (deBruijn64tab.map fun (n : Nat) => (n : Int))) :: [("math/bits.deBruijn32tab", Rows.laid_math_bits_deBruijn32tab), ("internal/strconv.uint64pow10", Rows.laid_internal_strconv_uint64pow10), ("unicode/utf8.acceptRanges", Rows.laid_unicode_utf8_acceptRanges), ("unicode.CaseRanges", Rows.laid_unicode_CaseRanges), ("unicode/utf8.first", Rows.laid_unicode_utf8_first)]) W := by
    rw [← laid64]
    exact laidMet_perm (List.Perm.swap _ _ _) h
  have ht := tabIs_of_head g64 g64Type Tryz.underlying187 Tryz.underlying5 cells5 cells64 h'
  have hc := ht.cell g64 j (by rw [List.length_map]; exact hj)
  rw [hc]
  congr 2
  simp [List.getD_eq_getElem?_getD, List.getElem?_map, List.getElem?_eq_getElem hj]
def caseRen : Go.Shelf.Ren := ⟨Tryz.lays274_ren.f, Tryz.lays274_ren.t, fun | 13 => 5 | n => n⟩
theorem caseLays : Go.Proofs.Lays.n274 Tryz.prog caseRen := { Tryz.lays274 with }
def cells32 : List Value := (deBruijn32tab.map fun (n : Nat) => Value.int .u8 (n : Int))
def cells64L : List Value := (deBruijn64tab.map fun (n : Nat) => Value.int .u8 (n : Int))
def cells10 : List Value := (List.range 20).map fun i => Value.int .u64 ((10 ^ i : Nat) : Int)
def cellsFirst : List Value := firstTab.map fun z => Value.int .u8 z
def cellsAccept : List Value := (List.range 16).flatMap fun i => [Value.int .u8 (accLo i), Value.int .u8 (accHi i)]
noncomputable def laidWorld (os : Os) : World :=
  let N := (World.settled Tryz.prog os).heap.size
  let w0 := World.holding Tryz.prog os ⟨#[.cells caseCells5 (caseRen.t 208)], #[], []⟩
  let put (h : Array Obj) (g : Nat) (cs : Array Value) : Array Obj := h.modify g fun
    | .cells _ t frozen => .cells cs t frozen
    | o => o
  let h1 := put w0.heap 6 cells32.toArray
  let h2 := put h1 3 cells64L.toArray
  let h3 := put h2 4 cells10.toArray
  let h4 := put h3 2 cellsAccept.toArray
  let h5 := put h4 1 cellsFirst.toArray
  let h6 := put h5 5 #[.slice (some ⟨N, 0, none⟩) 336 336]
  { w0 with heap := h6 }
set_option maxRecDepth 100000 in
theorem laid_met (os : Os) (args : Array Value) : laidMet Tryz.prog theList ((laidWorld os).forCall (fun _ _ => 0) ⟨#[], args, []⟩).memory := by
  have h : laidMet Tryz.prog ([("math/bits.deBruijn32tab", Rows.laid_math_bits_deBruijn32tab), ("math/bits.deBruijn64tab", Rows.laid_math_bits_deBruijn64tab), ("internal/strconv.uint64pow10", Rows.laid_internal_strconv_uint64pow10), ("unicode/utf8.acceptRanges", Rows.laid_unicode_utf8_acceptRanges), ("unicode/utf8.first", Rows.laid_unicode_utf8_first)] ++ [("unicode.CaseRanges", caseData)]) ((laidWorld os).forCall (fun _ _ => 0) ⟨#[], args, []⟩).memory :=
    laidMet_with_case (ρ := caseRen) caseLays (by kernel_rfl) ⟨by kernel_rfl, by kernel_rfl, by kernel_rfl, by kernel_rfl, by kernel_rfl, by kernel_rfl⟩
      10 (by kernel_rfl) (by kernel_rfl) (by kernel_rfl) (World.settled Tryz.prog default).heap.size (caseRen.t 208) (of_decide_eq_true (by kernel_rfl)) (by kernel_rfl) (by kernel_rfl) (by kernel_rfl)
  rw [← Pinned.caseRanges_eq] at h
  exact laidMet_perm (List.Perm.cons _ (List.Perm.cons _ (List.Perm.cons _ (List.Perm.cons _ (List.Perm.swap _ _ _))))) h
end Go.Proofs.YtahdkpoihpcfnaaGreatDoor.Laid
end

section
set_option linter.unusedVariables false
set_option linter.unusedSimpArgs false
namespace Go.Proofs.YtahdkpoihpcfnaaGreatDoor.recordNothing
open Go.ChangeShapes Go.WideShapes Go.ChangeAt Go.RowKit
open Go.ChangeMaps (open_string shut_string)
def witnessArgs : Array Value := #[.int .i64 0, .agg #[.int .i64 0, .int .u64 0, .string ByteArray.empty], .string ByteArray.empty]
theorem reads (os : Os) {H : Type} (enc : TypeId × Value → H) : ∃ places, DataW.whole enc Tryz.prog ((Laid.laidWorld os).forCall (fun _ _ => 0) ⟨#[], witnessArgs, []⟩).memory Tryz.f5.params.toList Rows.recordNothingSpec.vars false witnessArgs.toList 8 = some ([.lit (.int .i64 0), .agg [.lit (.int .i64 0), .lit (.int .u64 0), .lit (.string [])], .lit (.string [])], [], places) :=
  ⟨[], by kernel_rfl⟩
set_option maxRecDepth 100000 in
theorem lifted (os : Os) (started : os.Started) (H : Type) (enc : TypeId × Value → H) (F : Stop.Interp) :
    ReturnsInHanded {} Tryz.checked os 5 .any ((OpenSpec.ofChange Rows.recordNothingSpec).preRow enc Tryz.prog Tryz.f5 Rows.recordNothingRow.domain false Rows.recordNothingRow.laid) (((OpenSpec.ofChange Rows.recordNothingSpec).at F).post enc Tryz.prog Tryz.f5 false true false false) := by
  obtain ⟨places, hx⟩ := reads os enc
  refine returnsInHanded_of_row (C := Tryz.checked) (s := OpenSpec.ofChange Rows.recordNothingSpec) Laid.own started (by kernel_rfl) Tryz.func5
    (witness_row_atRef (enc := enc) (C := Tryz.checked) false (Laid.laidWorld os) witnessArgs rfl (by kernel_rfl) (by kernel_rfl) (by kernel_rfl)
      (OpenSpec.preRow_of_cond 8 hx (by kernel_rfl) (fun k hk => by cases hk) (by kernel_rfl) (Laid.laid_met os _))) ?_
  intro W base args ds gs before hval0 hW _ _ _ hL hsh _
  have hval : ∀ (j : Nat) t v, Tryz.f5.params[j]? = some t → args[j]? = some v → Value.okWide Tryz.prog W .any base t v := hval0
  have hW' := hW
  obtain ⟨p, q, hA0, hV, rfl, hfz, hnd⟩ := hW
  have hA : DataW.TrodAll enc Tryz.prog W 0 (fun _ => true) true Tryz.f5.params.toList args.toList ds p := hA0
  rw [Tryz.params5] at hA hval
  obtain ⟨v0, vs0, d0, ds0, p0, q0, hargs, rfl, rfl, h0, r0⟩ := trodAll_cons hA
  obtain ⟨v1, vs1, d1, ds1, p1, q1, rfl, rfl, rfl, h1, r1⟩ := trodAll_cons r0
  obtain ⟨v2, vs2, d2, ds2, p2, q2, rfl, rfl, rfl, h2, r2⟩ := trodAll_cons r1
  obtain ⟨rfl, rfl, rfl⟩ := trodAll_nil r2
  obtain rfl : args = #[v0, v1, v2] := by cases args; simp_all
  obtain ⟨rfl, rfl⟩ := trodVars_none hV
  obtain ⟨i, rfl, rfl, rfl, wi⟩ := open_int Tryz.underlying3 (hval 0 3 v0 rfl rfl) h0
  obtain ⟨c0, c1, c2, y0, y1, y2, m, rfl, rfl, rfl, hy0, hy1, hy2⟩ := Joins.open_agg3 Tryz.underlying32 (by kernel_rfl) (by kernel_rfl) (hval 1 32 v1 rfl rfl) h1
  obtain ⟨x0, e0, rfl, z0⟩ := DataW.trod_int Tryz.underlying3 hy0
  obtain ⟨x1, e1, rfl, z1⟩ := DataW.trod_int Tryz.underlying30 hy1
  obtain ⟨x2, e2, rfl, z2⟩ := DataW.trod_string Tryz.underlying9 hy2
  simp only [List.cons.injEq, and_true] at e0 e1 e2
  subst e0 e1 e2
  obtain ⟨s, rfl, rfl, rfl, ys⟩ := open_string Tryz.underlying9 (hval 2 9 v2 rfl rfl) h2
  clear hA0 hval0
  have structReads : ∀ (W' : World) (sp : Nat → Bool), DataW.Trod enc Tryz.prog W' 0 sp true 32 (.agg #[.int .i64 x0, .int .u64 x1, .string x2]) (.agg [.lit (.int .i64 x0), .lit (.int .u64 x1), .lit (.string x2.data.toList)]) [] := fun W' sp =>
    Joins.shut_agg3 (y0 := (.lit (.int .i64 x0), [])) (y1 := (.lit (.int .u64 x1), [])) (y2 := (.lit (.string x2.data.toList), [])) Tryz.underlying32 (by kernel_rfl) (by kernel_rfl) ⟨1, by simp [DataW.trod, Tryz.underlying3, z0]⟩ ⟨1, by simp [DataW.trod, Tryz.underlying30, z1]⟩ ⟨1, by simp [DataW.trod, Tryz.underlying9, z2]⟩
  refine (Nothing.walk i x0 x1 x2 s W (Laid.tabs hL hsh)).mono fun e W' ⟨he, bel⟩ => ?_
  subst he
  exact ⟨_, rfl, _, _, _, [], _, [], hW', trodAll_mk1 (shut_bool Tryz.underlying4 _), (trodAll_cons_mk (shut_int Tryz.underlying3 wi) (trodAll_cons_mk (structReads _ _) (trodAll_cons_mk (shut_string Tryz.underlying9 ys) trodAll_mk0))), rfl, bel.frame _, fun h => by cases h⟩
theorem said : Rows.RecordNothingSaid :=
  OpenClaim.holds_of_cond 5 Tryz.f5 rfl rfl rfl rfl rfl rfl rfl ⟨rfl, rfl, rfl, rfl, rfl⟩ rfl rfl rfl rfl rfl (by kernel_rfl) Tryz.func5 (by kernel_rfl)
    (of_decide_eq_true (by kernel_rfl)) (by unfold Func.isWrapper; first | (rw [if_pos (by decide +kernel)]; kernel_rfl) | (rw [if_neg (by decide +kernel)]; exact ⟨rfl, rfl⟩))
    (fun os started H enc _ F => by rw [OpenClaim.pre_eq_preRow]; exact lifted os started H enc F)
theorem plain (f : FuncId) (fn : Func) (hf : Tryz.pinned.checked.prog.funcNamed "abacus/abacuslaw21.RecordNothing" = some f) (hfn : Tryz.pinned.checked.prog.funcs[f]? = some fn) :
    true = Tryz.pinned.checked.prog.looks [] ∧ ∀ (j : Nat) t, fn.params[j]? = some t → Tryz.pinned.checked.prog.wantsStandIn t = false := by
  obtain rfl : f = 5 := Option.some.inj ((show Tryz.prog.funcNamed "abacus/abacuslaw21.RecordNothing" = some 5 by kernel_rfl).symm.trans hf) |>.symm
  obtain rfl : fn = Tryz.f5 := (Option.some.inj (Tryz.func5.symm.trans hfn)).symm
  refine ⟨by kernel_rfl, fun j t ht => ?_⟩
  rw [Tryz.params5] at ht
  have ht' := Array.mem_of_getElem? ht
  simp only [List.mem_toArray, List.mem_cons, List.not_mem_nil, or_false] at ht'
  rcases ht' with rfl | rfl | rfl
  · exact (show Tryz.prog.wantsStandIn 3 = false by kernel_rfl)
  · exact (show Tryz.prog.wantsStandIn 32 = false by kernel_rfl)
  · exact (show Tryz.prog.wantsStandIn 9 = false by kernel_rfl)
theorem card : Rows.RecordNothingCardSaid :=
  Claim7.holds_tied_plain_at .later [] _ _ _ _ said (fun _ h => by cases h) (by kernel_rfl) (fun _ h => by cases h) recordNothing_row_tie rfl ⟨rfl, rfl⟩ (by kernel_rfl) rfl plain (by kernel_rfl)
end Go.Proofs.YtahdkpoihpcfnaaGreatDoor.recordNothing
namespace Go.Proofs.YtahdkpoihpcfnaaGreatDoor
theorem recordNothing_holds : Rows.RecordNothingCardSaid := recordNothing.card
end Go.Proofs.YtahdkpoihpcfnaaGreatDoor
end
