/- Part 6 of what Rejoins rests on: contracts and plain laws. -/
import Derived.Outline
import Derived.Lib.Hide
import Derived.ChangeAlike
import Derived.Deep.QuietTactic
import Derived.BigQuiet
import Derived.Test.YtahdkpoihpcfnaaGreatDoorProg
import Derived.Below
import Derived.Deep.Draws
import Derived.Deep.AppendLies
import Derived.Maps.AppendAt
import Derived.OwnWalk
import Derived.Laws.BytesArg
import Derived.Laws.MakeOwn
import Derived.Laws.OwnMore
import Derived.Deep.OwnRows
import Derived.Tactics
import Derived.Lib.ConvBytes
import Derived.Laws.Slices
import Derived.WalkKit
import Derived.KernelRfl
import Derived.RowKit3
import Derived.Deep.LoopGhost
import Derived.WideLaws
import Derived.Deep.DeepCutAuto
import Derived.Deep.CutBlock
import Derived.Deep.RegionHeld3
import Derived.Laws.Rows
import Derived.Lib.AppendStr
import Derived.ArgAppend
import Derived.Laws.IdiomCopy
import Derived.OrdersHeld
import Derived.Laws.BitsLemmas
import Derived.RowKit
import Derived.Test.YtahdkpoihpcfnaaGreatDoorC5
section
set_option linter.unusedVariables false
set_option linter.unusedSimpArgs false
namespace Go.Proofs.YtahdkpoihpcfnaaGreatDoor.Rec
open Go Go.RowKit Go.Shelf Go.Proofs.YtahdkpoihpcfnaaGreatDoorW.PrintWords Go.Proofs.YtahdkpoihpcfnaaGreatDoorW.PrintLast Go.Proofs.YtahdkpoihpcfnaaGreatDoorW.PrintMore Go.Proofs.YtahdkpoihpcfnaaGreatDoor.Stub Go.Proofs.YtahdkpoihpcfnaaGreatDoor.PD Go.Proofs.YtahdkpoihpcfnaaGreatDoor.Flat
def encV (x : S32) : List Value := [.int .i64 x.f0, .int .u64 x.f1, .string x.f2]
theorem flatV : Flat k32 encV where
 len _ := rfl
 pos := by decide
 one x u hu := by
  simp only [encV, List.mem_cons, List.not_mem_nil, or_false] at hu
  rcases hu with rfl | rfl | rfl <;> rfl
 K h := k32_open h
 M w base ok x := k32_mkM w base ok x
def RecAt (w : World) (g : Nat) (s : ByteArray) (xs : List S32) (fs ofs : ByteArray) : Prop :=
 ∃ v, w.heap[g]? = some (.cells #[.string s, v, .string fs, .string ofs] 56 (0, 0)) ∧ Kd.R k32 32 w 0 (fun _ => True) v xs
theorem RecAt.below {w w' : World} {g : Nat} {s : ByteArray} {xs : List S32} {fs ofs : ByteArray} (h : RecAt w g s xs fs ofs) (hb : Below w.heap.size w w') : RecAt w' g s xs fs ofs := by
 obtain ⟨v, hg, hr⟩ := h
 exact ⟨v, (hb.block g (Array.getElem?_eq_some_iff.1 hg).1).trans hg, Kd.R_below hr hb⟩
section
variable {w : World} {g : Nat} {s : ByteArray} {xs : List S32} {fs ofs : ByteArray}
theorem Text_at (h : RecAt w g s xs fs ofs) : Calls Tryz.prog 19 #[.pointer (some ⟨g, 0, none⟩)] w fun e w' => e = .returned (.string s) ∧ w = w' := by
 obtain ⟨v, hg, hr⟩ := h
 have hc : w.cell? ⟨g, 0, none⟩ = some (.string s) := by simp [World.cell?, hg]
 clear hg hr
 go_enter Tryz.func19, Tryz.ntmps19
 go_wp2
 go_ret
 exact ⟨rfl, rfl⟩
theorem Count_at (h : RecAt w g s xs fs ofs) : Calls Tryz.prog 14 #[.pointer (some ⟨g, 0, none⟩)] w fun e w' => e = .returned (.int .i64 (xs.length : Int)) ∧ w = w' := by
 obtain ⟨v, hg, hr⟩ := h
 obtain ⟨A, c, rfl⟩ := Kd.R_slice hr
 have hc : w.cell? ⟨g, 1, none⟩ = some (.slice A xs.length c) := by simp [World.cell?, hg]
 clear hg hr
 go_enter Tryz.func14, Tryz.ntmps14
 go_wp2
 go_ret
 exact ⟨rfl, rfl⟩
theorem New_calls (k : Nat) (parts : List ByteArray) (hT : Tabs w) (hF : record_Fields.f s fs = some parts) (hI : record_inputs.f k parts = some xs) :
  Calls Tryz.prog 21 #[.string s, .string fs, .string ofs] w fun e w' => ∃ g, e = .returned (.pointer (some ⟨g, 0, none⟩)) ∧ w.heap.size ≤ g ∧ RecAt w' g s xs fs ofs ∧ Below w.heap.size w w' := by
 have HF := Aside0.mk hF
 have HI := Aside0.mk hI
 clear hF hI
 go_enter Tryz.func21, Tryz.ntmps21
 go_wp2_with (first
  | (go_at_call 10; refine (record_Fields.calls _ _ _ _ hT HF.out).mono ?_; rintro e w1 ⟨v0, rfl, hr1, hb1⟩; obtain ⟨A, c, rfl, hc1, hC1⟩ := Kd.R_reads hr1; have HC1 := Aside0.mk hC1; have Hc1 := Aside0.mk hc1; have HB1 := Aside0.mk hb1; clear hC1 hc1 hb1 hr1)
  | (go_at_call 33; refine (record_inputs.calls k _ _ _ _ _ HC1.out Hc1.out (Tabs.below hT HB1.out) HI.out).mono ?_; rintro e w2 ⟨v1, rfl, hr2, hb2⟩; obtain ⟨A2, c2, rfl⟩ := Kd.R_slice hr2; have HR2 := Aside0.mk hr2; have HB2 := Aside0.mk (HB1.out.trans (hb2.mono HB1.out.size)); clear hr2 hb2))
 go_ret
 exact ⟨w2.heap.size, rfl, HB2.out.size, ⟨.slice A2 xs.length c2, heap_alloc_last w2 _, Kd.R_lower (Kd.R_alloc HR2.out _) (Nat.zero_le _)⟩, HB2.out.alloc HB2.out.size _⟩
def resizedL (xs : List S32) (n : Nat) : List S32 := xs.take n ++ List.replicate (n - xs.length) z32
theorem resizedL_eq (xs : List S32) (n : Nat) : xs.take (min xs.length n) ++ (List.replicate n z32).drop (min xs.length n) = resizedL xs n := by
 unfold resizedL
 rw [List.drop_replicate]
 rcases Nat.le_total xs.length n with h | h
 ·rw [Nat.min_eq_left h, List.take_of_length_le (Nat.le_refl _), List.take_of_length_le h]
 ·rw [Nat.min_eq_right h, Nat.sub_self, Nat.sub_eq_zero_of_le h]
set_option maxRecDepth 100000 in
set_option maxHeartbeats 2000000 in
theorem resized_calls (n : Int) (h : RecAt w g s xs fs ofs) (h0 : 0 ≤ n) (h1 : n ≤ 32768) :
  Calls Tryz.prog 30 #[.pointer (some ⟨g, 0, none⟩), .int .i64 n] w fun e w' => ∃ v, e = .returned v ∧ Kd.R k32 32 w' w.heap.size (fun _ => True) v (resizedL xs n.toNat) ∧ Below w.heap.size w w' := by
 obtain ⟨v, hg, hr⟩ := h
 obtain ⟨A, c, rfl, hc, hC⟩ := Kd.R_reads hr
 have hglt : g < w.heap.size := (Array.getElem?_eq_some_iff.1 hg).1
 have HC := Aside0.mk hC
 have HG := Aside0.mk hg
 have H0 := Aside0.mk h0
 clear hg hr hC hc
 go_enter Tryz.func30, Tryz.ntmps30
 go_wp2_with (first
  | ((with_reducible refine gate_dst (N := 7) rfl ?_); refine Kd.R_make k32 _ 32 rfl (N := 7) rfl 35 _ _ rfl n rfl rfl Tryz.underlying35 (.agg #[(.int .i64 0), (.int .u64 0), (.string ⟨#[]⟩)]) 32 info32 rfl (by decide) (by omega) z32 (ok := fun _ => True) (okp := fun _ => True) (k32_mkM _ _ _ z32) (fun _ hk => hk) trivial h0 (Nat.le_trans (Nat.mul_le_mul_right _ (show n.toNat ≤ 32768 by omega)) (by omega)) (Below.refl _ _) (Nat.le_refl _) ?_; intro v1 w1 hr1 hb1 hg1 hn1; have HR1 := Aside0.mk hr1; have HB1 := Aside0.mk hb1; have hc1 : w1.cell? ⟨g, 1, none⟩ = some (.slice A xs.length c) := (hb1.cell (p := ⟨g, 1, none⟩) hglt).trans (by simp [World.cell?, HG.out]); clear hr1 hb1 hg1 hn1)
  | ((with_reducible refine gate_builtin (b := .copy) (xs := #[.tmp 8, .tmp 12]) rfl ?_); refine R_copy_flat flatV (w0 := w) w.heap.size rfl (.tmp 8) (.tmp 12) 35 35 32 rfl Tryz.underlying35 (by kernel_rfl) v1 _ xs A xs.length c (fun _ => True) rfl rfl HR1.out (Kd.C_below HC.out HB1.out) HB1.out HB1.out.size ?_; intro w2 hr2 hb2 hg2; have HR2 := Aside0.mk hr2; have HB2 := Aside0.mk hb2; clear hr2 hb2 hg2))
 go_ret
 refine ⟨v1, rfl, ?_, HB2.out⟩
 have := HR2.out
 rwa [List.length_replicate, resizedL_eq] at this
theorem heap_setCell_cells {w : World} {g : Nat} {cs : Array Value} {t : TypeId} {fr : Nat × Nat} (h : w.heap[g]? = some (.cells cs t fr)) (j : Nat) (v : Value) : (w.setCell ⟨g, j, none⟩ v).heap[g]? = some (.cells (cs.setIfInBounds j v) t fr) := by
 simp [World.setCell, Array.getElem?_modify, h]
theorem RecAt.put {w : World} {g : Nat} {s : ByteArray} {xs : List S32} {fs ofs : ByteArray} (h : RecAt w g s xs fs ofs) {t : ByteArray} {v : Value} {ys : List S32} {b : Nat} {ok : Nat → Prop} (hv : Kd.R k32 32 w b ok v ys) :
  RecAt ((w.setCell ⟨g, 0, none⟩ (.string t)).setCell ⟨g, 1, none⟩ v) g t ys fs ofs := by
 obtain ⟨v0, hg, _⟩ := h
 have h1 := heap_setCell_cells hg 0 (.string t)
 refine ⟨v, ?_, ?_⟩
 ·rw [heap_setCell_cells h1 1 v]
  rfl
 ·have ht : ∀ q, q ∈ 32 :: Kd.E k32 → q ≠ 56 := by decide
  exact Kd.R_mono (Kd.R_lower (Kd.R_set (Kd.R_set hv hg ht 0 (.string t)) h1 ht 1 v) (Nat.zero_le _)) (fun _ _ => trivial)
theorem grown_set {w w1 : World} {g : Nat} (h : w.grownBy w1 (some g)) (j : Nat) (v : Value) : w.grownBy (w1.setCell ⟨g, j, none⟩ v) (some g) :=
 ⟨h.os, h.tape, h.output, by simpa [World.setCell] using h.size, fun k hk hne => (Below.heap_setCell w1 ⟨g, j, none⟩ v k (fun he => hne (by rw [he]))).trans (h.block k hk hne)⟩
set_option maxRecDepth 100000 in
set_option maxHeartbeats 2000000 in
theorem put_ok (k : Nat) (ys : List S32) (v : Value) (b : Nat) (ok : Nat → Prop) (fmt t : ByteArray) (h : RecAt w g s xs fs ofs) (hT : Tabs w) (hv : Kd.R k32 32 w b ok v ys) (hB : record_build.f k ys ofs fmt = some (t, 0)) :
  Calls Tryz.prog 31 #[.pointer (some ⟨g, 0, none⟩), v, .string fmt] w fun e w' => e = .returned (.int .i64 0) ∧ RecAt w' g t ys fs ofs ∧ w.grownBy w' (some g) := by
 have h' := h
 obtain ⟨v0, hg, hr⟩ := h
 obtain ⟨A, c, rfl, hc, hC⟩ := Kd.R_reads hv
 have hglt : g < w.heap.size := (Array.getElem?_eq_some_iff.1 hg).1
 have hc3 : w.cell? ⟨g, 3, none⟩ = some (.string ofs) := by simp [World.cell?, hg]
 have HH := Aside0.mk h'
 have HC := Aside0.mk hC
 have HV := Aside0.mk hv
 have Hc := Aside0.mk hc
 have HG := Aside0.mk hg
 have HBB := Aside0.mk hB
 have HT := Aside0.mk hT
 clear hg hr hC hc h' hv hB hT
 go_enter Tryz.func31, Tryz.ntmps31
 go_wp2_with (first
  | (go_at_call 50; refine (record_build.calls k _ _ _ _ _ _ _ _ HC.out Hc.out HT.out HBB.out).mono ?_; rintro e w1 ⟨rfl, hb1⟩; have HB1 := Aside0.mk hb1; have hg1 : w1.heap[g]? = _ := (hb1.block g hglt).trans HG.out; have hc0 : w1.cell? ⟨g, 0, none⟩ = some (.string s) := (by simp [World.cell?, hg1]); have hc1 : w1.cell? ⟨g, 1, none⟩ = some v0 := (by simp [World.cell?, hg1]); have hf0 : w1.frozen? ⟨g, 0, none⟩ = false := (by simp [World.frozen?, hg1]); have hf1 : w1.frozen? ⟨g, 1, none⟩ = false := (by simp [World.frozen?, hg1]); clear hb1 hg1))
 go_ret
 exact ⟨rfl, (HH.out.below HB1.out).put (Kd.R_below HV.out HB1.out), grown_set (grown_set (grown_of_below HB1.out _) _ _) _ _⟩
def setL (xs : List S32) (i : Int) (p : S32) : List S32 := (resizedL xs (max i.toNat xs.length)).set (i - 1).toNat p
theorem seg_whole {W : World} {base : Nat} {c : List Value} (hc : c.length = k32.sz) (p : S32) : k32.M W base (fun _ => False) p (c.take 0 ++ encV p ++ c.drop (0 + (encV p).length)) := by
 have : c.drop (0 + (encV p).length) = [] := List.drop_eq_nil_of_le (by rw [hc, flatV.len]; omega)
 rw [this, List.take_zero, List.nil_append, List.append_nil]
 exact k32_mkM _ _ _ p
theorem resizedL_length (xs : List S32) (n : Nat) : (resizedL xs n).length = n := by
 unfold resizedL
 rw [List.length_append, List.length_take, List.length_replicate]
 omega
theorem resized_pos (n : Int) (h : RecAt w g s xs fs ofs) (h0 : 0 < n) (h1 : n ≤ 32768) :
  Calls Tryz.prog 30 #[.pointer (some ⟨g, 0, none⟩), .int .i64 n] w fun e w' => ∃ (g1 cap nL : Nat), e = .returned (.slice (some ⟨g1, 0, none⟩) nL cap) ∧ Aside0 ((nL : Int) = n) ∧ w.heap.size ≤ g1 ∧ Kd.R k32 32 w' w.heap.size (fun _ => True) (.slice (some ⟨g1, 0, none⟩) nL cap) (resizedL xs n.toNat) ∧ Below w.heap.size w w' := by
 refine (resized_calls n h (by omega) h1).mono ?_
 rintro e w' ⟨v, rfl, hr, hb⟩
 obtain ⟨g1, cap, rfl, hbg, hlt, _⟩ := Kd.R_form hr (by rw [resizedL_length]; omega)
 exact ⟨g1, cap, _, rfl, ⟨by rw [resizedL_length]; omega⟩, hbg, hr, hb⟩
attribute [local go_sem] cell_isSome_setCell max2_int
set_option maxRecDepth 100000 in
set_option maxHeartbeats 2000000 in
theorem Set_ok (k : Nat) (i : Int) (x0 x1 : Int) (x2 : ByteArray) (p : S32) (fmt t : ByteArray) (h : RecAt w g s xs fs ofs) (hT : Tabs w) (hi0 : 0 < i) (hi1 : i ≤ 32768) (hx : xs.length ≤ 32768)
  (hP : value_Plain.f x0 x1 x2 = some (p.f0, p.f1, p.f2)) (hB : record_build.f k (setL xs i p) ofs fmt = some (t, 0)) :
  Calls Tryz.prog 17 #[.pointer (some ⟨g, 0, none⟩), .int .i64 i, .agg #[.int .i64 x0, .int .u64 x1, .string x2], .string fmt] w fun e w' => e = .returned (.int .i64 0) ∧ RecAt w' g t (setL xs i p) fs ofs ∧ w.grownBy w' (some g) := by
 have h' := h
 obtain ⟨v0, hg, hr⟩ := h
 obtain ⟨A, c, rfl, hc, hC⟩ := Kd.R_reads hr
 have hglt : g < w.heap.size := (Array.getElem?_eq_some_iff.1 hg).1
 have hc1 : w.cell? ⟨g, 1, none⟩ = some (.slice A xs.length c) := by simp [World.cell?, hg]
 have HH := Aside0.mk h'
 have HBB := Aside0.mk hB
 have HT := Aside0.mk hT
 have HP := Aside0.mk hP
 have HX := Aside0.mk hx
 obtain ⟨W1, hW1⟩ : ∃ W1, W1 = w.alloc (.cells #[.int .i64 x0, .int .u64 x1, .string x2] 32) := ⟨_, rfl⟩
 have hB1 : Below w.heap.size w W1 := by rw [hW1]; exact (Below.refl _ _).alloc (Nat.le_refl _) _
 clear hg hr hC hc h' hB hT hP hx
 go_enter Tryz.func17, Tryz.ntmps17
 have hset : (resizedL xs (max i (xs.length : Int)).toNat).set (i - 1).toNat p = setL xs i p := by
  unfold setL
  rw [show (max i (xs.length : Int)).toNat = max i.toNat xs.length by omega]
 have HBB' : Aside0 (record_build.f k ((resizedL xs (max i (xs.length : Int)).toNat).set (i - 1).toNat p) ofs fmt = some (t, 0)) := ⟨by rw [hset]; exact HBB.out⟩
 have HS := Lib.hid hset
 clear hset
 have hm0 : 0 < max i (xs.length : Int) := by omega
 have hm1 : max i (xs.length : Int) ≤ 32768 := by have := HX.out; omega
 go_wp2_with (first
  | (go_at_call 30; refine (resized_pos (max i (xs.length : Int)) (HH.out.below (w' := w.alloc _) ((Below.refl _ _).alloc (Nat.le_refl _) _)) hm0 hm1).mono ?_; rintro e w1 ⟨g1, cap, nL, rfl, HN, hg1, hr1, hb1⟩; have hx0 : w1.cell? ⟨w.heap.size, 0, none⟩ = some (.int .i64 x0) := (hb1.cell (p := ⟨w.heap.size, 0, none⟩) (by simp)).trans (by go_simp); have hx1 : w1.cell? ⟨w.heap.size, 1, none⟩ = some (.int .u64 x1) := (hb1.cell (p := ⟨w.heap.size, 1, none⟩) (by simp)).trans (by go_simp); have hx2 : w1.cell? ⟨w.heap.size, 2, none⟩ = some (.string x2) := (hb1.cell (p := ⟨w.heap.size, 2, none⟩) (by simp)).trans (by go_simp); have HR1 := Aside0.mk hr1; have HB1 := Aside0.mk (((Below.refl w.heap.size w).alloc (Nat.le_refl _) _).trans (hb1.mono (by simp))); have hin : i - 1 < (nL : Int) := (by rw [HN.out]; omega); clear hr1 hb1)
  | (go_at_call 28; refine (value_Plain.calls _ _ _ _ _ _ _ HP.out).mono ?_; rintro e w2 ⟨rfl, hb2⟩; have HR2 := Aside0.mk (Kd.R_below HR1.out hb2); have HB2 := Aside0.mk (HB1.out.trans (hb2.mono HB1.out.size)); clear hb2)
  | ((with_reducible refine gate_store (t := 32) (p := 36) (v := .tmp 35) rfl ?_); obtain ⟨cc, hcl, _, hcc, _⟩ := Kd.R_elem HR2.out z32 (i - 1) (by omega) hin; refine Kd.R_store k32 (w0 := w) w.heap.size rfl rfl 32 (.tmp 36) (.tmp 35) rfl 32 (i - 1) 0 _ p (.agg #[.int .i64 p.f0, .int .u64 p.f1, .string p.f2]) (encV p) cc (fun _ => True) (fun _ => False) rfl ?ao rfl rfl (by kernel_rfl) (flatV.one p) (Kd.R_lower HR2.out (by simp)) ?a0 hin hcl hcc ?aj (seg_whole hcl p) (fun _ hk => hk.elim) HB2.out ?_; (case ao => show (i.toNat - 1) * 3 = (i - 1).toNat * 3 + 0; omega); (case a0 => omega); (case aj => exact Nat.le_refl _); intro w3 hr3 hb3 _; have HR3 := Aside0.mk hr3; have HB3 := Aside0.mk hb3; clear hr3 hb3 hcc hcl)
  | (go_at_call 31; refine (put_ok k _ _ _ _ _ _ (HH.out.below HB3.out) (Tabs.below HT.out HB3.out) HR3.out HBB'.out).mono ?_; rintro e w4 ⟨rfl, hr4, hg4⟩; have HR4 := Aside0.mk hr4; have HG4 := Aside0.mk hg4; clear hr4 hg4))
 go_ret
 refine ⟨rfl, ?_, (grown_of_below HB3.out _).trans HG4.out⟩
 have := HR4.out
 rwa [HS.out] at this
end
end Go.Proofs.YtahdkpoihpcfnaaGreatDoor.Rec
end

section
set_option linter.unusedVariables false
set_option linter.unusedSimpArgs false
namespace Go.Proofs.YtahdkpoihpcfnaaGreatDoor.Stub
open Go Go.RowKit Go.Shelf Go.Proofs.YtahdkpoihpcfnaaGreatDoorW.PrintWords Go.Proofs.YtahdkpoihpcfnaaGreatDoor.PC Go.Proofs.YtahdkpoihpcfnaaGreatDoor.PD Go.Proofs.YtahdkpoihpcfnaaGreatDoor.Flat Go.Proofs.YtahdkpoihpcfnaaGreatDoor.Rec Go.Proofs.YtahdkpoihpcfnaaGreatDoor.CutsP
theorem lines_closed : record_Lines.f ⟨#[97, 10, 98, 10]⟩ ⟨#[10]⟩ = some [⟨#[97]⟩, ⟨#[98]⟩] := by
 unfold record_Lines.f
 rw [if_pos ⟨by decide, by decide, by rw [Lib.toList_data]; decide⟩]
 rfl
theorem fields_closed : record_Fields.f ⟨#[97, 44, 98]⟩ ⟨#[44]⟩ = some [⟨#[97]⟩, ⟨#[98]⟩] := by
 unfold record_Fields.f
 rw [if_pos ⟨by decide, by decide, by rw [Lib.toList_data]; decide⟩, if_neg (by rw [Lib.toList_data]; decide), if_pos ⟨by rw [Lib.toList_data]; decide, by decide⟩]
 rfl
theorem fields_open : record_Fields.f ⟨#[49, 48, 32, 120]⟩ ⟨#[32]⟩ = some [⟨#[49, 48]⟩, ⟨#[120]⟩] := by
 unfold record_Fields.f
 rw [if_pos ⟨by decide, by decide, by rw [Lib.toList_data]; decide⟩, if_pos (by rw [Lib.toList_data]), if_pos (by decide)]
 rfl
theorem inputs_closed : record_inputs.f 100 [⟨#[49, 48]⟩, ⟨#[120]⟩] = some [⟨3, 4621819117588971520, ⟨#[49, 48]⟩⟩, ⟨2, 0, ⟨#[120]⟩⟩] := by
 kernel_rfl
theorem build_closed : record_build.f 100 (setL [⟨3, 4621819117588971520, ⟨#[49, 48]⟩⟩, ⟨2, 0, ⟨#[120]⟩⟩] 4 ⟨2, 0, ⟨#[121]⟩⟩) ⟨#[45]⟩ ⟨#[37, 46, 54, 103]⟩ = some (⟨#[49, 48, 45, 120, 45, 45, 121]⟩, 0) := by
 kernel_rfl
theorem row_cell {w : World} {base : Nat} {v : Value} {xs : List ByteArray} {e : Nat} {ok : Nat → Prop} (h : Kd.R Kd.string e w base ok v xs) (hp : 0 < xs.length) : ∃ (g cap : Nat), v = .slice (some ⟨g, 0, none⟩) xs.length cap ∧ base ≤ g ∧ g < w.heap.size ∧ ∀ (j : Nat) x, xs[j]? = some x → w.cell? ⟨g, j, none⟩ = some (.string x) := by
 obtain ⟨g, cap, rfl, hb, hlt, _⟩ := Kd.R_form h hp
 refine ⟨g, cap, rfl, hb, hlt, fun j x hx => ?_⟩
 have hj : j < xs.length := by
  rcases Nat.lt_or_ge j xs.length with h | h
  ·exact h
  ·rw [List.getElem?_eq_none h] at hx; cases hx
 have := (Kd.R_cell ByteArray.empty h (j : Int) (by omega) (by omega)).1
 simpa [rdOf, List.getD_eq_getElem?_getD, hx] using this
theorem isEmpty_ne (l : List UInt8) : l.isEmpty = !(l != []) := by cases l <;> rfl
def abacuslaw21_awake.f : Option Bool := some true
set_option maxRecDepth 100000 in
set_option maxHeartbeats 4000000 in
theorem abacuslaw21_awake.calls (r : Bool) (w : World) (hT : Tabs w) (h : abacuslaw21_awake.f = some r) :
  Calls Tryz.prog 6 #[] w fun e w' => e = .returned (.bool r) ∧ Below w.heap.size w w' := by
 cases h
 have HT := Aside0.mk hT
 clear hT
 go_enter Tryz.func6, Tryz.ntmps6
 go_wp2_with (first
  | (go_at_call 7; refine (record_Lines.calls _ _ _ _ HT.out lines_closed).mono ?_; rintro e w1 ⟨v1, rfl, hr1, hb1⟩; obtain ⟨g1, cp1, rfl, _, hl1, hc1⟩ := row_cell hr1 (by decide); have HC1 := Aside0.mk hc1; have HB1 := Aside0.mk hb1; clear hr1 hb1 hc1)
  | (go_at_call 10; refine (record_Fields.calls _ _ _ _ (Tabs.below HT.out HB1.out) fields_closed).mono ?_; rintro e w2 ⟨v2, rfl, hr2, hb2⟩; obtain ⟨g2, cp2, rfl, _, hl2, hc2⟩ := row_cell hr2 (by decide); have a0 : w2.cell? ⟨g1, 0, none⟩ = some (.string ⟨#[97]⟩) := (hb2.cell (p := ⟨g1, 0, none⟩) hl1).trans (HC1.out 0 _ rfl); have a1 : w2.cell? ⟨g1, 1, none⟩ = some (.string ⟨#[98]⟩) := (hb2.cell (p := ⟨g1, 1, none⟩) hl1).trans (HC1.out 1 _ rfl); have b1 : w2.cell? ⟨g2, 1, none⟩ = some (.string ⟨#[98]⟩) := hc2 1 _ rfl; have HB2 := Aside0.mk (HB1.out.trans (hb2.mono HB1.out.size)); clear hr2 hb2 hc2)
  | (go_at_call 21; refine (New_calls 100 _ (Tabs.below HT.out HB2.out) fields_open inputs_closed).mono ?_; rintro e w3 ⟨g3, rfl, hg3, hr3, hb3⟩; have HR3 := Aside0.mk hr3; have HB3 := Aside0.mk (HB2.out.trans (hb3.mono HB2.out.size)); have HG3 := Aside0.mk (Nat.le_trans HB2.out.size hg3); clear hr3 hb3 hg3)
  | (go_at_call 17; refine (Set_ok 100 4 _ _ _ ⟨2, 0, ⟨#[121]⟩⟩ _ _ HR3.out (Tabs.below HT.out HB3.out) (by omega) (by omega) (by decide) rfl build_closed).mono ?_; rintro e w4 ⟨rfl, hr4, hg4⟩; have HR4 := Aside0.mk hr4; have HB4 := Aside0.mk (HB3.out.grown hg4 HB3.out.size (fun k hk => by injection hk with hk; rw [← hk]; exact HG3.out)); clear hr4 hg4)
  | (go_at_call 19; refine (Text_at HR4.out).mono ?_; rintro e w5 ⟨rfl, rfl⟩)
  | (go_at_call 14; refine (Count_at HR4.out).mono ?_; rintro e w5 ⟨rfl, rfl⟩))
 go_ret
 exact ⟨rfl, HB4.out⟩
end Go.Proofs.YtahdkpoihpcfnaaGreatDoor.Stub
end

section
namespace Go.Proofs.YtahdkpoihpcfnaaGreatDoor.PE
open Go.Proofs.YtahdkpoihpcfnaaGreatDoor.Stub
open Go.RowKit Go.Proofs.YtahdkpoihpcfnaaGreatDoorW.PrintWords Go.Proofs.YtahdkpoihpcfnaaGreatDoorW.PrintLast Go.Proofs.YtahdkpoihpcfnaaGreatDoorW.PrintMore
attribute [local go_sem] cell_isSome_setCell max2_int min2_int max_two min_two max_three min_three max_four min_four   -- for this text's walks alone
set_option linter.unusedVariables false
set_option linter.unusedSimpArgs false
def errW : Option Int → Value
 | none => .nilIface
 | some c => .iface 0 (.int .i64 c)
theorem errW_none : errW none = .nilIface := rfl
theorem errW_some (c : Int) : errW (some c) = .iface 0 (.int .i64 c) := rfl
theorem info5 : (Tryz.prog.info? 5).map (fun i => (i.zero, i.size, i.bytes)) = some (some (.int .u8 0), 1, 1) := by kernel_rfl
end Go.Proofs.YtahdkpoihpcfnaaGreatDoor.PE
end

section
namespace Go.Proofs.YtahdkpoihpcfnaaGreatDoor.PE
open Go.Proofs.YtahdkpoihpcfnaaGreatDoor.Stub
open Go.RowKit Go.Proofs.YtahdkpoihpcfnaaGreatDoorW.PrintWords Go.Proofs.YtahdkpoihpcfnaaGreatDoorW.PrintLast Go.Proofs.YtahdkpoihpcfnaaGreatDoorW.PrintMore
attribute [local go_sem] cell_isSome_setCell max2_int min2_int max_two min_two max_three min_three max_four min_four   -- for this text's walks alone
set_option linter.unusedVariables false
set_option linter.unusedSimpArgs false
def abacuslaw21_holds.l0 : Nat → ByteArray → ByteArray → Int → Option (Bool)
 | 0, _, _, _ => none
 | k + 1, x0, x1, x5 => if (wrap64 (x5 + (x1.size : Int))) ≤ (x0.size : Int) then (if 0 ≤ x5 then (if x5 ≤ (wrap64 (x5 + (x1.size : Int))) then (if (x0.extract (x5 : Int).toNat ((wrap64 (x5 + (x1.size : Int))) : Int).toNat).toList = x1.toList then (some true) else (abacuslaw21_holds.l0 k x0 x1 (wrap64 (x5 + 1)))) else (none)) else (none)) else (some false)
def abacuslaw21_holds.f (k : Nat) (a0 : ByteArray) (a1 : ByteArray) : Option (Bool) := abacuslaw21_holds.l0 k a0 a1 0
theorem abacuslaw21_holds.mono_l : ∀ k, (∀ y0 y1 y2, LeO (abacuslaw21_holds.l0 k y0 y1 y2) (abacuslaw21_holds.l0 (k + 1) y0 y1 y2))
 | 0 => fun _ _ _ r h => by simp [abacuslaw21_holds.l0] at h
 | k + 1 => by
  have ih0 := abacuslaw21_holds.mono_l k
  ·intro y0 y1 y2
   unfold abacuslaw21_holds.l0
   repeat' first
   | (with_reducible exact ih0 _ _ _)
   | (with_reducible exact LeO.refl _)
   | (with_reducible exact LeO.none _)
   | (with_reducible refine LeO.ite ?_ ?_)
   | (with_reducible refine LeO.bind ?_ (fun _ => ?_))
   | exact ih0 _ _ _
   | exact LeO.none _
   | refine LeO.ite ?_ ?_
   | refine LeO.bind ?_ (fun _ => ?_)
theorem abacuslaw21_holds.mono : ∀ a0 a1 k, LeO (abacuslaw21_holds.f k a0 a1) (abacuslaw21_holds.f (k + 1) a0 a1) := by
 intro a0 a1 k
 have ih0 := abacuslaw21_holds.mono_l k
 unfold abacuslaw21_holds.f
 repeat' first
   | (with_reducible exact ih0 _ _ _)
   | (with_reducible exact LeO.refl _)
   | (with_reducible exact LeO.none _)
   | (with_reducible refine LeO.ite ?_ ?_)
   | (with_reducible refine LeO.bind ?_ (fun _ => ?_))
   | exact ih0 _ _ _
   | exact LeO.none _
   | refine LeO.ite ?_ ?_
   | refine LeO.bind ?_ (fun _ => ?_)
set_option maxHeartbeats 8000000 in
set_option maxRecDepth 100000 in
theorem abacuslaw21_holds.calls (k : Nat) (a0 : ByteArray) (a1 : ByteArray) (r : Bool) (w : World) (h : abacuslaw21_holds.f k a0 a1 = some r) :
  Calls Tryz.prog 8 #[.string a0, .string a1] w fun e w' => e = .returned (.bool r) ∧ Drawn0 w w' := by
 have H : (abacuslaw21_holds.l0 k a0 a1 0) = some r := h
 clear h
 have H' := Aside0.mk H
 clear H
 go_enter Tryz.func8, Tryz.ntmps8
 go_wp2
 go_loopg [5] k (fun kq v5 w' => ∃ (x5_1 : Int), v5 = .int .i64 x5_1 ∧ Aside0 (abacuslaw21_holds.l0 kq a0 a1 x5_1 = some r) ∧ Aside0 (kq ≤ k) ∧ Drawn0 w w')
 case atStart => exact ⟨(0), (by first | rfl | (simp; done) | (simp [*]; done)), H', ⟨Nat.le_refl _⟩, by repeat (first | exact Drawn0.refl _ | apply Drawn0.step)⟩
 case round =>
  clear H'
  try clear p2
  obtain ⟨x5_1, rfl, HA, HK1, ⟨m1, rfl⟩⟩ := hrel
  cases gk with
  | zero => exact absurd HA.out (by simp [abacuslaw21_holds.l0])
  | succ k1 =>
   have H := HA.out
   clear HA
   simp only [abacuslaw21_holds.l0] at H
   by_cases c3 : (wrap64 (x5_1 + (a1.size : Int))) ≤ (a0.size : Int)
   ·rw [if_pos c3] at H
    have c3b0 : decide ((wrap64 (x5_1 + (a1.size : Int))) ≤ (a0.size : Int)) = true := decide_eq_true c3
    clear c3
    by_cases c4 : 0 ≤ x5_1
    ·rw [if_pos c4] at H
     have c4b0 := eq_true c4
     have c4b1 : decide (0 ≤ x5_1) = true := decide_eq_true c4
     clear c4
     by_cases c5 : x5_1 ≤ (wrap64 (x5_1 + (a1.size : Int)))
     ·rw [if_pos c5] at H
      have c5b0 := eq_true c5
      have c5b1 : decide (x5_1 ≤ (wrap64 (x5_1 + (a1.size : Int)))) = true := decide_eq_true c5
      have c6b0 := eq_true (of_decide_eq_true (by first | (with_reducible assumption) | assumption) : (wrap64 (x5_1 + (a1.size : Int))) ≤ (a0.size : Int))
      by_cases c7 : (a0.extract (x5_1 : Int).toNat ((wrap64 (x5_1 + (a1.size : Int))) : Int).toNat).toList = a1.toList
      ·rw [if_pos c7] at H
       have c7b0 : ((a0.extract (x5_1 : Int).toNat ((wrap64 (x5_1 + (a1.size : Int))) : Int).toNat).toList == a1.toList) = true := beq_iff_eq.mpr c7
       have c7b1 : ((a0.extract (x5_1 : Int).toNat ((wrap64 (x5_1 + (a1.size : Int))) : Int).toNat).toList != a1.toList) = false := bne_eq_false_iff_eq.mpr c7
       clear c7
       obtain rfl := Option.some.inj H
       go_wp2
       go_ret
       exact ⟨by first | rfl | (simp; done) | (simp [*]; done), by repeat (first | exact Drawn0.refl _ | apply Drawn0.step)⟩
      ·rw [if_neg c7] at H
       have c7b0 : ((a0.extract (x5_1 : Int).toNat ((wrap64 (x5_1 + (a1.size : Int))) : Int).toNat).toList == a1.toList) = false := beq_eq_false_iff_ne.mpr c7
       have c7b1 : ((a0.extract (x5_1 : Int).toNat ((wrap64 (x5_1 + (a1.size : Int))) : Int).toNat).toList != a1.toList) = true := bne_iff_ne.mpr c7
       have H' := Aside0.mk H
       clear H
       go_wp2
       go_roundg k1
       case measure => have := HK1.out; omega
       case rel => exact ⟨(wrap64 (x5_1 + 1)), (by first | rfl | (simp; done) | (simp [*]; done)), H', ⟨by have := HK1.out; omega⟩, by repeat (first | exact Drawn0.refl _ | apply Drawn0.step)⟩
     ·rw [if_neg c5] at H
      exact absurd H (by simp)
    ·rw [if_neg c4] at H
     exact absurd H (by simp)
   ·rw [if_neg c3] at H
    have c3b0 : decide ((wrap64 (x5_1 + (a1.size : Int))) ≤ (a0.size : Int)) = false := decide_eq_false c3
    clear c3
    obtain rfl := Option.some.inj H
    go_wp2
    go_ret
    exact ⟨by first | rfl | (simp; done) | (simp [*]; done), by repeat (first | exact Drawn0.refl _ | apply Drawn0.step)⟩
def abacuslaw21_joined.l0 : Nat → List ByteArray → ByteArray → List Int → Int → Option (ByteArray)
 | 0, _, _, _, _ => none
 | k + 1, x0, x1, x5, x6 => if x6 < (x0.length : Int) then (if x6 > 0 then (if x5.length + x1.size < 140737488355328 then ((some (x5 ++ bytesOf x1 : List Int)).bind fun y104 => (if 0 ≤ x6 then (if y104.length + (rdOf ByteArray.empty x0 x6).size < 140737488355328 then (abacuslaw21_joined.l0 k x0 x1 (y104 ++ bytesOf (rdOf ByteArray.empty x0 x6)) (wrap64 (x6 + 1))) else (none)) else (none))) else (none)) else (if 0 ≤ x6 then (if x5.length + (rdOf ByteArray.empty x0 x6).size < 140737488355328 then (abacuslaw21_joined.l0 k x0 x1 (x5 ++ bytesOf (rdOf ByteArray.empty x0 x6)) (wrap64 (x6 + 1))) else (none)) else (none))) else (some (strOfNums x5))
def abacuslaw21_joined.f (k : Nat) (l0 : List ByteArray) (a1 : ByteArray) : Option (ByteArray) := abacuslaw21_joined.l0 k l0 a1 (([] : List Int)) 0
theorem abacuslaw21_joined.mono_l : ∀ k, (∀ y0 y1 y2 y3, LeO (abacuslaw21_joined.l0 k y0 y1 y2 y3) (abacuslaw21_joined.l0 (k + 1) y0 y1 y2 y3))
 | 0 => fun _ _ _ _ r h => by simp [abacuslaw21_joined.l0] at h
 | k + 1 => by
  have ih0 := abacuslaw21_joined.mono_l k
  ·intro y0 y1 y2 y3
   unfold abacuslaw21_joined.l0
   repeat' first
   | (with_reducible exact ih0 _ _ _ _)
   | (with_reducible exact LeO.refl _)
   | (with_reducible exact LeO.none _)
   | (with_reducible refine LeO.ite ?_ ?_)
   | (with_reducible refine LeO.bind ?_ (fun _ => ?_))
   | exact ih0 _ _ _ _
   | exact LeO.none _
   | refine LeO.ite ?_ ?_
   | refine LeO.bind ?_ (fun _ => ?_)
theorem abacuslaw21_joined.mono : ∀ a0 a1 k, LeO (abacuslaw21_joined.f k a0 a1) (abacuslaw21_joined.f (k + 1) a0 a1) := by
 intro a0 a1 k
 have ih0 := abacuslaw21_joined.mono_l k
 unfold abacuslaw21_joined.f
 repeat' first
   | (with_reducible exact ih0 _ _ _ _)
   | (with_reducible exact LeO.refl _)
   | (with_reducible exact LeO.none _)
   | (with_reducible refine LeO.ite ?_ ?_)
   | (with_reducible refine LeO.bind ?_ (fun _ => ?_))
   | exact ih0 _ _ _ _
   | exact LeO.none _
   | refine LeO.ite ?_ ?_
   | refine LeO.bind ?_ (fun _ => ?_)
set_option maxHeartbeats 8000000 in
set_option maxRecDepth 100000 in
theorem abacuslaw21_joined.calls (k : Nat) (A0 : Option Addr) (c0 : Nat) (l0 : List ByteArray) (a1 : ByteArray) (r : ByteArray) (w : World) (hr0 : Kd.C Kd.string w A0 l0.length l0) (hc0 : l0.length ≤ c0) (h : abacuslaw21_joined.f k l0 a1 = some r) :
  Calls Tryz.prog 9 #[.slice A0 l0.length c0, .string a1] w fun e w' => e = .returned (.string r) ∧ Below w.heap.size w w' := by
 have HR0 := Aside0.mk hr0
 have HC0 := Aside0.mk hc0
 clear hr0 hc0
 have HB := Aside0.mk (Below.refl w.heap.size w)
 have H : (abacuslaw21_joined.l0 k l0 a1 (([] : List Int)) 0) = some r := h
 clear h
 obtain ⟨y101, hy101⟩ : ∃ y_ : List Int, y_ = (([] : List Int)) := ⟨_, rfl⟩
 replace H : (abacuslaw21_joined.l0 k l0 a1 y101 0) = some r := by first | (rw [hy101]; with_reducible exact H) | (have H2_ := (Option.bind_some _ _).symm.trans H; rw [hy101]; with_reducible exact H2_) | (have H2_ := (Option.bind_some _ _).symm.trans H; with_reducible exact H2_) | with_reducible exact H | (rw [hy101]; exact H) | exact H
 have Ny101 := Aside0.mk hy101
 clear hy101
 have H' := Aside0.mk H
 clear H
 go_enter Tryz.func9, Tryz.ntmps9
 go_wp2_with (first | ((with_reducible refine gate_dst (N := 7) rfl ?_); refine Kd.R_lit (Kd.int .u8) _ 5 ?hg (N := 7) ?hd (xs := ([] : List Int)) (inner := []) (ok := fun _ => True) (okp := fun _ => True) ?hr ?hp (fun _ hk => hk) trivial (Below.refl _ _) (Nat.le_refl _) (by simp) ?_; (case hd => rfl); (case hg => rfl); (case hr => first | (go_simp; done) | (go_simp; rfl)); (case hp => exact (Reps.none _ _)); intro v102 w3 ho4 hb hg_ hnew_; clear hg_ hnew_; (first | rw [← Ny101.out] at ho4 | (simp only [Int.reduceToNat] at ho4; rw [← Ny101.out] at ho4)); have n0_ := Aside0.mk (Kd.R_lower ho4 (below_size (by repeat (first | exact HB.out | apply below_alloc | apply pw_below_drewN | apply below_drew1)))); have n1_ := Aside0.mk (below_step (by repeat (first | exact HB.out | apply below_alloc | apply pw_below_drewN | apply below_drew1)) hb); clear HB; have HO103 := n0_; have HB := n1_; clear n0_ n1_; clear hb ho4))
 go_loopg [5, 6] k (fun kq v5 v6 w' => ∃ (x5_1 : List Int) (x6_1 : Int), v6 = .int .i64 x6_1 ∧ Aside0 (abacuslaw21_joined.l0 kq l0 a1 x5_1 x6_1 = some r) ∧ Aside0 (kq ≤ k) ∧ Aside0 (Kd.R (Kd.int .u8) 5 w' w.heap.size (fun _ => True) v5 x5_1) ∧ Aside0 (Below w.heap.size w w'))
 case atStart => exact ⟨(y101), (0), (by first | rfl | (simp; done) | (simp [*]; done)), H', ⟨Nat.le_refl _⟩, ⟨by (with_reducible repeat (first | apply Kd.R_alloc | apply Kd.R_drewN | apply Kd.R_drew)); exact HO103.out⟩, ⟨by repeat (first | (with_reducible first | exact HB.out | apply below_alloc | apply pw_below_drewN | apply below_drew1) | exact HB.out)⟩⟩
 case round =>
  clear H'
  try clear p2
  obtain ⟨x5_1, x6_1, rfl, HA, HK1, HO_5, HB⟩ := hrel
  cases gk with
  | zero => exact absurd HA.out (by simp [abacuslaw21_joined.l0])
  | succ k1 =>
   have H := HA.out
   clear HA
   simp only [abacuslaw21_joined.l0] at H
   by_cases c5 : x6_1 < (l0.length : Int)
   ·rw [if_pos c5] at H
    have c5b0 : decide (x6_1 < (l0.length : Int)) = true := decide_eq_true c5
    clear c5
    by_cases c6 : x6_1 > 0
    ·rw [if_pos c6] at H
     have c6b0 : decide (0 < x6_1) = true := decide_eq_true c6
     clear c6
     by_cases c7 : x5_1.length + a1.size < 140737488355328
     ·rw [if_pos c7] at H
      have LMc7 := Aside0.mk c7
      clear c7
      obtain ⟨y104, hy104⟩ : ∃ y_ : List Int, y_ = (x5_1 ++ bytesOf a1) := ⟨_, rfl⟩
      replace H : (if 0 ≤ x6_1 then (if y104.length + (rdOf ByteArray.empty l0 x6_1).size < 140737488355328 then (abacuslaw21_joined.l0 k1 l0 a1 (y104 ++ bytesOf (rdOf ByteArray.empty l0 x6_1)) (wrap64 (x6_1 + 1))) else (none)) else (none)) = some r := by first | (rw [hy104]; with_reducible exact H) | (have H2_ := (Option.bind_some _ _).symm.trans H; rw [hy104]; with_reducible exact H2_) | (have H2_ := (Option.bind_some _ _).symm.trans H; with_reducible exact H2_) | with_reducible exact H | (rw [hy104]; exact H) | exact H
      have Ny104 := Aside0.mk hy104
      clear hy104
      by_cases c8 : 0 ≤ x6_1
      ·rw [if_pos c8] at H
       have c8b0 : decide (0 ≤ x6_1) = true := decide_eq_true c8
       clear c8
       by_cases c9 : y104.length + (rdOf ByteArray.empty l0 x6_1).size < 140737488355328
       ·rw [if_pos c9] at H
        have LMc9 := Aside0.mk c9
        clear c9
        obtain ⟨y108, hy108⟩ : ∃ y_ : List Int, y_ = (y104 ++ bytesOf (rdOf ByteArray.empty l0 x6_1)) := ⟨_, rfl⟩
        replace H : (abacuslaw21_joined.l0 k1 l0 a1 y108 (wrap64 (x6_1 + 1))) = some r := by first | (rw [hy108]; with_reducible exact H) | (have H2_ := (Option.bind_some _ _).symm.trans H; rw [hy108]; with_reducible exact H2_) | (have H2_ := (Option.bind_some _ _).symm.trans H; with_reducible exact H2_) | with_reducible exact H | (rw [hy108]; exact H) | exact H
        have Ny108 := Aside0.mk hy108
        clear hy108
        have H' := Aside0.mk H
        clear H
        go_wp2_with (first | (at_builtin; refine print_append_str (w0 := w) w.heap.size rfl (.tmp 16) _ 52 9 5 rfl Tryz.underlying52 Tryz.underlying9 info5 u5 x5_1 a1 rfl rfl ?aO ?aB ?aS ?aL ?_; (case aB => exact (by repeat (first | exact HB.out | apply below_alloc | apply pw_below_drewN | apply below_drew1))); (case aO => exact (Kd.own_of_R (by (with_reducible repeat (first | apply Kd.R_alloc | apply Kd.R_drewN | apply Kd.R_drew)); exact HO_5.out))); (case aS => exact (below_size (by repeat (first | exact HB.out | apply below_alloc | apply pw_below_drewN | apply below_drew1)))); (case aL => have := LMc7.out; omega); intro v105 w10 ho0 hb hg; have ho := Kd.R_of_own (h1 := fun _ => rfl) (ok := fun _ => True) ho0 (fun _ _ => trivial); clear ho0; have hat := True.intro; rw [← Ny104.out] at ho; change Kd.R (Kd.int .u8) 5 w10 w.heap.size (fun _ => True) v105 y104 at ho; have n0_ := Aside0.mk (hb); have n1_ := Aside0.mk (ho); clear HB; clear HO_5; have HB := n0_; have HO106 := n1_; clear n0_ n1_; clear ho hb hg hat; have p107 : 0 ≤ (x6_1 : Int) := of_decide_eq_true (by first | (with_reducible assumption) | assumption); have q107 : x6_1 < (l0.length : Int) := of_decide_eq_true (by first | (with_reducible assumption) | assumption); obtain ⟨ad107, e107, hx107_0⟩ := Kd.at_string HR0.out x6_1 p107 q107; cases e107; replace hx107_0 := (HB.out.cell (World.block_lt_of_cell? w _ hx107_0)).trans hx107_0; replace p107 := eq_true p107; replace q107 := eq_true q107) | (at_builtin; refine print_append_str (w0 := w) w.heap.size rfl (.tmp 19) _ 52 9 5 rfl Tryz.underlying52 Tryz.underlying9 info5 v105 y104 (rdOf ByteArray.empty l0 x6_1) rfl rfl ?aO ?aB ?aS ?aL ?_; (case aB => exact (by repeat (first | exact HB.out | apply below_alloc | apply pw_below_drewN | apply below_drew1))); (case aO => exact (Kd.own_of_R (by (with_reducible repeat (first | apply Kd.R_alloc | apply Kd.R_drewN | apply Kd.R_drew)); exact HO106.out))); (case aS => exact (below_size (by repeat (first | exact HB.out | apply below_alloc | apply pw_below_drewN | apply below_drew1)))); (case aL => have := LMc9.out; omega); intro v109 w11 ho0 hb hg; have ho := Kd.R_of_own (h1 := fun _ => rfl) (ok := fun _ => True) ho0 (fun _ _ => trivial); clear ho0; have hat := True.intro; rw [← Ny108.out] at ho; change Kd.R (Kd.int .u8) 5 w11 w.heap.size (fun _ => True) v109 y108 at ho; have n0_ := Aside0.mk (hb); have n1_ := Aside0.mk (ho); clear HB; clear HO106; have HB := n0_; have HO110 := n1_; clear n0_ n1_; clear ho hb hg hat))
        go_roundg k1
        case measure => have := HK1.out; omega
        case rel => exact ⟨(y108), (wrap64 (x6_1 + 1)), (by first | rfl | (simp; done) | (simp [*]; done)), H', ⟨by have := HK1.out; omega⟩, ⟨by (with_reducible repeat (first | apply Kd.R_alloc | apply Kd.R_drewN | apply Kd.R_drew)); exact HO110.out⟩, ⟨by repeat (first | (with_reducible first | exact HB.out | apply below_alloc | apply pw_below_drewN | apply below_drew1) | exact HB.out)⟩⟩
       ·rw [if_neg c9] at H
        exact absurd H (by simp)
      ·rw [if_neg c8] at H
       exact absurd H (by simp)
     ·rw [if_neg c7] at H
      exact absurd H (by simp)
    ·rw [if_neg c6] at H
     have c6b0 : decide (0 < x6_1) = false := decide_eq_false c6
     clear c6
     by_cases c12 : 0 ≤ x6_1
     ·rw [if_pos c12] at H
      have c12b0 : decide (0 ≤ x6_1) = true := decide_eq_true c12
      clear c12
      by_cases c13 : x5_1.length + (rdOf ByteArray.empty l0 x6_1).size < 140737488355328
      ·rw [if_pos c13] at H
       have LMc13 := Aside0.mk c13
       clear c13
       obtain ⟨y112, hy112⟩ : ∃ y_ : List Int, y_ = (x5_1 ++ bytesOf (rdOf ByteArray.empty l0 x6_1)) := ⟨_, rfl⟩
       replace H : (abacuslaw21_joined.l0 k1 l0 a1 y112 (wrap64 (x6_1 + 1))) = some r := by first | (rw [hy112]; with_reducible exact H) | (have H2_ := (Option.bind_some _ _).symm.trans H; rw [hy112]; with_reducible exact H2_) | (have H2_ := (Option.bind_some _ _).symm.trans H; with_reducible exact H2_) | with_reducible exact H | (rw [hy112]; exact H) | exact H
       have Ny112 := Aside0.mk hy112
       clear hy112
       have H' := Aside0.mk H
       clear H
       have p111 : 0 ≤ (x6_1 : Int) := of_decide_eq_true (by first | (with_reducible assumption) | assumption)
       have q111 : x6_1 < (l0.length : Int) := of_decide_eq_true (by first | (with_reducible assumption) | assumption)
       obtain ⟨ad111, e111, hx111_0⟩ := Kd.at_string HR0.out x6_1 p111 q111
       cases e111
       replace hx111_0 := (HB.out.cell (World.block_lt_of_cell? w _ hx111_0)).trans hx111_0
       replace p111 := eq_true p111
       replace q111 := eq_true q111
       go_wp2_with (first | (at_builtin; refine print_append_str (w0 := w) w.heap.size rfl (.tmp 19) _ 52 9 5 rfl Tryz.underlying52 Tryz.underlying9 info5 u5 x5_1 (rdOf ByteArray.empty l0 x6_1) rfl rfl ?aO ?aB ?aS ?aL ?_; (case aB => exact (by repeat (first | exact HB.out | apply below_alloc | apply pw_below_drewN | apply below_drew1))); (case aO => exact (Kd.own_of_R (by (with_reducible repeat (first | apply Kd.R_alloc | apply Kd.R_drewN | apply Kd.R_drew)); exact HO_5.out))); (case aS => exact (below_size (by repeat (first | exact HB.out | apply below_alloc | apply pw_below_drewN | apply below_drew1)))); (case aL => have := LMc13.out; omega); intro v113 w14 ho0 hb hg; have ho := Kd.R_of_own (h1 := fun _ => rfl) (ok := fun _ => True) ho0 (fun _ _ => trivial); clear ho0; have hat := True.intro; rw [← Ny112.out] at ho; change Kd.R (Kd.int .u8) 5 w14 w.heap.size (fun _ => True) v113 y112 at ho; have n0_ := Aside0.mk (hb); have n1_ := Aside0.mk (ho); clear HB; clear HO_5; have HB := n0_; have HO114 := n1_; clear n0_ n1_; clear ho hb hg hat))
       go_roundg k1
       case measure => have := HK1.out; omega
       case rel => exact ⟨(y112), (wrap64 (x6_1 + 1)), (by first | rfl | (simp; done) | (simp [*]; done)), H', ⟨by have := HK1.out; omega⟩, ⟨by (with_reducible repeat (first | apply Kd.R_alloc | apply Kd.R_drewN | apply Kd.R_drew)); exact HO114.out⟩, ⟨by repeat (first | (with_reducible first | exact HB.out | apply below_alloc | apply pw_below_drewN | apply below_drew1) | exact HB.out)⟩⟩
      ·rw [if_neg c13] at H
       exact absurd H (by simp)
     ·rw [if_neg c12] at H
      exact absurd H (by simp)
   ·rw [if_neg c5] at H
    have c5b0 : decide (x6_1 < (l0.length : Int)) = false := decide_eq_false c5
    clear c5
    obtain rfl := Option.some.inj H
    have hcv15 := own_string (P := Tryz.prog) Tryz.underlying52 Tryz.underlying5 Tryz.underlying9 (Kd.own_of_R HO_5.out)
    go_wp2
    go_ret
    exact ⟨by first | rfl | (simp [errW_none, errW_some] <;> rfl) | (simp [*, errW_none, errW_some] <;> rfl) | (simp [*, errW_none, errW_some]; exact isEmpty_ne _), by repeat (first | (with_reducible first | exact HB.out | apply below_alloc | apply pw_below_drewN | apply below_drew1) | exact HB.out)⟩
def abacuslaw21_RecordRejoins.l0 : Nat → ByteArray → ByteArray → List ByteArray → Int → Option (Bool)
 | 0, _, _, _, _ => none
 | k + 1, x0, x1, x6, x7 => if x7 < (x6.length : Int) then (if 0 ≤ x7 then ((abacuslaw21_holds.f k (rdOf ByteArray.empty x6 x7) x1).bind fun t120 => (if t120 = true then (some false) else (abacuslaw21_RecordRejoins.l0 k x0 x1 x6 (wrap64 (x7 + 1))))) else (none)) else ((abacuslaw21_joined.f k x6 x1).bind fun t121 => (if t121.size + x1.size ≤ 9223372036854775807 then (if (t121 ++ x1).toList = x0.toList then (some true) else (if x0.size + x1.size ≤ 9223372036854775807 then (if (t121 ++ x1).toList = (x0 ++ x1).toList then (if 0 ≤ (wrap64 ((x6.length : Int) - 1)) then (if (wrap64 ((x6.length : Int) - 1)) < (x6.length : Int) then (some ((rdOf ByteArray.empty x6 (wrap64 ((x6.length : Int) - 1))).toList != ([] : List UInt8))) else (none)) else (none)) else (some false)) else (none))) else (none)))
def abacuslaw21_RecordRejoins.f (k : Nat) (a0 : ByteArray) (a1 : ByteArray) : Option (Bool) := (abacuslaw21_awake.f).bind fun t115 => (if t115 = true then (if a1.toList = ([] : List UInt8) then (some true) else ((record_Lines.f a0 a1).bind fun t116 => (if (t116.length : Int) = 0 then (some (a0.toList == ([] : List UInt8))) else (abacuslaw21_RecordRejoins.l0 k a0 a1 t116 0)))) else (some false))
theorem abacuslaw21_RecordRejoins.mono_l : ∀ k, (∀ y0 y1 y2 y3, LeO (abacuslaw21_RecordRejoins.l0 k y0 y1 y2 y3) (abacuslaw21_RecordRejoins.l0 (k + 1) y0 y1 y2 y3))
 | 0 => fun _ _ _ _ r h => by simp [abacuslaw21_RecordRejoins.l0] at h
 | k + 1 => by
  have ih0 := abacuslaw21_RecordRejoins.mono_l k
  ·intro y0 y1 y2 y3
   unfold abacuslaw21_RecordRejoins.l0
   repeat' first
   | (with_reducible exact ih0 _ _ _ _)
   | (with_reducible exact abacuslaw21_holds.mono _ _ _)
   | (with_reducible exact abacuslaw21_joined.mono _ _ _)
   | (with_reducible exact LeO.refl _)
   | (with_reducible exact LeO.none _)
   | (with_reducible refine LeO.ite ?_ ?_)
   | (with_reducible refine LeO.bind ?_ (fun _ => ?_))
   | exact ih0 _ _ _ _
   | exact abacuslaw21_holds.mono _ _ _
   | exact abacuslaw21_joined.mono _ _ _
   | exact LeO.none _
   | refine LeO.ite ?_ ?_
   | refine LeO.bind ?_ (fun _ => ?_)
theorem abacuslaw21_RecordRejoins.mono : ∀ a0 a1 k, LeO (abacuslaw21_RecordRejoins.f k a0 a1) (abacuslaw21_RecordRejoins.f (k + 1) a0 a1) := by
 intro a0 a1 k
 have ih0 := abacuslaw21_RecordRejoins.mono_l k
 unfold abacuslaw21_RecordRejoins.f
 repeat' first
   | (with_reducible exact ih0 _ _ _ _)
   | (with_reducible exact abacuslaw21_holds.mono _ _ _)
   | (with_reducible exact abacuslaw21_joined.mono _ _ _)
   | (with_reducible exact LeO.refl _)
   | (with_reducible exact LeO.none _)
   | (with_reducible refine LeO.ite ?_ ?_)
   | (with_reducible refine LeO.bind ?_ (fun _ => ?_))
   | exact ih0 _ _ _ _
   | exact abacuslaw21_holds.mono _ _ _
   | exact abacuslaw21_joined.mono _ _ _
   | exact LeO.none _
   | refine LeO.ite ?_ ?_
   | refine LeO.bind ?_ (fun _ => ?_)
set_option maxHeartbeats 8000000 in
set_option maxRecDepth 100000 in
theorem abacuslaw21_RecordRejoins.calls (k : Nat) (a0 : ByteArray) (a1 : ByteArray) (r : Bool) (w : World) (hT : Tabs w) (h : abacuslaw21_RecordRejoins.f k a0 a1 = some r) :
  Calls Tryz.prog 3 #[.string a0, .string a1] w fun e w' => e = .returned (.bool r) ∧ Below w.heap.size w w' := by
 have HB := Aside0.mk (Below.refl w.heap.size w)
 have H : ((abacuslaw21_awake.f).bind fun t115 => (if t115 = true then (if a1.toList = ([] : List UInt8) then (some true) else ((record_Lines.f a0 a1).bind fun t116 => (if (t116.length : Int) = 0 then (some (a0.toList == ([] : List UInt8))) else (abacuslaw21_RecordRejoins.l0 k a0 a1 t116 0)))) else (some false))) = some r := h
 clear h
 replace H := Option.bind_eq_some_iff.mp H
 obtain ⟨t115, A30, H⟩ := H
 replace H : (if t115 = true then (if a1.toList = ([] : List UInt8) then (some true) else ((record_Lines.f a0 a1).bind fun t116 => (if (t116.length : Int) = 0 then (some (a0.toList == ([] : List UInt8))) else (abacuslaw21_RecordRejoins.l0 k a0 a1 t116 0)))) else (some false)) = some r := H
 have A3 := Aside0.mk A30
 clear A30
 by_cases c4 : t115 = true
 ·subst c4
  have H1 : (if a1.toList = ([] : List UInt8) then (some true) else ((record_Lines.f a0 a1).bind fun t116 => (if (t116.length : Int) = 0 then (some (a0.toList == ([] : List UInt8))) else (abacuslaw21_RecordRejoins.l0 k a0 a1 t116 0)))) = some r := by rw [if_pos rfl] at H; exact H
  clear H
  have H := H1
  clear H1
  by_cases c5 : a1.toList = ([] : List UInt8)
  ·rw [if_pos c5] at H
   have c5b0 : (a1.toList == ([] : List UInt8)) = true := beq_iff_eq.mpr c5
   have c5b1 : (a1.toList != ([] : List UInt8)) = false := bne_eq_false_iff_eq.mpr c5
   clear c5
   obtain rfl := Option.some.inj H
   go_enter Tryz.func3, Tryz.ntmps3
   go_wp2_with (first | ((with_reducible refine gate_callee (f := 6) rfl ?_); refine goesL_ (some 9) rfl rfl Tryz.func6 (by kernel_rfl) rfl #[] rfl (by (try simp only [List.map_toArray, List.map_cons, List.map_nil]); first | done | rfl | (simp only [List.length_drop, List.length_take]; rfl)) ?_; (with_reducible refine (abacuslaw21_awake.calls  true _ ?side1 A3.out).mono ?_); (case side1 => first | exact hT | exact Tabs.below hT (by repeat (first | exact HB.out | apply below_alloc | apply pw_below_drewN | apply below_drew1)) | (repeat (first | exact hT | apply Tabs.drewN | apply Tabs.drew))); rintro e w6 ⟨rfl, hb⟩; refine ⟨_, rfl, ?_⟩; have n0_ := Aside0.mk (below_step (by repeat (first | exact HB.out | apply below_alloc | apply pw_below_drewN | apply below_drew1)) hb); clear HB; have HB := n0_; clear n0_; (try clear hb); (try clear hb2); (try clear hk); (try clear hi)))
   go_ret
   exact ⟨by first | rfl | (simp [errW_none, errW_some] <;> rfl) | (simp [*, errW_none, errW_some] <;> rfl) | (simp [*, errW_none, errW_some]; exact isEmpty_ne _), by repeat (first | (with_reducible first | exact HB.out | apply below_alloc | apply pw_below_drewN | apply below_drew1) | exact HB.out)⟩
  ·rw [if_neg c5] at H
   have c5b0 : (a1.toList == ([] : List UInt8)) = false := beq_eq_false_iff_ne.mpr c5
   have c5b1 : (a1.toList != ([] : List UInt8)) = true := bne_iff_ne.mpr c5
   replace H := Option.bind_eq_some_iff.mp H
   obtain ⟨t116, A70, H⟩ := H
   replace H : (if (t116.length : Int) = 0 then (some (a0.toList == ([] : List UInt8))) else (abacuslaw21_RecordRejoins.l0 k a0 a1 t116 0)) = some r := H
   have A7 := Aside0.mk A70
   clear A70
   by_cases c8 : (t116.length : Int) = 0
   ·rw [if_pos c8] at H
    have c8b0 : ((t116.length : Int) == 0) = true := beq_iff_eq.mpr c8
    have c8b1 : ((t116.length : Int) != 0) = false := bne_eq_false_iff_eq.mpr c8
    clear c8
    obtain rfl := Option.some.inj H
    go_enter Tryz.func3, Tryz.ntmps3
    go_wp2_with (first | ((with_reducible refine gate_callee (f := 6) rfl ?_); refine goesL_ (some 9) rfl rfl Tryz.func6 (by kernel_rfl) rfl #[] rfl (by (try simp only [List.map_toArray, List.map_cons, List.map_nil]); first | done | rfl | (simp only [List.length_drop, List.length_take]; rfl)) ?_; (with_reducible refine (abacuslaw21_awake.calls  true _ ?side1 A3.out).mono ?_); (case side1 => first | exact hT | exact Tabs.below hT (by repeat (first | exact HB.out | apply below_alloc | apply pw_below_drewN | apply below_drew1)) | (repeat (first | exact hT | apply Tabs.drewN | apply Tabs.drew))); rintro e w9 ⟨rfl, hb⟩; refine ⟨_, rfl, ?_⟩; have n0_ := Aside0.mk (below_step (by repeat (first | exact HB.out | apply below_alloc | apply pw_below_drewN | apply below_drew1)) hb); clear HB; have HB := n0_; clear n0_; (try clear hb); (try clear hb2); (try clear hk); (try clear hi)) | ((with_reducible refine gate_callee (f := 7) rfl ?_); refine goesL_ (some 16) rfl rfl Tryz.func7 (by kernel_rfl) rfl #[.string a0, .string a1] rfl (by (try simp only [List.map_toArray, List.map_cons, List.map_nil]); first | done | rfl | (simp only [List.length_drop, List.length_take]; rfl)) ?_; (with_reducible refine (record_Lines.calls a0 a1 t116 _ ?side1 A7.out).mono ?_); (case side1 => first | exact hT | exact Tabs.below hT (by repeat (first | exact HB.out | apply below_alloc | apply pw_below_drewN | apply below_drew1)) | (repeat (first | exact hT | apply Tabs.drewN | apply Tabs.drew))); rintro e w10 ⟨v117, rfl, ho0, hb⟩; refine ⟨_, rfl, ?_⟩; have n0_ := Aside0.mk (Kd.R_lower ho0 (below_size (by repeat (first | exact HB.out | apply below_alloc | apply pw_below_drewN | apply below_drew1)))); have n1_ := Aside0.mk (below_step (by repeat (first | exact HB.out | apply below_alloc | apply pw_below_drewN | apply below_drew1)) hb); clear HB; have HO118 := n0_; have HB := n1_; clear n0_ n1_; (try clear hb); (try clear hb2); (try clear hk); (try clear hi); (try clear ho0); obtain ⟨Ao11, co11, eo11⟩ := Kd.R_slice HO118.out; subst eo11))
    go_ret
    exact ⟨by first | rfl | (simp [errW_none, errW_some] <;> rfl) | (simp [*, errW_none, errW_some] <;> rfl) | (simp [*, errW_none, errW_some]; exact isEmpty_ne _), by repeat (first | (with_reducible first | exact HB.out | apply below_alloc | apply pw_below_drewN | apply below_drew1) | exact HB.out)⟩
   ·rw [if_neg c8] at H
    have c8b0 : ((t116.length : Int) == 0) = false := beq_eq_false_iff_ne.mpr c8
    have c8b1 : ((t116.length : Int) != 0) = true := bne_iff_ne.mpr c8
    have c8b2 : ¬ (t116 = []) := fun h_ => c8 (by rw [h_]; rfl)
    have H' := Aside0.mk H
    clear H
    go_enter Tryz.func3, Tryz.ntmps3
    go_wp2_with (first | ((with_reducible refine gate_callee (f := 6) rfl ?_); refine goesL_ (some 9) rfl rfl Tryz.func6 (by kernel_rfl) rfl #[] rfl (by (try simp only [List.map_toArray, List.map_cons, List.map_nil]); first | done | rfl | (simp only [List.length_drop, List.length_take]; rfl)) ?_; (with_reducible refine (abacuslaw21_awake.calls  true _ ?side1 A3.out).mono ?_); (case side1 => first | exact hT | exact Tabs.below hT (by repeat (first | exact HB.out | apply below_alloc | apply pw_below_drewN | apply below_drew1)) | (repeat (first | exact hT | apply Tabs.drewN | apply Tabs.drew))); rintro e w12 ⟨rfl, hb⟩; refine ⟨_, rfl, ?_⟩; have n0_ := Aside0.mk (below_step (by repeat (first | exact HB.out | apply below_alloc | apply pw_below_drewN | apply below_drew1)) hb); clear HB; have HB := n0_; clear n0_; (try clear hb); (try clear hb2); (try clear hk); (try clear hi)) | ((with_reducible refine gate_callee (f := 7) rfl ?_); refine goesL_ (some 16) rfl rfl Tryz.func7 (by kernel_rfl) rfl #[.string a0, .string a1] rfl (by (try simp only [List.map_toArray, List.map_cons, List.map_nil]); first | done | rfl | (simp only [List.length_drop, List.length_take]; rfl)) ?_; (with_reducible refine (record_Lines.calls a0 a1 t116 _ ?side1 A7.out).mono ?_); (case side1 => first | exact hT | exact Tabs.below hT (by repeat (first | exact HB.out | apply below_alloc | apply pw_below_drewN | apply below_drew1)) | (repeat (first | exact hT | apply Tabs.drewN | apply Tabs.drew))); rintro e w13 ⟨v117, rfl, ho0, hb⟩; refine ⟨_, rfl, ?_⟩; have n0_ := Aside0.mk (Kd.R_lower ho0 (below_size (by repeat (first | exact HB.out | apply below_alloc | apply pw_below_drewN | apply below_drew1)))); have n1_ := Aside0.mk (below_step (by repeat (first | exact HB.out | apply below_alloc | apply pw_below_drewN | apply below_drew1)) hb); clear HB; have HO118 := n0_; have HB := n1_; clear n0_ n1_; (try clear hb); (try clear hb2); (try clear hk); (try clear hi); (try clear ho0); obtain ⟨Ao14, co14, eo14⟩ := Kd.R_slice HO118.out; subst eo14))
    go_loopg [7] k (fun kq v7 w' => ∃ (x7_1 : Int), v7 = .int .i64 x7_1 ∧ Aside0 (abacuslaw21_RecordRejoins.l0 kq a0 a1 t116 x7_1 = some r) ∧ Aside0 (kq ≤ k) ∧ Aside0 (Kd.R Kd.string 9 w' w.heap.size (fun _ => True) (.slice Ao14 t116.length co14) t116) ∧ Aside0 (Below w.heap.size w w'))
    case atStart => exact ⟨(0), (by first | rfl | (simp; done) | (simp [*]; done)), H', ⟨Nat.le_refl _⟩, ⟨by (with_reducible repeat (first | apply Kd.R_alloc | apply Kd.R_drewN | apply Kd.R_drew)); exact HO118.out⟩, ⟨by repeat (first | (with_reducible first | exact HB.out | apply below_alloc | apply pw_below_drewN | apply below_drew1) | exact HB.out)⟩⟩
    case round =>
     clear H'
     try clear p2
     try clear c3
     try clear c4
     try clear c5
     try clear c5b0
     try clear c5b1
     try clear c6
     try clear c7
     try clear c8
     try clear c8b0
     try clear c8b1
     try clear c8b2
     obtain ⟨x7_1, rfl, HA, HK1, HO_6, HB⟩ := hrel
     cases gk with
     | zero => exact absurd HA.out (by simp [abacuslaw21_RecordRejoins.l0])
     | succ k1 =>
      have H := HA.out
      clear HA
      simp only [abacuslaw21_RecordRejoins.l0] at H
      by_cases c15 : x7_1 < (t116.length : Int)
      ·rw [if_pos c15] at H
       have c15b0 : decide (x7_1 < (t116.length : Int)) = true := decide_eq_true c15
       clear c15
       by_cases c16 : 0 ≤ x7_1
       ·rw [if_pos c16] at H
        have c16b0 : decide (0 ≤ x7_1) = true := decide_eq_true c16
        clear c16
        replace H := Option.bind_eq_some_iff.mp H
        obtain ⟨t120, A170, H⟩ := H
        replace H : (if t120 = true then (some false) else (abacuslaw21_RecordRejoins.l0 k1 a0 a1 t116 (wrap64 (x7_1 + 1)))) = some r := H
        have A17 := Aside0.mk A170
        clear A170
        by_cases c18 : t120 = true
        ·subst c18
         have H1 : (some false) = some r := by rw [if_pos rfl] at H; exact H
         clear H
         have H := H1
         clear H1
         obtain rfl := Option.some.inj H
         have p119 : 0 ≤ (x7_1 : Int) := of_decide_eq_true (by first | (with_reducible assumption) | assumption)
         have q119 : x7_1 < (t116.length : Int) := of_decide_eq_true (by first | (with_reducible assumption) | assumption)
         obtain ⟨ad119, e119, hx119_0⟩ := Kd.at_string (Kd.R_reads' HO_6.out).2.2 x7_1 p119 q119
         cases e119
         replace p119 := eq_true p119
         replace q119 := eq_true q119
         go_wp2_with (first | ((with_reducible refine gate_callee (f := 8) rfl ?_); refine goesL_ (some 33) rfl rfl Tryz.func8 (by kernel_rfl) rfl #[.string (rdOf ByteArray.empty t116 x7_1), .string a1] rfl (by (try simp only [List.map_toArray, List.map_cons, List.map_nil]); first | done | rfl | (simp only [List.length_drop, List.length_take]; rfl)) ?_; (with_reducible refine (abacuslaw21_holds.calls k1 (rdOf ByteArray.empty t116 x7_1) a1 true _ A17.out).mono ?_); rintro e w' ⟨rfl, ⟨nd, rfl⟩⟩; refine ⟨_, rfl, ?_⟩))
         go_ret
         exact ⟨by first | rfl | (simp [errW_none, errW_some] <;> rfl) | (simp [*, errW_none, errW_some] <;> rfl) | (simp [*, errW_none, errW_some]; exact isEmpty_ne _), by repeat (first | (with_reducible first | exact HB.out | apply below_alloc | apply pw_below_drewN | apply below_drew1) | exact HB.out)⟩
        ·replace c18 := Bool.eq_false_iff.mpr c18
         subst c18
         have H1 : (abacuslaw21_RecordRejoins.l0 k1 a0 a1 t116 (wrap64 (x7_1 + 1))) = some r := by rw [if_neg (show ¬ (false = true) by decide)] at H; exact H
         clear H
         have H := H1
         clear H1
         have H' := Aside0.mk H
         clear H
         have p119 : 0 ≤ (x7_1 : Int) := of_decide_eq_true (by first | (with_reducible assumption) | assumption)
         have q119 : x7_1 < (t116.length : Int) := of_decide_eq_true (by first | (with_reducible assumption) | assumption)
         obtain ⟨ad119, e119, hx119_0⟩ := Kd.at_string (Kd.R_reads' HO_6.out).2.2 x7_1 p119 q119
         cases e119
         replace p119 := eq_true p119
         replace q119 := eq_true q119
         go_wp2_with (first | ((with_reducible refine gate_callee (f := 8) rfl ?_); refine goesL_ (some 33) rfl rfl Tryz.func8 (by kernel_rfl) rfl #[.string (rdOf ByteArray.empty t116 x7_1), .string a1] rfl (by (try simp only [List.map_toArray, List.map_cons, List.map_nil]); first | done | rfl | (simp only [List.length_drop, List.length_take]; rfl)) ?_; (with_reducible refine (abacuslaw21_holds.calls k1 (rdOf ByteArray.empty t116 x7_1) a1 false _ A17.out).mono ?_); rintro e w' ⟨rfl, ⟨nd, rfl⟩⟩; refine ⟨_, rfl, ?_⟩))
         go_roundg k1
         case measure => have := HK1.out; omega
         case rel => exact ⟨(wrap64 (x7_1 + 1)), (by first | rfl | (simp; done) | (simp [*]; done)), H', ⟨by have := HK1.out; omega⟩, ⟨by (with_reducible repeat (first | apply Kd.R_alloc | apply Kd.R_drewN | apply Kd.R_drew)); exact HO_6.out⟩, ⟨by repeat (first | (with_reducible first | exact HB.out | apply below_alloc | apply pw_below_drewN | apply below_drew1) | exact HB.out)⟩⟩
       ·rw [if_neg c16] at H
        exact absurd H (by simp)
      ·rw [if_neg c15] at H
       have c15b0 : decide (x7_1 < (t116.length : Int)) = false := decide_eq_false c15
       clear c15
       replace H := Option.bind_eq_some_iff.mp H
       obtain ⟨t121, A190, H⟩ := H
       replace H : (if t121.size + a1.size ≤ 9223372036854775807 then (if (t121 ++ a1).toList = a0.toList then (some true) else (if a0.size + a1.size ≤ 9223372036854775807 then (if (t121 ++ a1).toList = (a0 ++ a1).toList then (if 0 ≤ (wrap64 ((t116.length : Int) - 1)) then (if (wrap64 ((t116.length : Int) - 1)) < (t116.length : Int) then (some ((rdOf ByteArray.empty t116 (wrap64 ((t116.length : Int) - 1))).toList != ([] : List UInt8))) else (none)) else (none)) else (some false)) else (none))) else (none)) = some r := H
       have A19 := Aside0.mk A190
       clear A190
       by_cases c20 : t121.size + a1.size ≤ 9223372036854775807
       ·rw [if_pos c20] at H
        have c20b0 := eq_true c20
        have c20b1 : decide (t121.size + a1.size ≤ 9223372036854775807) = true := decide_eq_true c20
        try have c20b2 : (9223372036854775807 < t121.size + a1.size) = False := eq_false (Nat.not_lt.2 c20)
        by_cases c21 : (t121 ++ a1).toList = a0.toList
        ·rw [if_pos c21] at H
         have c21b0 : ((t121 ++ a1).toList == a0.toList) = true := beq_iff_eq.mpr c21
         have c21b1 : ((t121 ++ a1).toList != a0.toList) = false := bne_eq_false_iff_eq.mpr c21
         clear c21
         obtain rfl := Option.some.inj H
         go_wp2_with (first | ((with_reducible refine gate_callee (f := 9) rfl ?_); refine goesL_ (some 36) rfl rfl Tryz.func9 (by kernel_rfl) rfl #[.slice Ao14 t116.length co14, .string a1] rfl (by (try simp only [List.map_toArray, List.map_cons, List.map_nil]); first | done | rfl | (simp only [List.length_drop, List.length_take]; rfl)) ?_; (with_reducible refine (abacuslaw21_joined.calls k1 _ _ t116 a1 t121 _ ?side1 ?side2 A19.out).mono ?_); (case side1 => repeat (first | exact (Kd.R_reads' HO_6.out).2.2 | (with_reducible refine Kd.C_alloc ?_ _) | (with_reducible refine Kd.C_drewN ?_ _) | (with_reducible refine Kd.C_drew ?_))); (case side2 => exact (Kd.R_reads' HO_6.out).2.1); rintro e w22 ⟨rfl, hb⟩; refine ⟨_, rfl, ?_⟩; have n0_ := Aside0.mk (Kd.R_below (by (with_reducible repeat (first | apply Kd.R_alloc | apply Kd.R_drewN | apply Kd.R_drew)); exact HO_6.out) hb); have n1_ := Aside0.mk (below_step (by repeat (first | exact HB.out | apply below_alloc | apply pw_below_drewN | apply below_drew1)) hb); clear HO_6; clear HB; have HO_6 := n0_; have HB := n1_; clear n0_ n1_; (try clear hb); (try clear hb2); (try clear hk); (try clear hi)))
         go_ret
         exact ⟨by first | rfl | (simp [errW_none, errW_some] <;> rfl) | (simp [*, errW_none, errW_some] <;> rfl) | (simp [*, errW_none, errW_some]; exact isEmpty_ne _), by repeat (first | (with_reducible first | exact HB.out | apply below_alloc | apply pw_below_drewN | apply below_drew1) | exact HB.out)⟩
        ·rw [if_neg c21] at H
         have c21b0 : ((t121 ++ a1).toList == a0.toList) = false := beq_eq_false_iff_ne.mpr c21
         have c21b1 : ((t121 ++ a1).toList != a0.toList) = true := bne_iff_ne.mpr c21
         by_cases c23 : a0.size + a1.size ≤ 9223372036854775807
         ·rw [if_pos c23] at H
          have c23b0 := eq_true c23
          have c23b1 : decide (a0.size + a1.size ≤ 9223372036854775807) = true := decide_eq_true c23
          try have c23b2 : (9223372036854775807 < a0.size + a1.size) = False := eq_false (Nat.not_lt.2 c23)
          by_cases c24 : (t121 ++ a1).toList = (a0 ++ a1).toList
          ·rw [if_pos c24] at H
           have c24b0 : ((t121 ++ a1).toList == (a0 ++ a1).toList) = true := beq_iff_eq.mpr c24
           have c24b1 : ((t121 ++ a1).toList != (a0 ++ a1).toList) = false := bne_eq_false_iff_eq.mpr c24
           clear c24
           obtain ⟨ji25, hji25⟩ : ∃ j_ : Int, (wrap64 ((t116.length : Int) - 1)) = j_ := ⟨_, rfl⟩
           replace H : (if 0 ≤ (ji25) then (if (ji25) < (t116.length : Int) then (some ((rdOf ByteArray.empty t116 (ji25)).toList != ([] : List UInt8))) else (none)) else (none)) = some r := by first | (rw [hji25] at H; exact H) | (simp only [hji25] at H ⊢; exact H)
           (try rw [hji25] at A19)
           have hji25w : (IntKind.i64.wrap ((t116.length : Int) - 1)) = ji25 := (i64_w _).trans hji25
           by_cases c26 : 0 ≤ (ji25)
           ·rw [if_pos c26] at H
            have c26b0 : decide (0 ≤ (ji25)) = true := decide_eq_true c26
            clear c26
            by_cases c27 : (ji25) < (t116.length : Int)
            ·rw [if_pos c27] at H
             have c27b0 : decide ((ji25) < (t116.length : Int)) = true := decide_eq_true c27
             clear c27
             obtain rfl := Option.some.inj H
             go_wp2_with (first | ((with_reducible refine gate_callee (f := 9) rfl ?_); refine goesL_ (some 36) rfl rfl Tryz.func9 (by kernel_rfl) rfl #[.slice Ao14 t116.length co14, .string a1] rfl (by (try simp only [List.map_toArray, List.map_cons, List.map_nil]); first | done | rfl | (simp only [List.length_drop, List.length_take]; rfl)) ?_; (with_reducible refine (abacuslaw21_joined.calls k1 _ _ t116 a1 t121 _ ?side1 ?side2 A19.out).mono ?_); (case side1 => repeat (first | exact (Kd.R_reads' HO_6.out).2.2 | (with_reducible refine Kd.C_alloc ?_ _) | (with_reducible refine Kd.C_drewN ?_ _) | (with_reducible refine Kd.C_drew ?_))); (case side2 => exact (Kd.R_reads' HO_6.out).2.1); rintro e w28 ⟨rfl, hb⟩; refine ⟨_, rfl, ?_⟩; have n0_ := Aside0.mk (Kd.R_below (by (with_reducible repeat (first | apply Kd.R_alloc | apply Kd.R_drewN | apply Kd.R_drew)); exact HO_6.out) hb); have n1_ := Aside0.mk (below_step (by repeat (first | exact HB.out | apply below_alloc | apply pw_below_drewN | apply below_drew1)) hb); clear HO_6; clear HB; have HO_6 := n0_; have HB := n1_; clear n0_ n1_; (try clear hb); (try clear hb2); (try clear hk); (try clear hi); have p122 : 0 ≤ ((ji25) : Int) := of_decide_eq_true (by first | (with_reducible assumption) | assumption); have q122 : (ji25) < (t116.length : Int) := of_decide_eq_true (by first | (with_reducible assumption) | assumption); obtain ⟨ad122, e122, hx122_0⟩ := Kd.at_string (Kd.R_reads' HO_6.out).2.2 (ji25) p122 q122; cases e122; replace p122 := eq_true p122; replace q122 := eq_true q122))
             go_ret
             exact ⟨by first | rfl | (simp [errW_none, errW_some] <;> rfl) | (simp only [← hji25]; first | rfl | (simp [errW_none, errW_some] <;> rfl)) | (simp [*, errW_none, errW_some] <;> rfl) | (simp [*, errW_none, errW_some]; exact isEmpty_ne _), by repeat (first | (with_reducible first | exact HB.out | apply below_alloc | apply pw_below_drewN | apply below_drew1) | exact HB.out)⟩
            ·rw [if_neg c27] at H
             exact absurd H (by simp)
           ·rw [if_neg c26] at H
            exact absurd H (by simp)
          ·rw [if_neg c24] at H
           have c24b0 : ((t121 ++ a1).toList == (a0 ++ a1).toList) = false := beq_eq_false_iff_ne.mpr c24
           have c24b1 : ((t121 ++ a1).toList != (a0 ++ a1).toList) = true := bne_iff_ne.mpr c24
           obtain rfl := Option.some.inj H
           go_wp2_with (first | ((with_reducible refine gate_callee (f := 9) rfl ?_); refine goesL_ (some 36) rfl rfl Tryz.func9 (by kernel_rfl) rfl #[.slice Ao14 t116.length co14, .string a1] rfl (by (try simp only [List.map_toArray, List.map_cons, List.map_nil]); first | done | rfl | (simp only [List.length_drop, List.length_take]; rfl)) ?_; (with_reducible refine (abacuslaw21_joined.calls k1 _ _ t116 a1 t121 _ ?side1 ?side2 A19.out).mono ?_); (case side1 => repeat (first | exact (Kd.R_reads' HO_6.out).2.2 | (with_reducible refine Kd.C_alloc ?_ _) | (with_reducible refine Kd.C_drewN ?_ _) | (with_reducible refine Kd.C_drew ?_))); (case side2 => exact (Kd.R_reads' HO_6.out).2.1); rintro e w29 ⟨rfl, hb⟩; refine ⟨_, rfl, ?_⟩; have n0_ := Aside0.mk (Kd.R_below (by (with_reducible repeat (first | apply Kd.R_alloc | apply Kd.R_drewN | apply Kd.R_drew)); exact HO_6.out) hb); have n1_ := Aside0.mk (below_step (by repeat (first | exact HB.out | apply below_alloc | apply pw_below_drewN | apply below_drew1)) hb); clear HO_6; clear HB; have HO_6 := n0_; have HB := n1_; clear n0_ n1_; (try clear hb); (try clear hb2); (try clear hk); (try clear hi)))
           go_ret
           exact ⟨by first | rfl | (simp [errW_none, errW_some] <;> rfl) | (simp [*, errW_none, errW_some] <;> rfl) | (simp [*, errW_none, errW_some]; exact isEmpty_ne _), by repeat (first | (with_reducible first | exact HB.out | apply below_alloc | apply pw_below_drewN | apply below_drew1) | exact HB.out)⟩
         ·rw [if_neg c23] at H
          exact absurd H (by simp)
       ·rw [if_neg c20] at H
        exact absurd H (by simp)
 ·replace c4 := Bool.eq_false_iff.mpr c4
  subst c4
  have H1 : (some false) = some r := by rw [if_neg (show ¬ (false = true) by decide)] at H; exact H
  clear H
  have H := H1
  clear H1
  obtain rfl := Option.some.inj H
  go_enter Tryz.func3, Tryz.ntmps3
  go_wp2_with (first | ((with_reducible refine gate_callee (f := 6) rfl ?_); refine goesL_ (some 9) rfl rfl Tryz.func6 (by kernel_rfl) rfl #[] rfl (by (try simp only [List.map_toArray, List.map_cons, List.map_nil]); first | done | rfl | (simp only [List.length_drop, List.length_take]; rfl)) ?_; (with_reducible refine (abacuslaw21_awake.calls  false _ ?side1 A3.out).mono ?_); (case side1 => first | exact hT | exact Tabs.below hT (by repeat (first | exact HB.out | apply below_alloc | apply pw_below_drewN | apply below_drew1)) | (repeat (first | exact hT | apply Tabs.drewN | apply Tabs.drew))); rintro e w30 ⟨rfl, hb⟩; refine ⟨_, rfl, ?_⟩; have n0_ := Aside0.mk (below_step (by repeat (first | exact HB.out | apply below_alloc | apply pw_below_drewN | apply below_drew1)) hb); clear HB; have HB := n0_; clear n0_; (try clear hb); (try clear hb2); (try clear hk); (try clear hi)))
  go_ret
  exact ⟨by first | rfl | (simp [errW_none, errW_some] <;> rfl) | (simp [*, errW_none, errW_some] <;> rfl) | (simp [*, errW_none, errW_some]; exact isEmpty_ne _), by repeat (first | (with_reducible first | exact HB.out | apply below_alloc | apply pw_below_drewN | apply below_drew1) | exact HB.out)⟩
end Go.Proofs.YtahdkpoihpcfnaaGreatDoor.PE
end

section
set_option linter.unusedVariables false
set_option linter.unusedSimpArgs false
namespace Go.Proofs.YtahdkpoihpcfnaaGreatDoor.Rejoins
open Go Go.RowKit Go.Shelf Go.Proofs.YtahdkpoihpcfnaaGreatDoorW.PrintWords Go.Proofs.YtahdkpoihpcfnaaGreatDoorW.PrintLast Go.Proofs.YtahdkpoihpcfnaaGreatDoorW.PrintMore Go.Proofs.YtahdkpoihpcfnaaGreatDoor.Stub Go.Proofs.YtahdkpoihpcfnaaGreatDoor.PE Go.Proofs.YtahdkpoihpcfnaaGreatDoor.CutsP
theorem wrap_in {x : Int} (h0 : -9223372036854775808 ≤ x) (h1 : x ≤ 9223372036854775807) : wrap64 x = x := by unfold wrap64; omega
theorem size_eq (s : ByteArray) : s.size = s.data.toList.length := by rw [Array.length_toList]; rfl
theorem toList_eq (s : ByteArray) : s.toList = s.data.toList := by
 have : ∀ (n i : Nat) (r : List UInt8), s.size - i = n → ByteArray.toList.loop s i r = r.reverse ++ s.data.toList.drop i := by
  intro n
  induction n with
  | zero =>
   intro i r h
   unfold ByteArray.toList.loop
   rw [if_neg (by omega), List.drop_eq_nil_of_le (by rw [← size_eq]; omega), List.append_nil]
  | succ n ih =>
   intro i r h
   have hi : i < s.size := by omega
   unfold ByteArray.toList.loop
   rw [if_pos hi, ih (i + 1) _ (by omega), List.reverse_cons, List.append_assoc]
   congr 1
   have hi' : i < s.data.toList.length := by rw [← size_eq]; exact hi
   rw [List.drop_eq_getElem_cons hi']
   simp only [List.singleton_append]
   congr 1
   simp [ByteArray.get!, getElem!_pos, hi]
 have := this s.size 0 [] (by omega)
 simpa [ByteArray.toList] using this
theorem extract_list (s : ByteArray) (a b : Nat) : (s.extract a b).data.toList = (s.data.toList.take b).drop a := by
 rw [ByteArray.data_extract, Array.toList_extract, List.extract_eq_take_drop, List.drop_take]
theorem not_holds {l sep : List UInt8} (h : holdsP l sep = false) (j : Nat) (hj : j + sep.length ≤ l.length) : (l.drop j).take sep.length ≠ sep := by
 intro e
 have : holdsP l sep = true := by
  unfold holdsP
  rw [List.any_eq_true]
  exact ⟨j, List.mem_range.2 (by omega), by rw [Bool.and_eq_true]; exact ⟨decide_eq_true hj, by simpa using e⟩⟩
 rw [h] at this
 cases this
theorem holds_no (s t : ByteArray) (hs : s.size ≤ 281474976710656) (ht : t.size ≤ 281474976710656) (hc : holdsP s.data.toList t.data.toList = false) :
  ∀ (d k i : Nat), i ≤ s.size + 1 → s.size + 1 - i = d → d < k → abacuslaw21_holds.l0 k s t (i : Int) = some false := by
 intro d
 induction d with
 | zero =>
  intro k i hi hd hk
  obtain ⟨k, rfl⟩ : ∃ m, k = m + 1 := ⟨k - 1, by omega⟩
  simp only [abacuslaw21_holds.l0]
  rw [wrap_in (by omega) (by omega), if_neg (by omega)]
 | succ d ih =>
  intro k i hi hd hk
  obtain ⟨k, rfl⟩ : ∃ m, k = m + 1 := ⟨k - 1, by omega⟩
  simp only [abacuslaw21_holds.l0]
  rw [wrap_in (by omega) (by omega)]
  by_cases hle : (i : Int) + t.size ≤ s.size
  ·rw [if_pos hle, if_pos (by omega), if_pos (by omega), if_neg, wrap_in (by omega) (by omega)]
   ·exact ih k (i + 1) (by omega) (by omega) (by omega)
   ·rw [toList_eq, toList_eq, extract_list, show ((i : Int) + (t.size : Int)).toNat = i + t.size by omega, Int.toNat_natCast, List.drop_take]
    have := not_holds hc i (by rw [← size_eq, ← size_eq]; omega)
    rw [← size_eq] at this
    rwa [show i + t.size - i = t.size by omega]
  ·rw [if_neg hle]
def joinFrom (sep : List UInt8) : Bool → List (List UInt8) → List UInt8
 | _, [] => []
 | first, l :: r => (if first then [] else sep) ++ l ++ joinFrom sep false r
theorem joinFrom_sep (sep : List UInt8) : ∀ r, joinFrom sep false r ++ sep = sep ++ withSep sep r
 | [] => by simp [joinFrom, withSep]
 | l :: r => by
  have := joinFrom_sep sep r
  simp only [joinFrom, withSep, List.map_cons, List.flatten_cons, Bool.false_eq_true, if_false, List.append_assoc] at this ⊢
  rw [this]
theorem joinFrom_first (sep : List UInt8) (l : List UInt8) (r : List (List UInt8)) : joinFrom sep true (l :: r) ++ sep = withSep sep (l :: r) := by
 have := joinFrom_sep sep r
 simp only [joinFrom, withSep, List.map_cons, List.flatten_cons, if_true, List.nil_append, List.append_assoc] at this ⊢
 rw [this]
def ints (l : List UInt8) : List Int := l.map fun b => (b.toNat : Int)
theorem ints_append (a b : List UInt8) : ints (a ++ b) = ints a ++ ints b := by simp [ints]
theorem str_ints (l : List UInt8) : strOfNums (ints l) = ⟨l.toArray⟩ := by
 unfold strOfNums ints
 rw [List.map_map]
 congr 2
 conv => rhs; rw [← List.map_id l]
 apply List.map_congr_left
 intro b _
 simp
theorem mk_toList (l : List UInt8) : (⟨l.toArray⟩ : ByteArray).data.toList = l := by simp
theorem bytesOf_ints (s : ByteArray) : bytesOf s = ints s.data.toList := rfl
theorem joined_go (L : List (List UInt8)) (sep : ByteArray) (hL : L.length ≤ 4294967296) :
  ∀ (r : List (List UInt8)) (i k : Nat) (acc : List UInt8), L.drop i = r → i ≤ L.length → r.length < k → acc.length + (joinFrom sep.data.toList (decide (i = 0)) r).length < 140737488355328 →
  abacuslaw21_joined.l0 k (L.map fun l => ⟨l.toArray⟩) sep (ints acc) (i : Int) = some ⟨(acc ++ joinFrom sep.data.toList (decide (i = 0)) r).toArray⟩ := by
 intro r
 induction r with
 | nil =>
  intro i k acc hd hi hk hb
  obtain ⟨k, rfl⟩ : ∃ m, k = m + 1 := ⟨k - 1, by omega⟩
  have : L.length ≤ i := by simpa using hd
  simp only [abacuslaw21_joined.l0, List.length_map]
  rw [if_neg (by omega), str_ints]
  simp [joinFrom]
 | cons l r ih =>
  intro i k acc hd hi hk hb
  obtain ⟨k, rfl⟩ : ∃ m, k = m + 1 := ⟨k - 1, by omega⟩
  have hlt : i < L.length := by
   rcases Nat.lt_or_ge i L.length with h | h
   ·exact h
   ·rw [List.drop_eq_nil_of_le h] at hd; cases hd
  have hg : L[i]? = some l := by
   have := congrArg (·[0]?) hd
   simpa using this
  have hr : L.drop (i + 1) = r := by
   have := congrArg List.tail hd
   simpa using this
  have hrd : rdOf ByteArray.empty (L.map fun l => (⟨l.toArray⟩ : ByteArray)) (i : Int) = ⟨l.toArray⟩ := by
   simp [rdOf, List.getD_eq_getElem?_getD, hg]
  have hsz : (⟨l.toArray⟩ : ByteArray).size = l.length := by simp [ByteArray.size]
  have hw : wrap64 ((i : Int) + 1) = ((i + 1 : Nat) : Int) := by rw [wrap_in (by omega) (by omega)]; simp
  simp only [abacuslaw21_joined.l0, List.length_map]
  rw [if_pos (by omega)]
  simp only [joinFrom, List.length_append] at hb
  by_cases h0 : i = 0
  ·subst h0
   simp only [decide_true, if_true, List.length_nil] at hb
   rw [if_neg (by omega), if_pos (by omega), hrd, hsz, bytesOf_ints, mk_toList, if_pos (by simp [ints]; omega), ← ints_append, hw]
   rw [ih (0 + 1) k (acc ++ l) hr (by omega) (by simp at hk; omega) (by rw [show decide (0 + 1 = 0) = false from rfl]; simp only [List.length_append]; omega)]
   simp [joinFrom]
  ·simp only [decide_eq_false h0, Bool.false_eq_true, if_false] at hb
   rw [if_pos (by omega)]
   have hs : sep.data.toList.length = sep.size := (size_eq sep).symm
   rw [if_pos (by simp only [ints, List.length_map]; omega)]
   simp only [Option.bind_some]
   rw [if_pos (by omega), hrd, hsz, bytesOf_ints, bytesOf_ints, mk_toList, ← ints_append, if_pos (by rw [ints, List.length_map, List.length_append, hs]; omega), ← ints_append, hw]
   rw [ih (i + 1) k (acc ++ sep.data.toList ++ l) hr (by omega) (by simp at hk; omega) (by rw [show decide (i + 1 = 0) = false by simp, List.length_append, List.length_append, hs]; omega)]
   simp [joinFrom, h0]
theorem linesP_len (s sep : List UInt8) (hsep : sep ≠ []) : (linesP s sep).length ≤ s.length + 1 := by
 unfold linesP cutsL
 rw [List.length_map]
 have h1 : ∀ ps : List (Nat × Nat), (keepRec s ps).length ≤ ps.length := by
  intro ps
  induction ps with
  | nil => simp [keepRec]
  | cons a ps ih =>
   unfold keepRec
   split
   ·simp
   ·simp; omega
 have := cutsFrom_length s sep hsep (s.length + 1) 0 (Nat.zero_le _)
 have := h1 (cutsFrom s sep (s.length + 1) 0)
 omega
theorem all_clean (L : List (List UInt8)) (s t : ByteArray) (ht : t.size ≤ 1048576) (hL : L.length ≤ 4294967296) (hb : ∀ l ∈ L, l.length ≤ 1048576) (hc : ∀ l ∈ L, holdsP l t.data.toList = false) (R : Option Bool) :
  ∀ (d k i : Nat), L.length - i = d → i ≤ L.length → d + 1048579 < k → (∀ k, 1048577 < k → abacuslaw21_RecordRejoins.l0 (k + 1) s t (L.map fun l => ⟨l.toArray⟩) (L.length : Int) = R) →
  abacuslaw21_RecordRejoins.l0 k s t (L.map fun l => ⟨l.toArray⟩) (i : Int) = R := by
 intro d
 induction d with
 | zero =>
  intro k i hd hi hk hR
  obtain rfl : i = L.length := by omega
  obtain ⟨k, rfl⟩ : ∃ m, k = m + 1 := ⟨k - 1, by omega⟩
  exact hR k (by omega)
 | succ d ih =>
  intro k i hd hi hk hR
  obtain ⟨k, rfl⟩ : ∃ m, k = m + 1 := ⟨k - 1, by omega⟩
  have hlt : i < L.length := by omega
  have hrd : rdOf ByteArray.empty (L.map fun l => (⟨l.toArray⟩ : ByteArray)) (i : Int) = ⟨(L[i]).toArray⟩ := by
   simp [rdOf, List.getD_eq_getElem?_getD, hlt]
  have hsz : (⟨(L[i]).toArray⟩ : ByteArray).size = (L[i]).length := by simp [ByteArray.size]
  have hm : L[i] ∈ L := List.getElem_mem hlt
  have hno : abacuslaw21_holds.f k ⟨(L[i]).toArray⟩ t = some false := by
   unfold abacuslaw21_holds.f
   have h := hb _ hm
   exact holds_no ⟨(L[i]).toArray⟩ t (by rw [hsz]; omega) (by omega) (by rw [mk_toList]; exact hc _ hm) _ k 0 (by omega) rfl (by rw [hsz]; omega)
  simp only [abacuslaw21_RecordRejoins.l0, List.length_map]
  rw [if_pos (by omega), if_pos (by omega), hrd, hno]
  simp only [Option.bind_some, Bool.false_eq_true, if_false]
  rw [show wrap64 ((i : Int) + 1) = ((i + 1 : Nat) : Int) by rw [wrap_in (by omega) (by omega)]; simp]
  exact ih k (i + 1) (by omega) (by omega) (by omega) hR
theorem piece_len (s : List UInt8) (p : Nat × Nat) : (piece s p).length ≤ s.length := by
 unfold piece
 rw [List.length_drop, List.length_take]
 omega
theorem rejoins (haw : abacuslaw21_awake.f = some true) (s t : ByteArray) (hs : s.size ≤ 1048576) (ht : t.size ≤ 1048576) : ∃ k, abacuslaw21_RecordRejoins.f k s t = some true := by
 unfold abacuslaw21_RecordRejoins.f
 rw [haw]
 simp only [Option.bind_some, if_true]
 by_cases he : t.toList = []
 ·exact ⟨0, by rw [if_pos he]⟩
 ·have het : t.data.toList ≠ [] := by rwa [← toList_eq]
  have hsl := size_eq s
  have htl := size_eq t
  have hlen := linesP_len s.data.toList t.data.toList het
  refine ⟨4000000, ?_⟩
  rw [if_neg he]
  unfold record_Lines.f
  rw [if_pos ⟨hs, ht, he⟩, show (ofL : List UInt8 → ByteArray) = fun l => ⟨l.toArray⟩ from rfl]
  simp only [Option.bind_some, List.length_map]
  have hrj := linesP_rejoin s.data.toList t.data.toList het
  cases hL : linesP s.data.toList t.data.toList with
  | nil =>
   rw [if_pos (by simp)]
   rw [hL] at hrj
   rcases hrj with h | ⟨_, l, hl, _⟩
   ·have : s.toList = [] := by rw [toList_eq]; simpa [withSep] using h.symm
    simp [this]
   ·simp at hl
  | cons a r =>
   rw [if_neg (by simp; omega), ← hL]
   have hcl := linesP_clean s.data.toList t.data.toList het
   have hbl : ∀ l ∈ linesP s.data.toList t.data.toList, l.length ≤ 1048576 := by
    intro l hl
    unfold linesP at hl
    obtain ⟨p, _, rfl⟩ := List.mem_map.1 hl
    have := piece_len s.data.toList p
    omega
   refine all_clean (linesP s.data.toList t.data.toList) s t ht (by omega) hbl hcl (some true) _ 4000000 0 rfl (Nat.zero_le _) (by omega) ?_
   intro k hk
   simp only [abacuslaw21_RecordRejoins.l0, List.length_map]
   rw [if_neg (by omega)]
   have hj1 := joinFrom_first t.data.toList a r
   rw [← hL] at hj1
   have hjl : (joinFrom t.data.toList true (linesP s.data.toList t.data.toList)).length ≤ s.data.toList.length := by
    have := congrArg List.length hj1
    rw [List.length_append] at this
    rcases hrj with h | ⟨h, _⟩
    ·rw [h] at this; omega
    ·rw [h, List.length_append] at this; omega
   have hjo : abacuslaw21_joined.f k ((linesP s.data.toList t.data.toList).map fun l => ⟨l.toArray⟩) t = some ⟨(joinFrom t.data.toList true (linesP s.data.toList t.data.toList)).toArray⟩ := by
    unfold abacuslaw21_joined.f
    have := joined_go (linesP s.data.toList t.data.toList) t (by omega) (linesP s.data.toList t.data.toList) 0 k [] (by simp) (Nat.zero_le _) (by omega) (by simp; omega)
    simpa [ints] using this
   rw [hjo]
   simp only [Option.bind_some]
   have hsz : (⟨(joinFrom t.data.toList true (linesP s.data.toList t.data.toList)).toArray⟩ : ByteArray).size = (joinFrom t.data.toList true (linesP s.data.toList t.data.toList)).length := by simp [ByteArray.size]
   rw [if_pos (by rw [hsz]; omega)]
   rw [toList_eq, toList_eq s, ByteArray.data_append, Array.toList_append, mk_toList, hj1]
   rcases hrj with h | ⟨h, l, hl, hne⟩
   ·rw [if_pos h]
   ·have hne2 : withSep t.data.toList (linesP s.data.toList t.data.toList) ≠ s.data.toList := by
     rw [h]
     intro h2
     have := congrArg List.length h2
     rw [List.length_append] at this
     have : 0 < t.data.toList.length := List.length_pos_iff.2 het
     omega
    rw [if_neg hne2, if_pos (by omega), toList_eq, ByteArray.data_append, Array.toList_append, if_pos h]
    have hp : 0 < (linesP s.data.toList t.data.toList).length := by rw [hL]; simp
    rw [wrap_in (by omega) (by omega), if_pos (by omega), if_pos (by omega)]
    have hget : (linesP s.data.toList t.data.toList)[(linesP s.data.toList t.data.toList).length - 1]? = some l := by rw [← List.getLast?_eq_getElem?]; exact hl
    have : rdOf ByteArray.empty ((linesP s.data.toList t.data.toList).map fun l => (⟨l.toArray⟩ : ByteArray)) (((linesP s.data.toList t.data.toList).length : Int) - 1) = ⟨l.toArray⟩ := by
     unfold rdOf
     rw [show (((linesP s.data.toList t.data.toList).length : Int) - 1).toNat = (linesP s.data.toList t.data.toList).length - 1 by omega]
     simp [List.getD_eq_getElem?_getD, hget]
    rw [this, toList_eq, mk_toList]
    simp [hne]
end Go.Proofs.YtahdkpoihpcfnaaGreatDoor.Rejoins
end
