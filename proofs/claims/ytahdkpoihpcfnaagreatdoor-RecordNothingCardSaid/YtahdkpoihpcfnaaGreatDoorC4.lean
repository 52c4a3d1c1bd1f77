/- Part 4 of what Nothing rests on: contracts and plain laws. -/
import Derived.WalkKit
import Derived.KernelRfl
import Derived.RowKit3
import Derived.Tactics
import Derived.WalkLawsBesides
import Derived.WalkSpells
import Derived.Laws.EntriesVeiled
import Derived.Test.YtahdkpoihpcfnaaGreatDoorProg
import Derived.Below
import Derived.Deep.Draws
import Derived.Deep.AppendLies
import Derived.Maps.AppendAt
import Derived.OwnWalk
import Derived.Laws.BytesArg
import Derived.Laws.MakeOwn
import Derived.Laws.OwnMore
import Derived.Deep.OwnRows
import Derived.Lib.ConvBytes
import Derived.Laws.Slices
import Derived.Deep.LoopGhost
import Derived.Deep.QuietTactic
import Derived.BigQuiet
import Derived.WideLaws
import Derived.Deep.DeepCutAuto
import Derived.Deep.CutBlock
import Derived.Deep.RegionHeld3
import Derived.Laws.Rows
import Derived.Lib.AppendStr
import Derived.ArgAppend
import Derived.Laws.IdiomCopy
import Derived.OrdersHeld
import Derived.Laws.BitsLemmas
import Derived.RowKit
import Derived.Test.YtahdkpoihpcfnaaGreatDoorC3
section
namespace Go.Proofs.YtahdkpoihpcfnaaGreatDoor.PB
open Go.Proofs.YtahdkpoihpcfnaaGreatDoor.Stub Go.Proofs.YtahdkpoihpcfnaaGreatDoor.PA
open Go.RowKit Go.Proofs.YtahdkpoihpcfnaaGreatDoorW.PrintWords Go.Proofs.YtahdkpoihpcfnaaGreatDoorW.PrintLast Go.Proofs.YtahdkpoihpcfnaaGreatDoorW.PrintMore
attribute [local go_sem] cell_isSome_setCell max2_int min2_int max_two min_two max_three min_three max_four min_four   -- for this text's walks alone
set_option linter.unusedVariables false
set_option linter.unusedSimpArgs false
mutual
def soft_mul.j0 : Nat → Bool → Bool → Bool → Int → Int → Int → Bool → Int → Int → Int → Option (Int × Int)
 | 0, _, _, _, _, _, _, _, _, _, _ => none
 | k + 1, x10, x20, x155000, x155001, x155002, x155003, x156000, x156001, x156002, x156003 => if x20 = true then (some (9221120237041090560, 0)) else (if x155001 = 3 then (soft_mul.j1 k x10 (x156001 == 0) x155000 x155001 x155002 x155003 x156000 x156001 x156002 x156003) else (soft_mul.j1 k x10 false x155000 x155001 x155002 x155003 x156000 x156001 x156002 x156003))
def soft_mul.j1 : Nat → Bool → Bool → Bool → Int → Int → Int → Bool → Int → Int → Int → Option (Int × Int)
 | 0, _, _, _, _, _, _, _, _, _, _ => none
 | k + 1, x10, x29, x155000, x155001, x155002, x155003, x156000, x156001, x156002, x156003 => if x29 = true then (soft_mul.j2 k x10 x29 x155000 x155001 x155002 x155003 x156000 x156001 x156002 x156003) else (if x155001 = 0 then (soft_mul.j2 k x10 (x156001 == 3) x155000 x155001 x155002 x155003 x156000 x156001 x156002 x156003) else (soft_mul.j2 k x10 false x155000 x155001 x155002 x155003 x156000 x156001 x156002 x156003))
def soft_mul.j2 : Nat → Bool → Bool → Bool → Int → Int → Int → Bool → Int → Int → Int → Option (Int × Int)
 | 0, _, _, _, _, _, _, _, _, _, _ => none
 | k + 1, x10, x29, x155000, x155001, x155002, x155003, x156000, x156001, x156002, x156003 => if x29 = true then ((soft_invalid.f).bind fun bt156 => (some (bt156.1, bt156.2))) else (if x155001 = 3 then (soft_mul.j3 k x10 true x155000 x155001 x155002 x155003 x156000 x156001 x156002 x156003) else (soft_mul.j3 k x10 (x156001 == 3) x155000 x155001 x155002 x155003 x156000 x156001 x156002 x156003))
def soft_mul.j3 : Nat → Bool → Bool → Bool → Int → Int → Int → Bool → Int → Int → Int → Option (Int × Int)
 | 0, _, _, _, _, _, _, _, _, _, _ => none
 | k + 1, x10, x49, x155000, x155001, x155002, x155003, x156000, x156001, x156002, x156003 => if x49 = true then ((soft_withSign.f x10 9218868437227405312).bind fun t158 => (some (t158, 0))) else ((soft_product.f k x155000 x155001 x155002 x155003 x156000 x156001 x156002 x156003).bind fun bt159 => ((soft_term_rounded.f k bt159.1 bt159.2.1 bt159.2.2).bind fun bt164 => (some (bt164.1, bt164.2))))
end
def soft_mul.f (k : Nat) (a0 : Int) (a1 : Int) (a2 : Int) : Option (Int × Int) := (ieee_Decode.f a0).bind fun bt146 => ((ieee_Decode.f a1).bind fun bt150 => (if bt146.2.1 = 4 then (soft_mul.j0 k (bt146.1 != bt150.1) true bt146.1 bt146.2.1 bt146.2.2.1 bt146.2.2.2 bt150.1 bt150.2.1 bt150.2.2.1 bt150.2.2.2) else (soft_mul.j0 k (bt146.1 != bt150.1) (bt150.2.1 == 4) bt146.1 bt146.2.1 bt146.2.2.1 bt146.2.2.2 bt150.1 bt150.2.1 bt150.2.2.1 bt150.2.2.2)))
theorem soft_mul.mono_l : ∀ k, (∀ y0 y1 y2 y3 y4 y5 y6 y7 y8 y9, LeO (soft_mul.j0 k y0 y1 y2 y3 y4 y5 y6 y7 y8 y9) (soft_mul.j0 (k + 1) y0 y1 y2 y3 y4 y5 y6 y7 y8 y9)) ∧ (∀ y0 y1 y2 y3 y4 y5 y6 y7 y8 y9, LeO (soft_mul.j1 k y0 y1 y2 y3 y4 y5 y6 y7 y8 y9) (soft_mul.j1 (k + 1) y0 y1 y2 y3 y4 y5 y6 y7 y8 y9)) ∧ (∀ y0 y1 y2 y3 y4 y5 y6 y7 y8 y9, LeO (soft_mul.j2 k y0 y1 y2 y3 y4 y5 y6 y7 y8 y9) (soft_mul.j2 (k + 1) y0 y1 y2 y3 y4 y5 y6 y7 y8 y9)) ∧ (∀ y0 y1 y2 y3 y4 y5 y6 y7 y8 y9, LeO (soft_mul.j3 k y0 y1 y2 y3 y4 y5 y6 y7 y8 y9) (soft_mul.j3 (k + 1) y0 y1 y2 y3 y4 y5 y6 y7 y8 y9))
 | 0 => ⟨fun _ _ _ _ _ _ _ _ _ _ r h => by simp [soft_mul.j0] at h, fun _ _ _ _ _ _ _ _ _ _ r h => by simp [soft_mul.j1] at h, fun _ _ _ _ _ _ _ _ _ _ r h => by simp [soft_mul.j2] at h, fun _ _ _ _ _ _ _ _ _ _ r h => by simp [soft_mul.j3] at h⟩
 | k + 1 => by
  obtain ⟨ih0, ih1, ih2, ih3⟩ := soft_mul.mono_l k
  refine ⟨?_, ?_, ?_, ?_⟩
  ·intro y0 y1 y2 y3 y4 y5 y6 y7 y8 y9
   unfold soft_mul.j0
   repeat' first
   | (with_reducible exact ih0 _ _ _ _ _ _ _ _ _ _)
   | (with_reducible exact ih1 _ _ _ _ _ _ _ _ _ _)
   | (with_reducible exact ih2 _ _ _ _ _ _ _ _ _ _)
   | (with_reducible exact ih3 _ _ _ _ _ _ _ _ _ _)
   | (with_reducible exact soft_product.mono _ _ _ _ _ _ _ _ _)
   | (with_reducible exact soft_term_rounded.mono _ _ _ _)
   | (with_reducible exact LeO.refl _)
   | (with_reducible exact LeO.none _)
   | (with_reducible refine LeO.ite ?_ ?_)
   | (with_reducible refine LeO.bind ?_ (fun _ => ?_))
   | exact ih0 _ _ _ _ _ _ _ _ _ _
   | exact ih1 _ _ _ _ _ _ _ _ _ _
   | exact ih2 _ _ _ _ _ _ _ _ _ _
   | exact ih3 _ _ _ _ _ _ _ _ _ _
   | exact soft_product.mono _ _ _ _ _ _ _ _ _
   | exact soft_term_rounded.mono _ _ _ _
   | exact LeO.none _
   | refine LeO.ite ?_ ?_
   | refine LeO.bind ?_ (fun _ => ?_)
  ·intro y0 y1 y2 y3 y4 y5 y6 y7 y8 y9
   unfold soft_mul.j1
   repeat' first
   | (with_reducible exact ih0 _ _ _ _ _ _ _ _ _ _)
   | (with_reducible exact ih1 _ _ _ _ _ _ _ _ _ _)
   | (with_reducible exact ih2 _ _ _ _ _ _ _ _ _ _)
   | (with_reducible exact ih3 _ _ _ _ _ _ _ _ _ _)
   | (with_reducible exact soft_product.mono _ _ _ _ _ _ _ _ _)
   | (with_reducible exact soft_term_rounded.mono _ _ _ _)
   | (with_reducible exact LeO.refl _)
   | (with_reducible exact LeO.none _)
   | (with_reducible refine LeO.ite ?_ ?_)
   | (with_reducible refine LeO.bind ?_ (fun _ => ?_))
   | exact ih0 _ _ _ _ _ _ _ _ _ _
   | exact ih1 _ _ _ _ _ _ _ _ _ _
   | exact ih2 _ _ _ _ _ _ _ _ _ _
   | exact ih3 _ _ _ _ _ _ _ _ _ _
   | exact soft_product.mono _ _ _ _ _ _ _ _ _
   | exact soft_term_rounded.mono _ _ _ _
   | exact LeO.none _
   | refine LeO.ite ?_ ?_
   | refine LeO.bind ?_ (fun _ => ?_)
  ·intro y0 y1 y2 y3 y4 y5 y6 y7 y8 y9
   unfold soft_mul.j2
   repeat' first
   | (with_reducible exact ih0 _ _ _ _ _ _ _ _ _ _)
   | (with_reducible exact ih1 _ _ _ _ _ _ _ _ _ _)
   | (with_reducible exact ih2 _ _ _ _ _ _ _ _ _ _)
   | (with_reducible exact ih3 _ _ _ _ _ _ _ _ _ _)
   | (with_reducible exact soft_product.mono _ _ _ _ _ _ _ _ _)
   | (with_reducible exact soft_term_rounded.mono _ _ _ _)
   | (with_reducible exact LeO.refl _)
   | (with_reducible exact LeO.none _)
   | (with_reducible refine LeO.ite ?_ ?_)
   | (with_reducible refine LeO.bind ?_ (fun _ => ?_))
   | exact ih0 _ _ _ _ _ _ _ _ _ _
   | exact ih1 _ _ _ _ _ _ _ _ _ _
   | exact ih2 _ _ _ _ _ _ _ _ _ _
   | exact ih3 _ _ _ _ _ _ _ _ _ _
   | exact soft_product.mono _ _ _ _ _ _ _ _ _
   | exact soft_term_rounded.mono _ _ _ _
   | exact LeO.none _
   | refine LeO.ite ?_ ?_
   | refine LeO.bind ?_ (fun _ => ?_)
  ·intro y0 y1 y2 y3 y4 y5 y6 y7 y8 y9
   unfold soft_mul.j3
   repeat' first
   | (with_reducible exact ih0 _ _ _ _ _ _ _ _ _ _)
   | (with_reducible exact ih1 _ _ _ _ _ _ _ _ _ _)
   | (with_reducible exact ih2 _ _ _ _ _ _ _ _ _ _)
   | (with_reducible exact ih3 _ _ _ _ _ _ _ _ _ _)
   | (with_reducible exact soft_product.mono _ _ _ _ _ _ _ _ _)
   | (with_reducible exact soft_term_rounded.mono _ _ _ _)
   | (with_reducible exact LeO.refl _)
   | (with_reducible exact LeO.none _)
   | (with_reducible refine LeO.ite ?_ ?_)
   | (with_reducible refine LeO.bind ?_ (fun _ => ?_))
   | exact ih0 _ _ _ _ _ _ _ _ _ _
   | exact ih1 _ _ _ _ _ _ _ _ _ _
   | exact ih2 _ _ _ _ _ _ _ _ _ _
   | exact ih3 _ _ _ _ _ _ _ _ _ _
   | exact soft_product.mono _ _ _ _ _ _ _ _ _
   | exact soft_term_rounded.mono _ _ _ _
   | exact LeO.none _
   | refine LeO.ite ?_ ?_
   | refine LeO.bind ?_ (fun _ => ?_)
theorem soft_mul.mono : ∀ a0 a1 a2 k, LeO (soft_mul.f k a0 a1 a2) (soft_mul.f (k + 1) a0 a1 a2) := by
 intro a0 a1 a2 k
 obtain ⟨ih0, ih1, ih2, ih3⟩ := soft_mul.mono_l k
 unfold soft_mul.f
 repeat' first
   | (with_reducible exact ih0 _ _ _ _ _ _ _ _ _ _)
   | (with_reducible exact ih1 _ _ _ _ _ _ _ _ _ _)
   | (with_reducible exact ih2 _ _ _ _ _ _ _ _ _ _)
   | (with_reducible exact ih3 _ _ _ _ _ _ _ _ _ _)
   | (with_reducible exact soft_product.mono _ _ _ _ _ _ _ _ _)
   | (with_reducible exact soft_term_rounded.mono _ _ _ _)
   | (with_reducible exact LeO.refl _)
   | (with_reducible exact LeO.none _)
   | (with_reducible refine LeO.ite ?_ ?_)
   | (with_reducible refine LeO.bind ?_ (fun _ => ?_))
   | exact ih0 _ _ _ _ _ _ _ _ _ _
   | exact ih1 _ _ _ _ _ _ _ _ _ _
   | exact ih2 _ _ _ _ _ _ _ _ _ _
   | exact ih3 _ _ _ _ _ _ _ _ _ _
   | exact soft_product.mono _ _ _ _ _ _ _ _ _
   | exact soft_term_rounded.mono _ _ _ _
   | exact LeO.none _
   | refine LeO.ite ?_ ?_
   | refine LeO.bind ?_ (fun _ => ?_)
set_option maxHeartbeats 8000000 in
set_option maxRecDepth 100000 in
theorem soft_mul.calls (k : Nat) (a0 : Int) (a1 : Int) (a2 : Int) (r1 : Int) (r2 : Int) (w : World) (hT : Tabs w) (h : soft_mul.f k a0 a1 a2 = some (r1, r2)) :
  Calls Tryz.prog 217 #[.int .u64 a0, .int .u64 a1, .int .u64 a2] w fun e w' => e = .returned (.tuple #[.int .u64 r1, .int .i64 r2]) ∧ Below w.heap.size w w' := by
 have hu163 := Tryz.underlying163
 have HB := Aside0.mk (Below.refl w.heap.size w)
 have H : ((ieee_Decode.f a0).bind fun bt146 => ((ieee_Decode.f a1).bind fun bt150 => (if bt146.2.1 = 4 then (soft_mul.j0 k (bt146.1 != bt150.1) true bt146.1 bt146.2.1 bt146.2.2.1 bt146.2.2.2 bt150.1 bt150.2.1 bt150.2.2.1 bt150.2.2.2) else (soft_mul.j0 k (bt146.1 != bt150.1) (bt150.2.1 == 4) bt146.1 bt146.2.1 bt146.2.2.1 bt146.2.2.2 bt150.1 bt150.2.1 bt150.2.2.1 bt150.2.2.2)))) = some (r1, r2) := h
 clear h
 replace H := Option.bind_eq_some_iff.mp H
 obtain ⟨⟨t146, t147, t148, t149⟩, A40, H⟩ := H
 replace H : ((ieee_Decode.f a1).bind fun bt150 => (if t147 = 4 then (soft_mul.j0 k (t146 != bt150.1) true t146 t147 t148 t149 bt150.1 bt150.2.1 bt150.2.2.1 bt150.2.2.2) else (soft_mul.j0 k (t146 != bt150.1) (bt150.2.1 == 4) t146 t147 t148 t149 bt150.1 bt150.2.1 bt150.2.2.1 bt150.2.2.2))) = some (r1, r2) := H
 have A4 := Aside0.mk A40
 clear A40
 replace H := Option.bind_eq_some_iff.mp H
 obtain ⟨⟨t150, t151, t152, t153⟩, A50, H⟩ := H
 replace H : (if t147 = 4 then (soft_mul.j0 k (t146 != t150) true t146 t147 t148 t149 t150 t151 t152 t153) else (soft_mul.j0 k (t146 != t150) (t151 == 4) t146 t147 t148 t149 t150 t151 t152 t153)) = some (r1, r2) := H
 have A5 := Aside0.mk A50
 clear A50
 have HC6 := Aside0.mk H
 clear H
 go_enter Tryz.func217, Tryz.ntmps217
 go_upto_region 3 with (first | ((with_reducible refine gate_callee (f := 99) rfl ?_); refine goesL_ (some 12) rfl rfl Tryz.func99 (by kernel_rfl) rfl #[.int .u64 a0] rfl (by (try simp only [List.map_toArray, List.map_cons, List.map_nil]); first | done | rfl | (simp only [List.length_drop, List.length_take]; rfl)) ?_; (with_reducible refine (ieee_Decode.calls a0 t146 t147 t148 t149 _ A4.out).mono ?_); rintro e w7 ⟨rfl, hb⟩; refine ⟨_, rfl, ?_⟩; have n0_ := Aside0.mk (below_step (by repeat (first | exact HB.out | apply below_alloc | apply pw_below_drewN | apply below_drew1)) hb); clear HB; have HB := n0_; clear n0_; (try clear hb); (try clear hb2); (try clear hk); (try clear hi)) | ((with_reducible refine gate_callee (f := 99) rfl ?_); refine goesL_ (some 14) rfl rfl Tryz.func99 (by kernel_rfl) rfl #[.int .u64 a1] rfl (by (try simp only [List.map_toArray, List.map_cons, List.map_nil]); first | done | rfl | (simp only [List.length_drop, List.length_take]; rfl)) ?_; (with_reducible refine (ieee_Decode.calls a1 t150 t151 t152 t153 _ A5.out).mono ?_); rintro e w8 ⟨rfl, hb⟩; refine ⟨_, rfl, ?_⟩; have n0_ := Aside0.mk (below_step (by repeat (first | exact HB.out | apply below_alloc | apply pw_below_drewN | apply below_drew1)) hb); clear HB; have HB := n0_; clear n0_; (try clear hb); (try clear hb2); (try clear hk); (try clear hi)) | ((with_reducible refine gate_dst (N := 8) rfl ?_); refine box_event ?hg (N := 8) ?hd (cs := #[.bool false, .int .i64 0, .int .u64 0, .int .i64 0]) (t := 163) ?hr ?_; (case hd => rfl); (case hg => rfl); (case hr => first | (go_simp; done) | (go_simp; rfl)); intro gb154 hg w9 hbox hb; have n0_ := Aside0.mk (below_step (by repeat (first | exact HB.out | apply below_alloc | apply pw_below_drewN | apply below_drew1)) hb); have n1_ := Aside0.mk (hbox); have n2_ := Aside0.mk ((by rw [hg]; exact (below_size (by repeat (first | exact HB.out | apply below_alloc | apply pw_below_drewN | apply below_drew1))) : w.heap.size ≤ gb154)); have n3_ := Aside0.mk ((by rw [hg]; exact (below_size (by repeat (first | exact HB.out | apply below_alloc | apply pw_below_drewN | apply below_drew1))) : w.heap.size ≤ gb154)); clear HB; have HB := n0_; have BK154 := n1_; have GW154 := n2_; have GE154 := n3_; clear n0_ n1_ n2_ n3_; clear hb hbox hg) | ((with_reducible refine gate_dst (N := 9) rfl ?_); refine box_event ?hg (N := 9) ?hd (cs := #[.bool false, .int .i64 0, .int .u64 0, .int .i64 0]) (t := 163) ?hr ?_; (case hd => rfl); (case hg => rfl); (case hr => first | (go_simp; done) | (go_simp; rfl)); intro gb155 hg w10 hbox hb; have n0_ := Aside0.mk (blk_below (g := gb154) (o := .cells #[.bool false, .int .i64 0, .int .u64 0, .int .i64 0] 163 (0, 0)) (by (with_reducible repeat (first | refine blk_drewN ?_ _ | refine blk_drew ?_ | refine blk_alloc ?_ _)); exact BK154.out) hb); have n1_ := Aside0.mk (below_step (by repeat (first | (with_reducible first | exact HB.out | apply below_alloc | apply pw_below_drewN | apply below_drew1 | refine below_set ?_ GE154.out) | exact HB.out)) hb); have n2_ := Aside0.mk (hbox); have n3_ := Aside0.mk ((by rw [hg]; exact (below_size (by repeat (first | (with_reducible first | exact HB.out | apply below_alloc | apply pw_below_drewN | apply below_drew1 | refine below_set ?_ GE154.out) | exact HB.out))) : w.heap.size ≤ gb155)); have n4_ := Aside0.mk ((by rw [hg]; exact (below_size (by repeat (first | (with_reducible first | exact HB.out | apply below_alloc | apply pw_below_drewN | apply below_drew1 | refine below_set ?_ GE154.out) | exact HB.out))) : w.heap.size ≤ gb155)); have n5_ := Aside0.mk ((by rw [hg]; exact Nat.ne_of_lt (blk_lt (g := gb154) (o := .cells #[.bool false, .int .i64 0, .int .u64 0, .int .i64 0] 163 (0, 0)) (by (with_reducible repeat (first | refine blk_drewN ?_ _ | refine blk_drew ?_ | refine blk_alloc ?_ _)); exact BK154.out)) : gb154 ≠ gb155)); have n6_ := Aside0.mk ((by rw [hg]; exact Nat.ne_of_gt (blk_lt (g := gb154) (o := .cells #[.bool false, .int .i64 0, .int .u64 0, .int .i64 0] 163 (0, 0)) (by (with_reducible repeat (first | refine blk_drewN ?_ _ | refine blk_drew ?_ | refine blk_alloc ?_ _)); exact BK154.out)) : gb155 ≠ gb154)); clear BK154; clear HB; have BK154 := n0_; have HB := n1_; have BK155 := n2_; have GW155 := n3_; have GE155 := n4_; have NB154_155 := n5_; have NB155_154 := n6_; clear n0_ n1_ n2_ n3_ n4_ n5_ n6_; clear hb hbox hg; have hnb11 := NB154_155.out; have hnc11 := NB155_154.out; have hcz12_0 : w10.cell? ⟨gb154, 0, none⟩ = some (.bool false) := (blk_cell BK154.out 0).trans rfl; have hcz12_1 : w10.cell? ⟨gb154, 1, none⟩ = some (.int .i64 0) := (blk_cell BK154.out 1).trans rfl; have hcz12_2 : w10.cell? ⟨gb154, 2, none⟩ = some (.int .u64 0) := (blk_cell BK154.out 2).trans rfl; have hcz12_3 : w10.cell? ⟨gb154, 3, none⟩ = some (.int .i64 0) := (blk_cell BK154.out 3).trans rfl; have hfz12_0 := blk_frozen BK154.out 0; have hfz12_1 := blk_frozen BK154.out 1; have hfz12_2 := blk_frozen BK154.out 2; have hfz12_3 := blk_frozen BK154.out 3; have hcz13_0 : w10.cell? ⟨gb155, 0, none⟩ = some (.bool false) := (blk_cell BK155.out 0).trans rfl; have hcz13_1 : w10.cell? ⟨gb155, 1, none⟩ = some (.int .i64 0) := (blk_cell BK155.out 1).trans rfl; have hcz13_2 : w10.cell? ⟨gb155, 2, none⟩ = some (.int .u64 0) := (blk_cell BK155.out 2).trans rfl; have hcz13_3 : w10.cell? ⟨gb155, 3, none⟩ = some (.int .i64 0) := (blk_cell BK155.out 3).trans rfl; have hfz13_0 := blk_frozen BK155.out 0; have hfz13_1 := blk_frozen BK155.out 1; have hfz13_2 := blk_frozen BK155.out 2; have hfz13_3 := blk_frozen BK155.out 3))
 (try simp only [Act.put, List.setIfInBounds_toArray, List.set_cons_zero, List.set_cons_succ])
 go_cut [20] (fun v20 wc => ∃ (kq : Nat) (x20_5 : Bool), v20 = .bool x20_5 ∧ Aside0 (soft_mul.j0 kq (t146 != t150) x20_5 t146 t147 t148 t149 t150 t151 t152 t153 = some (r1, r2)) ∧ Aside0 (kq ≤ k) ∧ Aside0 (wc.heap[gb154]? = some (.cells #[.bool t146, .int .i64 t147, .int .u64 t148, .int .i64 t149] 163 (0, 0))) ∧ Aside0 (wc.heap[gb155]? = some (.cells #[.bool t150, .int .i64 t151, .int .u64 t152, .int .i64 t153] 163 (0, 0))) ∧ Aside0 (Below w.heap.size w wc))
 case first =>
  have H := HC6.out
  clear HC6
  by_cases c14 : t147 = 4
  ·rw [if_pos c14] at H
   have c14b0 : (t147 == 4) = true := beq_iff_eq.mpr c14
   have c14b1 : (t147 != 4) = false := bne_eq_false_iff_eq.mpr c14
   clear c14
   (first | rw [c14b0] | (simp only [i64_w, i32_w]; rw [c14b0]) | skip)
   have H' := Aside0.mk H
   clear H
   have hnb15 := NB154_155.out
   have hnc15 := NB155_154.out
   have hcz16_0 : w10.cell? ⟨gb154, 0, none⟩ = some (.bool false) := (blk_cell BK154.out 0).trans rfl
   have hcz16_1 : w10.cell? ⟨gb154, 1, none⟩ = some (.int .i64 0) := (blk_cell BK154.out 1).trans rfl
   have hcz16_2 : w10.cell? ⟨gb154, 2, none⟩ = some (.int .u64 0) := (blk_cell BK154.out 2).trans rfl
   have hcz16_3 : w10.cell? ⟨gb154, 3, none⟩ = some (.int .i64 0) := (blk_cell BK154.out 3).trans rfl
   have hfz16_0 := blk_frozen BK154.out 0
   have hfz16_1 := blk_frozen BK154.out 1
   have hfz16_2 := blk_frozen BK154.out 2
   have hfz16_3 := blk_frozen BK154.out 3
   go_wp2
   go_meet
   case rel => exact ⟨_, (true), (by first | rfl | (simp; done) | (simp [*]; done)), H', ⟨by first | omega | exact Nat.le_refl _⟩, ⟨by (with_reducible repeat (first | refine blk_drewN ?_ _ | refine blk_drew ?_ | refine blk_alloc ?_ _)); refine blk_far ?_ NB154_155.out _; (with_reducible repeat (first | refine blk_drewN ?_ _ | refine blk_drew ?_ | refine blk_alloc ?_ _)); refine blk_far ?_ NB154_155.out _; (with_reducible repeat (first | refine blk_drewN ?_ _ | refine blk_drew ?_ | refine blk_alloc ?_ _)); refine blk_far ?_ NB154_155.out _; (with_reducible repeat (first | refine blk_drewN ?_ _ | refine blk_drew ?_ | refine blk_alloc ?_ _)); refine blk_far ?_ NB154_155.out _; (with_reducible repeat (first | refine blk_drewN ?_ _ | refine blk_drew ?_ | refine blk_alloc ?_ _)); refine blk_put (cs := #[.bool t146, .int .i64 t147, .int .u64 t148, .int .i64 0]) ?_ 3 _ rfl; (with_reducible repeat (first | refine blk_drewN ?_ _ | refine blk_drew ?_ | refine blk_alloc ?_ _)); refine blk_put (cs := #[.bool t146, .int .i64 t147, .int .u64 0, .int .i64 0]) ?_ 2 _ rfl; (with_reducible repeat (first | refine blk_drewN ?_ _ | refine blk_drew ?_ | refine blk_alloc ?_ _)); refine blk_put (cs := #[.bool t146, .int .i64 0, .int .u64 0, .int .i64 0]) ?_ 1 _ rfl; (with_reducible repeat (first | refine blk_drewN ?_ _ | refine blk_drew ?_ | refine blk_alloc ?_ _)); refine blk_put (cs := #[.bool false, .int .i64 0, .int .u64 0, .int .i64 0]) ?_ 0 _ rfl; (with_reducible repeat (first | refine blk_drewN ?_ _ | refine blk_drew ?_ | refine blk_alloc ?_ _)); exact BK154.out⟩, ⟨by (with_reducible repeat (first | refine blk_drewN ?_ _ | refine blk_drew ?_ | refine blk_alloc ?_ _)); refine blk_put (cs := #[.bool t150, .int .i64 t151, .int .u64 t152, .int .i64 0]) ?_ 3 _ rfl; (with_reducible repeat (first | refine blk_drewN ?_ _ | refine blk_drew ?_ | refine blk_alloc ?_ _)); refine blk_put (cs := #[.bool t150, .int .i64 t151, .int .u64 0, .int .i64 0]) ?_ 2 _ rfl; (with_reducible repeat (first | refine blk_drewN ?_ _ | refine blk_drew ?_ | refine blk_alloc ?_ _)); refine blk_put (cs := #[.bool t150, .int .i64 0, .int .u64 0, .int .i64 0]) ?_ 1 _ rfl; (with_reducible repeat (first | refine blk_drewN ?_ _ | refine blk_drew ?_ | refine blk_alloc ?_ _)); refine blk_put (cs := #[.bool false, .int .i64 0, .int .u64 0, .int .i64 0]) ?_ 0 _ rfl; (with_reducible repeat (first | refine blk_drewN ?_ _ | refine blk_drew ?_ | refine blk_alloc ?_ _)); refine blk_far ?_ NB155_154.out _; (with_reducible repeat (first | refine blk_drewN ?_ _ | refine blk_drew ?_ | refine blk_alloc ?_ _)); refine blk_far ?_ NB155_154.out _; (with_reducible repeat (first | refine blk_drewN ?_ _ | refine blk_drew ?_ | refine blk_alloc ?_ _)); refine blk_far ?_ NB155_154.out _; (with_reducible repeat (first | refine blk_drewN ?_ _ | refine blk_drew ?_ | refine blk_alloc ?_ _)); refine blk_far ?_ NB155_154.out _; (with_reducible repeat (first | refine blk_drewN ?_ _ | refine blk_drew ?_ | refine blk_alloc ?_ _)); exact BK155.out⟩, ⟨by repeat (first | (with_reducible first | exact HB.out | apply below_alloc | apply pw_below_drewN | apply below_drew1 | refine below_set ?_ GE154.out | refine below_set ?_ GE155.out) | exact HB.out)⟩⟩
  ·rw [if_neg c14] at H
   have c14b0 : (t147 == 4) = false := beq_eq_false_iff_ne.mpr c14
   have c14b1 : (t147 != 4) = true := bne_iff_ne.mpr c14
   (first | rw [c14b0] | (simp only [i64_w, i32_w]; rw [c14b0]) | skip)
   have H' := Aside0.mk H
   clear H
   have hnb17 := NB154_155.out
   have hnc17 := NB155_154.out
   have hcz18_0 : w10.cell? ⟨gb154, 0, none⟩ = some (.bool false) := (blk_cell BK154.out 0).trans rfl
   have hcz18_1 : w10.cell? ⟨gb154, 1, none⟩ = some (.int .i64 0) := (blk_cell BK154.out 1).trans rfl
   have hcz18_2 : w10.cell? ⟨gb154, 2, none⟩ = some (.int .u64 0) := (blk_cell BK154.out 2).trans rfl
   have hcz18_3 : w10.cell? ⟨gb154, 3, none⟩ = some (.int .i64 0) := (blk_cell BK154.out 3).trans rfl
   have hfz18_0 := blk_frozen BK154.out 0
   have hfz18_1 := blk_frozen BK154.out 1
   have hfz18_2 := blk_frozen BK154.out 2
   have hfz18_3 := blk_frozen BK154.out 3
   have hcz19_0 : w10.cell? ⟨gb155, 0, none⟩ = some (.bool false) := (blk_cell BK155.out 0).trans rfl
   have hcz19_1 : w10.cell? ⟨gb155, 1, none⟩ = some (.int .i64 0) := (blk_cell BK155.out 1).trans rfl
   have hcz19_2 : w10.cell? ⟨gb155, 2, none⟩ = some (.int .u64 0) := (blk_cell BK155.out 2).trans rfl
   have hcz19_3 : w10.cell? ⟨gb155, 3, none⟩ = some (.int .i64 0) := (blk_cell BK155.out 3).trans rfl
   have hfz19_0 := blk_frozen BK155.out 0
   have hfz19_1 := blk_frozen BK155.out 1
   have hfz19_2 := blk_frozen BK155.out 2
   have hfz19_3 := blk_frozen BK155.out 3
   go_wp2
   go_meet
   case rel => exact ⟨_, ((t151 == 4)), (by first | rfl | (simp; done) | (simp [*]; done)), H', ⟨by first | omega | exact Nat.le_refl _⟩, ⟨by (with_reducible repeat (first | refine blk_drewN ?_ _ | refine blk_drew ?_ | refine blk_alloc ?_ _)); refine blk_far ?_ NB154_155.out _; (with_reducible repeat (first | refine blk_drewN ?_ _ | refine blk_drew ?_ | refine blk_alloc ?_ _)); refine blk_far ?_ NB154_155.out _; (with_reducible repeat (first | refine blk_drewN ?_ _ | refine blk_drew ?_ | refine blk_alloc ?_ _)); refine blk_far ?_ NB154_155.out _; (with_reducible repeat (first | refine blk_drewN ?_ _ | refine blk_drew ?_ | refine blk_alloc ?_ _)); refine blk_far ?_ NB154_155.out _; (with_reducible repeat (first | refine blk_drewN ?_ _ | refine blk_drew ?_ | refine blk_alloc ?_ _)); refine blk_put (cs := #[.bool t146, .int .i64 t147, .int .u64 t148, .int .i64 0]) ?_ 3 _ rfl; (with_reducible repeat (first | refine blk_drewN ?_ _ | refine blk_drew ?_ | refine blk_alloc ?_ _)); refine blk_put (cs := #[.bool t146, .int .i64 t147, .int .u64 0, .int .i64 0]) ?_ 2 _ rfl; (with_reducible repeat (first | refine blk_drewN ?_ _ | refine blk_drew ?_ | refine blk_alloc ?_ _)); refine blk_put (cs := #[.bool t146, .int .i64 0, .int .u64 0, .int .i64 0]) ?_ 1 _ rfl; (with_reducible repeat (first | refine blk_drewN ?_ _ | refine blk_drew ?_ | refine blk_alloc ?_ _)); refine blk_put (cs := #[.bool false, .int .i64 0, .int .u64 0, .int .i64 0]) ?_ 0 _ rfl; (with_reducible repeat (first | refine blk_drewN ?_ _ | refine blk_drew ?_ | refine blk_alloc ?_ _)); exact BK154.out⟩, ⟨by (with_reducible repeat (first | refine blk_drewN ?_ _ | refine blk_drew ?_ | refine blk_alloc ?_ _)); refine blk_put (cs := #[.bool t150, .int .i64 t151, .int .u64 t152, .int .i64 0]) ?_ 3 _ rfl; (with_reducible repeat (first | refine blk_drewN ?_ _ | refine blk_drew ?_ | refine blk_alloc ?_ _)); refine blk_put (cs := #[.bool t150, .int .i64 t151, .int .u64 0, .int .i64 0]) ?_ 2 _ rfl; (with_reducible repeat (first | refine blk_drewN ?_ _ | refine blk_drew ?_ | refine blk_alloc ?_ _)); refine blk_put (cs := #[.bool t150, .int .i64 0, .int .u64 0, .int .i64 0]) ?_ 1 _ rfl; (with_reducible repeat (first | refine blk_drewN ?_ _ | refine blk_drew ?_ | refine blk_alloc ?_ _)); refine blk_put (cs := #[.bool false, .int .i64 0, .int .u64 0, .int .i64 0]) ?_ 0 _ rfl; (with_reducible repeat (first | refine blk_drewN ?_ _ | refine blk_drew ?_ | refine blk_alloc ?_ _)); refine blk_far ?_ NB155_154.out _; (with_reducible repeat (first | refine blk_drewN ?_ _ | refine blk_drew ?_ | refine blk_alloc ?_ _)); refine blk_far ?_ NB155_154.out _; (with_reducible repeat (first | refine blk_drewN ?_ _ | refine blk_drew ?_ | refine blk_alloc ?_ _)); refine blk_far ?_ NB155_154.out _; (with_reducible repeat (first | refine blk_drewN ?_ _ | refine blk_drew ?_ | refine blk_alloc ?_ _)); refine blk_far ?_ NB155_154.out _; (with_reducible repeat (first | refine blk_drewN ?_ _ | refine blk_drew ?_ | refine blk_alloc ?_ _)); exact BK155.out⟩, ⟨by repeat (first | (with_reducible first | exact HB.out | apply below_alloc | apply pw_below_drewN | apply below_drew1 | refine below_set ?_ GE154.out | refine below_set ?_ GE155.out) | exact HB.out)⟩⟩
 case rest =>
  clear HC6
  try clear c1
  try clear c2
  try clear p2
  try clear c9
  try clear c11
  try clear c14
  try clear c14b0
  try clear c14b1
  try clear c15
  try clear c17
  try clear hcz12_0
  try clear hcz12_1
  try clear hcz12_2
  try clear hcz12_3
  try clear hcz13_0
  try clear hcz13_1
  try clear hcz13_2
  try clear hcz13_3
  try clear hcz16_0
  try clear hcz16_1
  try clear hcz16_2
  try clear hcz16_3
  try clear hcz18_0
  try clear hcz18_1
  try clear hcz18_2
  try clear hcz18_3
  try clear hcz19_0
  try clear hcz19_1
  try clear hcz19_2
  try clear hcz19_3
  try clear hfz12_0
  try clear hfz12_1
  try clear hfz12_2
  try clear hfz12_3
  try clear hfz13_0
  try clear hfz13_1
  try clear hfz13_2
  try clear hfz13_3
  try clear hfz16_0
  try clear hfz16_1
  try clear hfz16_2
  try clear hfz16_3
  try clear hfz18_0
  try clear hfz18_1
  try clear hfz18_2
  try clear hfz18_3
  try clear hfz19_0
  try clear hfz19_1
  try clear hfz19_2
  try clear hfz19_3
  obtain ⟨kq, x20_5, rfl, HA, HJ5, BK154, BK155, HB⟩ := hcut
  cases kq with
  | zero => exact absurd HA.out (by simp [soft_mul.j0])
  | succ kj5 =>
   have H := HA.out
   clear HA
   simp only [soft_mul.j0] at H
   by_cases c20 : x20_5 = true
   ·subst c20
    have H1 : (some (9221120237041090560, 0)) = some (r1, r2) := by rw [if_pos rfl] at H; exact H
    clear H
    have H := H1
    clear H1
    simp only [Option.some.injEq, Prod.mk.injEq] at H
    obtain ⟨rfl, rfl⟩ := H
    go_wp2
    go_ret2
    exact ⟨by first | rfl | (simp [errW_none, errW_some] <;> rfl) | (simp [*, errW_none, errW_some] <;> rfl), by repeat (first | (with_reducible first | exact HB.out | apply below_alloc | apply pw_below_drewN | apply below_drew1 | refine below_set ?_ GE154.out | refine below_set ?_ GE155.out) | exact HB.out)⟩
   ·replace c20 := Bool.eq_false_iff.mpr c20
    subst c20
    have H1 : (if t147 = 3 then (soft_mul.j1 kj5 (t146 != t150) (t151 == 0) t146 t147 t148 t149 t150 t151 t152 t153) else (soft_mul.j1 kj5 (t146 != t150) false t146 t147 t148 t149 t150 t151 t152 t153)) = some (r1, r2) := by rw [if_neg (show ¬ (false = true) by decide)] at H; exact H
    clear H
    have H := H1
    clear H1
    have HC21 := Aside0.mk H
    clear H
    go_upto_region 5 with (fail)
    go_cut [29] (fun v29 wc => ∃ (kq : Nat) (x29_20 : Bool), v29 = .bool x29_20 ∧ Aside0 (soft_mul.j1 kq (t146 != t150) x29_20 t146 t147 t148 t149 t150 t151 t152 t153 = some (r1, r2)) ∧ Aside0 (kq ≤ kj5) ∧ Aside0 (wc.heap[gb154]? = some (.cells #[.bool t146, .int .i64 t147, .int .u64 t148, .int .i64 t149] 163 (0, 0))) ∧ Aside0 (wc.heap[gb155]? = some (.cells #[.bool t150, .int .i64 t151, .int .u64 t152, .int .i64 t153] 163 (0, 0))) ∧ Aside0 (Below w.heap.size w wc))
    case first =>
     have H := HC21.out
     clear HC21
     by_cases c22 : t147 = 3
     ·rw [if_pos c22] at H
      have c22b0 : (t147 == 3) = true := beq_iff_eq.mpr c22
      have c22b1 : (t147 != 3) = false := bne_eq_false_iff_eq.mpr c22
      clear c22
      (first | rw [c22b0] | (simp only [i64_w, i32_w]; rw [c22b0]) | skip)
      have H' := Aside0.mk H
      clear H
      have hnb23 := NB154_155.out
      have hnc23 := NB155_154.out
      have hcz24_0 : wc.cell? ⟨gb154, 0, none⟩ = some (.bool t146) := (blk_cell BK154.out 0).trans rfl
      have hcz24_1 : wc.cell? ⟨gb154, 1, none⟩ = some (.int .i64 t147) := (blk_cell BK154.out 1).trans rfl
      have hcz24_2 : wc.cell? ⟨gb154, 2, none⟩ = some (.int .u64 t148) := (blk_cell BK154.out 2).trans rfl
      have hcz24_3 : wc.cell? ⟨gb154, 3, none⟩ = some (.int .i64 t149) := (blk_cell BK154.out 3).trans rfl
      have hfz24_0 := blk_frozen BK154.out 0
      have hfz24_1 := blk_frozen BK154.out 1
      have hfz24_2 := blk_frozen BK154.out 2
      have hfz24_3 := blk_frozen BK154.out 3
      have hcz25_0 : wc.cell? ⟨gb155, 0, none⟩ = some (.bool t150) := (blk_cell BK155.out 0).trans rfl
      have hcz25_1 : wc.cell? ⟨gb155, 1, none⟩ = some (.int .i64 t151) := (blk_cell BK155.out 1).trans rfl
      have hcz25_2 : wc.cell? ⟨gb155, 2, none⟩ = some (.int .u64 t152) := (blk_cell BK155.out 2).trans rfl
      have hcz25_3 : wc.cell? ⟨gb155, 3, none⟩ = some (.int .i64 t153) := (blk_cell BK155.out 3).trans rfl
      have hfz25_0 := blk_frozen BK155.out 0
      have hfz25_1 := blk_frozen BK155.out 1
      have hfz25_2 := blk_frozen BK155.out 2
      have hfz25_3 := blk_frozen BK155.out 3
      go_wp2
      go_meet
      case rel => exact ⟨_, ((t151 == 0)), (by first | rfl | (simp; done) | (simp [*]; done)), H', ⟨by have := HJ5.out; first | omega | exact Nat.le_refl _⟩, ⟨by (with_reducible repeat (first | refine blk_drewN ?_ _ | refine blk_drew ?_ | refine blk_alloc ?_ _)); exact BK154.out⟩, ⟨by (with_reducible repeat (first | refine blk_drewN ?_ _ | refine blk_drew ?_ | refine blk_alloc ?_ _)); exact BK155.out⟩, ⟨by repeat (first | (with_reducible first | exact HB.out | apply below_alloc | apply pw_below_drewN | apply below_drew1 | refine below_set ?_ GE154.out | refine below_set ?_ GE155.out) | exact HB.out)⟩⟩
     ·rw [if_neg c22] at H
      have c22b0 : (t147 == 3) = false := beq_eq_false_iff_ne.mpr c22
      have c22b1 : (t147 != 3) = true := bne_iff_ne.mpr c22
      (first | rw [c22b0] | (simp only [i64_w, i32_w]; rw [c22b0]) | skip)
      have H' := Aside0.mk H
      clear H
      have hnb26 := NB154_155.out
      have hnc26 := NB155_154.out
      have hcz27_0 : wc.cell? ⟨gb154, 0, none⟩ = some (.bool t146) := (blk_cell BK154.out 0).trans rfl
      have hcz27_1 : wc.cell? ⟨gb154, 1, none⟩ = some (.int .i64 t147) := (blk_cell BK154.out 1).trans rfl
      have hcz27_2 : wc.cell? ⟨gb154, 2, none⟩ = some (.int .u64 t148) := (blk_cell BK154.out 2).trans rfl
      have hcz27_3 : wc.cell? ⟨gb154, 3, none⟩ = some (.int .i64 t149) := (blk_cell BK154.out 3).trans rfl
      have hfz27_0 := blk_frozen BK154.out 0
      have hfz27_1 := blk_frozen BK154.out 1
      have hfz27_2 := blk_frozen BK154.out 2
      have hfz27_3 := blk_frozen BK154.out 3
      go_wp2
      go_meet
      case rel => exact ⟨_, (false), (by first | rfl | (simp; done) | (simp [*]; done)), H', ⟨by have := HJ5.out; first | omega | exact Nat.le_refl _⟩, ⟨by (with_reducible repeat (first | refine blk_drewN ?_ _ | refine blk_drew ?_ | refine blk_alloc ?_ _)); exact BK154.out⟩, ⟨by (with_reducible repeat (first | refine blk_drewN ?_ _ | refine blk_drew ?_ | refine blk_alloc ?_ _)); exact BK155.out⟩, ⟨by repeat (first | (with_reducible first | exact HB.out | apply below_alloc | apply pw_below_drewN | apply below_drew1 | refine below_set ?_ GE154.out | refine below_set ?_ GE155.out) | exact HB.out)⟩⟩
    case rest =>
     clear HC21
     try clear c1
     try clear c2
     try clear p2
     try clear c9
     try clear c11
     try clear c14
     try clear c14b0
     try clear c14b1
     try clear c15
     try clear c17
     try clear c20
     try clear c21
     try clear c22
     try clear c22b0
     try clear c22b1
     try clear c23
     try clear c26
     try clear hcz12_0
     try clear hcz12_1
     try clear hcz12_2
     try clear hcz12_3
     try clear hcz13_0
     try clear hcz13_1
     try clear hcz13_2
     try clear hcz13_3
     try clear hcz16_0
     try clear hcz16_1
     try clear hcz16_2
     try clear hcz16_3
     try clear hcz18_0
     try clear hcz18_1
     try clear hcz18_2
     try clear hcz18_3
     try clear hcz19_0
     try clear hcz19_1
     try clear hcz19_2
     try clear hcz19_3
     try clear hcz24_0
     try clear hcz24_1
     try clear hcz24_2
     try clear hcz24_3
     try clear hcz25_0
     try clear hcz25_1
     try clear hcz25_2
     try clear hcz25_3
     try clear hcz27_0
     try clear hcz27_1
     try clear hcz27_2
     try clear hcz27_3
     try clear hfz12_0
     try clear hfz12_1
     try clear hfz12_2
     try clear hfz12_3
     try clear hfz13_0
     try clear hfz13_1
     try clear hfz13_2
     try clear hfz13_3
     try clear hfz16_0
     try clear hfz16_1
     try clear hfz16_2
     try clear hfz16_3
     try clear hfz18_0
     try clear hfz18_1
     try clear hfz18_2
     try clear hfz18_3
     try clear hfz19_0
     try clear hfz19_1
     try clear hfz19_2
     try clear hfz19_3
     try clear hfz24_0
     try clear hfz24_1
     try clear hfz24_2
     try clear hfz24_3
     try clear hfz25_0
     try clear hfz25_1
     try clear hfz25_2
     try clear hfz25_3
     try clear hfz27_0
     try clear hfz27_1
     try clear hfz27_2
     try clear hfz27_3
     try clear p2
     obtain ⟨kq, x29_20, rfl, HA, HJ20, BK154, BK155, HB⟩ := hcut
     cases kq with
     | zero => exact absurd HA.out (by simp [soft_mul.j1])
     | succ kj20 =>
      have H := HA.out
      clear HA
      simp only [soft_mul.j1] at H
      have HC28 := Aside0.mk H
      clear H
      go_upto_if 29 with (fail)
      go_cut [29] (fun v29 wc => ∃ (kq : Nat) (x29_27 : Bool), v29 = .bool x29_27 ∧ Aside0 (soft_mul.j2 kq (t146 != t150) x29_27 t146 t147 t148 t149 t150 t151 t152 t153 = some (r1, r2)) ∧ Aside0 (kq ≤ kj20) ∧ Aside0 (wc.heap[gb154]? = some (.cells #[.bool t146, .int .i64 t147, .int .u64 t148, .int .i64 t149] 163 (0, 0))) ∧ Aside0 (wc.heap[gb155]? = some (.cells #[.bool t150, .int .i64 t151, .int .u64 t152, .int .i64 t153] 163 (0, 0))) ∧ Aside0 (Below w.heap.size w wc))
      case first =>
       have H := HC28.out
       clear HC28
       by_cases c29 : x29_20 = true
       ·subst c29
        have H1 : (soft_mul.j2 kj20 (t146 != t150) true t146 t147 t148 t149 t150 t151 t152 t153) = some (r1, r2) := by rw [if_pos rfl] at H; exact H
        clear H
        have H := H1
        clear H1
        have H' := Aside0.mk H
        clear H
        go_wp2
        go_meet
        case rel => exact ⟨_, (true), (by first | rfl | (simp; done) | (simp [*]; done)), H', ⟨by have := HJ5.out; have := HJ20.out; first | omega | exact Nat.le_refl _⟩, ⟨by (with_reducible repeat (first | refine blk_drewN ?_ _ | refine blk_drew ?_ | refine blk_alloc ?_ _)); exact BK154.out⟩, ⟨by (with_reducible repeat (first | refine blk_drewN ?_ _ | refine blk_drew ?_ | refine blk_alloc ?_ _)); exact BK155.out⟩, ⟨by repeat (first | (with_reducible first | exact HB.out | apply below_alloc | apply pw_below_drewN | apply below_drew1 | refine below_set ?_ GE154.out | refine below_set ?_ GE155.out) | exact HB.out)⟩⟩
       ·replace c29 := Bool.eq_false_iff.mpr c29
        subst c29
        have H1 : (if t147 = 0 then (soft_mul.j2 kj20 (t146 != t150) (t151 == 3) t146 t147 t148 t149 t150 t151 t152 t153) else (soft_mul.j2 kj20 (t146 != t150) false t146 t147 t148 t149 t150 t151 t152 t153)) = some (r1, r2) := by rw [if_neg (show ¬ (false = true) by decide)] at H; exact H
        clear H
        have H := H1
        clear H1
        by_cases c30 : t147 = 0
        ·rw [if_pos c30] at H
         have c30b0 : (t147 == 0) = true := beq_iff_eq.mpr c30
         have c30b1 : (t147 != 0) = false := bne_eq_false_iff_eq.mpr c30
         clear c30
         (first | rw [c30b0] | (simp only [i64_w, i32_w]; rw [c30b0]) | skip)
         have H' := Aside0.mk H
         clear H
         have hnb31 := NB154_155.out
         have hnc31 := NB155_154.out
         have hcz32_0 : wc.cell? ⟨gb154, 0, none⟩ = some (.bool t146) := (blk_cell BK154.out 0).trans rfl
         have hcz32_1 : wc.cell? ⟨gb154, 1, none⟩ = some (.int .i64 t147) := (blk_cell BK154.out 1).trans rfl
         have hcz32_2 : wc.cell? ⟨gb154, 2, none⟩ = some (.int .u64 t148) := (blk_cell BK154.out 2).trans rfl
         have hcz32_3 : wc.cell? ⟨gb154, 3, none⟩ = some (.int .i64 t149) := (blk_cell BK154.out 3).trans rfl
         have hfz32_0 := blk_frozen BK154.out 0
         have hfz32_1 := blk_frozen BK154.out 1
         have hfz32_2 := blk_frozen BK154.out 2
         have hfz32_3 := blk_frozen BK154.out 3
         have hcz33_0 : wc.cell? ⟨gb155, 0, none⟩ = some (.bool t150) := (blk_cell BK155.out 0).trans rfl
         have hcz33_1 : wc.cell? ⟨gb155, 1, none⟩ = some (.int .i64 t151) := (blk_cell BK155.out 1).trans rfl
         have hcz33_2 : wc.cell? ⟨gb155, 2, none⟩ = some (.int .u64 t152) := (blk_cell BK155.out 2).trans rfl
         have hcz33_3 : wc.cell? ⟨gb155, 3, none⟩ = some (.int .i64 t153) := (blk_cell BK155.out 3).trans rfl
         have hfz33_0 := blk_frozen BK155.out 0
         have hfz33_1 := blk_frozen BK155.out 1
         have hfz33_2 := blk_frozen BK155.out 2
         have hfz33_3 := blk_frozen BK155.out 3
         go_wp2
         go_meet
         case rel => exact ⟨_, ((t151 == 3)), (by first | rfl | (simp; done) | (simp [*]; done)), H', ⟨by have := HJ5.out; have := HJ20.out; first | omega | exact Nat.le_refl _⟩, ⟨by (with_reducible repeat (first | refine blk_drewN ?_ _ | refine blk_drew ?_ | refine blk_alloc ?_ _)); exact BK154.out⟩, ⟨by (with_reducible repeat (first | refine blk_drewN ?_ _ | refine blk_drew ?_ | refine blk_alloc ?_ _)); exact BK155.out⟩, ⟨by repeat (first | (with_reducible first | exact HB.out | apply below_alloc | apply pw_below_drewN | apply below_drew1 | refine below_set ?_ GE154.out | refine below_set ?_ GE155.out) | exact HB.out)⟩⟩
        ·rw [if_neg c30] at H
         have c30b0 : (t147 == 0) = false := beq_eq_false_iff_ne.mpr c30
         have c30b1 : (t147 != 0) = true := bne_iff_ne.mpr c30
         (first | rw [c30b0] | (simp only [i64_w, i32_w]; rw [c30b0]) | skip)
         have H' := Aside0.mk H
         clear H
         have hnb34 := NB154_155.out
         have hnc34 := NB155_154.out
         have hcz35_0 : wc.cell? ⟨gb154, 0, none⟩ = some (.bool t146) := (blk_cell BK154.out 0).trans rfl
         have hcz35_1 : wc.cell? ⟨gb154, 1, none⟩ = some (.int .i64 t147) := (blk_cell BK154.out 1).trans rfl
         have hcz35_2 : wc.cell? ⟨gb154, 2, none⟩ = some (.int .u64 t148) := (blk_cell BK154.out 2).trans rfl
         have hcz35_3 : wc.cell? ⟨gb154, 3, none⟩ = some (.int .i64 t149) := (blk_cell BK154.out 3).trans rfl
         have hfz35_0 := blk_frozen BK154.out 0
         have hfz35_1 := blk_frozen BK154.out 1
         have hfz35_2 := blk_frozen BK154.out 2
         have hfz35_3 := blk_frozen BK154.out 3
         go_wp2
         go_meet
         case rel => exact ⟨_, (false), (by first | rfl | (simp; done) | (simp [*]; done)), H', ⟨by have := HJ5.out; have := HJ20.out; first | omega | exact Nat.le_refl _⟩, ⟨by (with_reducible repeat (first | refine blk_drewN ?_ _ | refine blk_drew ?_ | refine blk_alloc ?_ _)); exact BK154.out⟩, ⟨by (with_reducible repeat (first | refine blk_drewN ?_ _ | refine blk_drew ?_ | refine blk_alloc ?_ _)); exact BK155.out⟩, ⟨by repeat (first | (with_reducible first | exact HB.out | apply below_alloc | apply pw_below_drewN | apply below_drew1 | refine below_set ?_ GE154.out | refine below_set ?_ GE155.out) | exact HB.out)⟩⟩
      case rest =>
       clear HC28
       try clear c1
       try clear c2
       try clear p2
       try clear c3
       try clear c9
       try clear c11
       try clear c14
       try clear c14b0
       try clear c14b1
       try clear c15
       try clear c17
       try clear c20
       try clear c21
       try clear c22
       try clear c22b0
       try clear c22b1
       try clear c23
       try clear c26
       try clear c29
       try clear c30
       try clear c30b0
       try clear c30b1
       try clear c31
       try clear c34
       try clear hcz12_0
       try clear hcz12_1
       try clear hcz12_2
       try clear hcz12_3
       try clear hcz13_0
       try clear hcz13_1
       try clear hcz13_2
       try clear hcz13_3
       try clear hcz16_0
       try clear hcz16_1
       try clear hcz16_2
       try clear hcz16_3
       try clear hcz18_0
       try clear hcz18_1
       try clear hcz18_2
       try clear hcz18_3
       try clear hcz19_0
       try clear hcz19_1
       try clear hcz19_2
       try clear hcz19_3
       try clear hcz24_0
       try clear hcz24_1
       try clear hcz24_2
       try clear hcz24_3
       try clear hcz25_0
       try clear hcz25_1
       try clear hcz25_2
       try clear hcz25_3
       try clear hcz27_0
       try clear hcz27_1
       try clear hcz27_2
       try clear hcz27_3
       try clear hcz32_0
       try clear hcz32_1
       try clear hcz32_2
       try clear hcz32_3
       try clear hcz33_0
       try clear hcz33_1
       try clear hcz33_2
       try clear hcz33_3
       try clear hcz35_0
       try clear hcz35_1
       try clear hcz35_2
       try clear hcz35_3
       try clear hfz12_0
       try clear hfz12_1
       try clear hfz12_2
       try clear hfz12_3
       try clear hfz13_0
       try clear hfz13_1
       try clear hfz13_2
       try clear hfz13_3
       try clear hfz16_0
       try clear hfz16_1
       try clear hfz16_2
       try clear hfz16_3
       try clear hfz18_0
       try clear hfz18_1
       try clear hfz18_2
       try clear hfz18_3
       try clear hfz19_0
       try clear hfz19_1
       try clear hfz19_2
       try clear hfz19_3
       try clear hfz24_0
       try clear hfz24_1
       try clear hfz24_2
       try clear hfz24_3
       try clear hfz25_0
       try clear hfz25_1
       try clear hfz25_2
       try clear hfz25_3
       try clear hfz27_0
       try clear hfz27_1
       try clear hfz27_2
       try clear hfz27_3
       try clear hfz32_0
       try clear hfz32_1
       try clear hfz32_2
       try clear hfz32_3
       try clear hfz33_0
       try clear hfz33_1
       try clear hfz33_2
       try clear hfz33_3
       try clear hfz35_0
       try clear hfz35_1
       try clear hfz35_2
       try clear hfz35_3
       try clear p2
       obtain ⟨kq, x29_27, rfl, HA, HJ27, BK154, BK155, HB⟩ := hcut
       cases kq with
       | zero => exact absurd HA.out (by simp [soft_mul.j2])
       | succ kj27 =>
        have H := HA.out
        clear HA
        simp only [soft_mul.j2] at H
        by_cases c36 : x29_27 = true
        ·subst c36
         have H1 : ((soft_invalid.f).bind fun bt156 => (some (bt156.1, bt156.2))) = some (r1, r2) := by rw [if_pos rfl] at H; exact H
         clear H
         have H := H1
         clear H1
         replace H := Option.bind_eq_some_iff.mp H
         obtain ⟨⟨t156, t157⟩, A370, H⟩ := H
         replace H : (some (t156, t157)) = some (r1, r2) := H
         have A37 := Aside0.mk A370
         clear A370
         simp only [Option.some.injEq, Prod.mk.injEq] at H
         obtain ⟨rfl, rfl⟩ := H
         go_wp2_with (first | ((with_reducible refine gate_callee (f := 224) rfl ?_); refine goesL_ (some 46) rfl rfl Tryz.func224 (by kernel_rfl) rfl #[] rfl (by (try simp only [List.map_toArray, List.map_cons, List.map_nil]); first | done | rfl | (simp only [List.length_drop, List.length_take]; rfl)) ?_; (with_reducible refine (soft_invalid.calls  t156 t157 _ A37.out).mono ?_); rintro e w' ⟨rfl, ⟨nd, rfl⟩⟩; refine ⟨_, rfl, ?_⟩))
         go_ret2
         exact ⟨by first | rfl | (simp [errW_none, errW_some] <;> rfl) | (simp [*, errW_none, errW_some] <;> rfl), by repeat (first | (with_reducible first | exact HB.out | apply below_alloc | apply pw_below_drewN | apply below_drew1 | refine below_set ?_ GE154.out | refine below_set ?_ GE155.out) | exact HB.out)⟩
        ·replace c36 := Bool.eq_false_iff.mpr c36
         subst c36
         have H1 : (if t147 = 3 then (soft_mul.j3 kj27 (t146 != t150) true t146 t147 t148 t149 t150 t151 t152 t153) else (soft_mul.j3 kj27 (t146 != t150) (t151 == 3) t146 t147 t148 t149 t150 t151 t152 t153)) = some (r1, r2) := by rw [if_neg (show ¬ (false = true) by decide)] at H; exact H
         clear H
         have H := H1
         clear H1
         have HC38 := Aside0.mk H
         clear H
         go_upto_region 8 with (fail)
         go_cut [49] (fun v49 wc => ∃ (kq : Nat) (x49_37 : Bool), v49 = .bool x49_37 ∧ Aside0 (soft_mul.j3 kq (t146 != t150) x49_37 t146 t147 t148 t149 t150 t151 t152 t153 = some (r1, r2)) ∧ Aside0 (kq ≤ kj27) ∧ Aside0 (wc.heap[gb154]? = some (.cells #[.bool t146, .int .i64 t147, .int .u64 t148, .int .i64 t149] 163 (0, 0))) ∧ Aside0 (wc.heap[gb155]? = some (.cells #[.bool t150, .int .i64 t151, .int .u64 t152, .int .i64 t153] 163 (0, 0))) ∧ Aside0 (Below w.heap.size w wc))
         case first =>
          have H := HC38.out
          clear HC38
          by_cases c39 : t147 = 3
          ·rw [if_pos c39] at H
           have c39b0 : (t147 == 3) = true := beq_iff_eq.mpr c39
           have c39b1 : (t147 != 3) = false := bne_eq_false_iff_eq.mpr c39
           clear c39
           (first | rw [c39b0] | (simp only [i64_w, i32_w]; rw [c39b0]) | skip)
           have H' := Aside0.mk H
           clear H
           have hnb40 := NB154_155.out
           have hnc40 := NB155_154.out
           have hcz41_0 : wc.cell? ⟨gb154, 0, none⟩ = some (.bool t146) := (blk_cell BK154.out 0).trans rfl
           have hcz41_1 : wc.cell? ⟨gb154, 1, none⟩ = some (.int .i64 t147) := (blk_cell BK154.out 1).trans rfl
           have hcz41_2 : wc.cell? ⟨gb154, 2, none⟩ = some (.int .u64 t148) := (blk_cell BK154.out 2).trans rfl
           have hcz41_3 : wc.cell? ⟨gb154, 3, none⟩ = some (.int .i64 t149) := (blk_cell BK154.out 3).trans rfl
           have hfz41_0 := blk_frozen BK154.out 0
           have hfz41_1 := blk_frozen BK154.out 1
           have hfz41_2 := blk_frozen BK154.out 2
           have hfz41_3 := blk_frozen BK154.out 3
           go_wp2
           go_meet
           case rel => exact ⟨_, (true), (by first | rfl | (simp; done) | (simp [*]; done)), H', ⟨by have := HJ5.out; have := HJ20.out; have := HJ27.out; first | omega | exact Nat.le_refl _⟩, ⟨by (with_reducible repeat (first | refine blk_drewN ?_ _ | refine blk_drew ?_ | refine blk_alloc ?_ _)); exact BK154.out⟩, ⟨by (with_reducible repeat (first | refine blk_drewN ?_ _ | refine blk_drew ?_ | refine blk_alloc ?_ _)); exact BK155.out⟩, ⟨by repeat (first | (with_reducible first | exact HB.out | apply below_alloc | apply pw_below_drewN | apply below_drew1 | refine below_set ?_ GE154.out | refine below_set ?_ GE155.out) | exact HB.out)⟩⟩
          ·rw [if_neg c39] at H
           have c39b0 : (t147 == 3) = false := beq_eq_false_iff_ne.mpr c39
           have c39b1 : (t147 != 3) = true := bne_iff_ne.mpr c39
           (first | rw [c39b0] | (simp only [i64_w, i32_w]; rw [c39b0]) | skip)
           have H' := Aside0.mk H
           clear H
           have hnb42 := NB154_155.out
           have hnc42 := NB155_154.out
           have hcz43_0 : wc.cell? ⟨gb154, 0, none⟩ = some (.bool t146) := (blk_cell BK154.out 0).trans rfl
           have hcz43_1 : wc.cell? ⟨gb154, 1, none⟩ = some (.int .i64 t147) := (blk_cell BK154.out 1).trans rfl
           have hcz43_2 : wc.cell? ⟨gb154, 2, none⟩ = some (.int .u64 t148) := (blk_cell BK154.out 2).trans rfl
           have hcz43_3 : wc.cell? ⟨gb154, 3, none⟩ = some (.int .i64 t149) := (blk_cell BK154.out 3).trans rfl
           have hfz43_0 := blk_frozen BK154.out 0
           have hfz43_1 := blk_frozen BK154.out 1
           have hfz43_2 := blk_frozen BK154.out 2
           have hfz43_3 := blk_frozen BK154.out 3
           have hcz44_0 : wc.cell? ⟨gb155, 0, none⟩ = some (.bool t150) := (blk_cell BK155.out 0).trans rfl
           have hcz44_1 : wc.cell? ⟨gb155, 1, none⟩ = some (.int .i64 t151) := (blk_cell BK155.out 1).trans rfl
           have hcz44_2 : wc.cell? ⟨gb155, 2, none⟩ = some (.int .u64 t152) := (blk_cell BK155.out 2).trans rfl
           have hcz44_3 : wc.cell? ⟨gb155, 3, none⟩ = some (.int .i64 t153) := (blk_cell BK155.out 3).trans rfl
           have hfz44_0 := blk_frozen BK155.out 0
           have hfz44_1 := blk_frozen BK155.out 1
           have hfz44_2 := blk_frozen BK155.out 2
           have hfz44_3 := blk_frozen BK155.out 3
           go_wp2
           go_meet
           case rel => exact ⟨_, ((t151 == 3)), (by first | rfl | (simp; done) | (simp [*]; done)), H', ⟨by have := HJ5.out; have := HJ20.out; have := HJ27.out; first | omega | exact Nat.le_refl _⟩, ⟨by (with_reducible repeat (first | refine blk_drewN ?_ _ | refine blk_drew ?_ | refine blk_alloc ?_ _)); exact BK154.out⟩, ⟨by (with_reducible repeat (first | refine blk_drewN ?_ _ | refine blk_drew ?_ | refine blk_alloc ?_ _)); exact BK155.out⟩, ⟨by repeat (first | (with_reducible first | exact HB.out | apply below_alloc | apply pw_below_drewN | apply below_drew1 | refine below_set ?_ GE154.out | refine below_set ?_ GE155.out) | exact HB.out)⟩⟩
         case rest =>
          clear HC38
          try clear c1
          try clear c2
          try clear p2
          try clear c3
          try clear c4
          try clear c9
          try clear c11
          try clear c14
          try clear c14b0
          try clear c14b1
          try clear c15
          try clear c17
          try clear c20
          try clear c21
          try clear c22
          try clear c22b0
          try clear c22b1
          try clear c23
          try clear c26
          try clear c29
          try clear c30
          try clear c30b0
          try clear c30b1
          try clear c31
          try clear c34
          try clear c36
          try clear c39
          try clear c39b0
          try clear c39b1
          try clear c40
          try clear c42
          try clear hcz12_0
          try clear hcz12_1
          try clear hcz12_2
          try clear hcz12_3
          try clear hcz13_0
          try clear hcz13_1
          try clear hcz13_2
          try clear hcz13_3
          try clear hcz16_0
          try clear hcz16_1
          try clear hcz16_2
          try clear hcz16_3
          try clear hcz18_0
          try clear hcz18_1
          try clear hcz18_2
          try clear hcz18_3
          try clear hcz19_0
          try clear hcz19_1
          try clear hcz19_2
          try clear hcz19_3
          try clear hcz24_0
          try clear hcz24_1
          try clear hcz24_2
          try clear hcz24_3
          try clear hcz25_0
          try clear hcz25_1
          try clear hcz25_2
          try clear hcz25_3
          try clear hcz27_0
          try clear hcz27_1
          try clear hcz27_2
          try clear hcz27_3
          try clear hcz32_0
          try clear hcz32_1
          try clear hcz32_2
          try clear hcz32_3
          try clear hcz33_0
          try clear hcz33_1
          try clear hcz33_2
          try clear hcz33_3
          try clear hcz35_0
          try clear hcz35_1
          try clear hcz35_2
          try clear hcz35_3
          try clear hcz41_0
          try clear hcz41_1
          try clear hcz41_2
          try clear hcz41_3
          try clear hcz43_0
          try clear hcz43_1
          try clear hcz43_2
          try clear hcz43_3
          try clear hcz44_0
          try clear hcz44_1
          try clear hcz44_2
          try clear hcz44_3
          try clear hfz12_0
          try clear hfz12_1
          try clear hfz12_2
          try clear hfz12_3
          try clear hfz13_0
          try clear hfz13_1
          try clear hfz13_2
          try clear hfz13_3
          try clear hfz16_0
          try clear hfz16_1
          try clear hfz16_2
          try clear hfz16_3
          try clear hfz18_0
          try clear hfz18_1
          try clear hfz18_2
          try clear hfz18_3
          try clear hfz19_0
          try clear hfz19_1
          try clear hfz19_2
          try clear hfz19_3
          try clear hfz24_0
          try clear hfz24_1
          try clear hfz24_2
          try clear hfz24_3
          try clear hfz25_0
          try clear hfz25_1
          try clear hfz25_2
          try clear hfz25_3
          try clear hfz27_0
          try clear hfz27_1
          try clear hfz27_2
          try clear hfz27_3
          try clear hfz32_0
          try clear hfz32_1
          try clear hfz32_2
          try clear hfz32_3
          try clear hfz33_0
          try clear hfz33_1
          try clear hfz33_2
          try clear hfz33_3
          try clear hfz35_0
          try clear hfz35_1
          try clear hfz35_2
          try clear hfz35_3
          try clear hfz41_0
          try clear hfz41_1
          try clear hfz41_2
          try clear hfz41_3
          try clear hfz43_0
          try clear hfz43_1
          try clear hfz43_2
          try clear hfz43_3
          try clear hfz44_0
          try clear hfz44_1
          try clear hfz44_2
          try clear hfz44_3
          try clear p2
          obtain ⟨kq, x49_37, rfl, HA, HJ37, BK154, BK155, HB⟩ := hcut
          cases kq with
          | zero => exact absurd HA.out (by simp [soft_mul.j3])
          | succ kj37 =>
           have H := HA.out
           clear HA
           simp only [soft_mul.j3] at H
           by_cases c45 : x49_37 = true
           ·subst c45
            have H1 : ((soft_withSign.f (t146 != t150) 9218868437227405312).bind fun t158 => (some (t158, 0))) = some (r1, r2) := by rw [if_pos rfl] at H; exact H
            clear H
            have H := H1
            clear H1
            replace H := Option.bind_eq_some_iff.mp H
            obtain ⟨t158, A460, H⟩ := H
            replace H : (some (t158, 0)) = some (r1, r2) := H
            have A46 := Aside0.mk A460
            clear A460
            simp only [Option.some.injEq, Prod.mk.injEq] at H
            obtain ⟨rfl, rfl⟩ := H
            go_wp2_with (first | ((with_reducible refine gate_callee (f := 225) rfl ?_); refine goesL_ (some 59) rfl rfl Tryz.func225 (by kernel_rfl) rfl #[.bool (t146 != t150), .int .u64 9218868437227405312] rfl (by (try simp only [List.map_toArray, List.map_cons, List.map_nil]); first | done | rfl | (simp only [List.length_drop, List.length_take]; rfl)) ?_; (with_reducible refine (soft_withSign.calls (t146 != t150) 9218868437227405312 t158 _ A46.out).mono ?_); rintro e w' ⟨rfl, ⟨nd, rfl⟩⟩; refine ⟨_, rfl, ?_⟩))
            go_ret2
            exact ⟨by first | rfl | (simp [errW_none, errW_some] <;> rfl) | (simp [*, errW_none, errW_some] <;> rfl), by repeat (first | (with_reducible first | exact HB.out | apply below_alloc | apply pw_below_drewN | apply below_drew1 | refine below_set ?_ GE154.out | refine below_set ?_ GE155.out) | exact HB.out)⟩
           ·replace c45 := Bool.eq_false_iff.mpr c45
            subst c45
            have H1 : ((soft_product.f kj37 t146 t147 t148 t149 t150 t151 t152 t153).bind fun bt159 => ((soft_term_rounded.f kj37 bt159.1 bt159.2.1 bt159.2.2).bind fun bt164 => (some (bt164.1, bt164.2)))) = some (r1, r2) := by rw [if_neg (show ¬ (false = true) by decide)] at H; exact H
            clear H
            have H := H1
            clear H1
            replace H := Option.bind_eq_some_iff.mp H
            obtain ⟨⟨t159, t160, t163⟩, A470, H⟩ := H
            replace H : ((soft_term_rounded.f kj37 t159 t160 t163).bind fun bt164 => (some (bt164.1, bt164.2))) = some (r1, r2) := H
            have A47 := Aside0.mk A470
            clear A470
            replace H := Option.bind_eq_some_iff.mp H
            obtain ⟨⟨t164, t165⟩, A480, H⟩ := H
            replace H : (some (t164, t165)) = some (r1, r2) := H
            have A48 := Aside0.mk A480
            clear A480
            simp only [Option.some.injEq, Prod.mk.injEq] at H
            obtain ⟨rfl, rfl⟩ := H
            have hnb49 := NB154_155.out
            have hnc49 := NB155_154.out
            have hcz50_0 : wc.cell? ⟨gb154, 0, none⟩ = some (.bool t146) := (blk_cell BK154.out 0).trans rfl
            have hcz50_1 : wc.cell? ⟨gb154, 1, none⟩ = some (.int .i64 t147) := (blk_cell BK154.out 1).trans rfl
            have hcz50_2 : wc.cell? ⟨gb154, 2, none⟩ = some (.int .u64 t148) := (blk_cell BK154.out 2).trans rfl
            have hcz50_3 : wc.cell? ⟨gb154, 3, none⟩ = some (.int .i64 t149) := (blk_cell BK154.out 3).trans rfl
            have hfz50_0 := blk_frozen BK154.out 0
            have hfz50_1 := blk_frozen BK154.out 1
            have hfz50_2 := blk_frozen BK154.out 2
            have hfz50_3 := blk_frozen BK154.out 3
            have hcz51_0 : wc.cell? ⟨gb155, 0, none⟩ = some (.bool t150) := (blk_cell BK155.out 0).trans rfl
            have hcz51_1 : wc.cell? ⟨gb155, 1, none⟩ = some (.int .i64 t151) := (blk_cell BK155.out 1).trans rfl
            have hcz51_2 : wc.cell? ⟨gb155, 2, none⟩ = some (.int .u64 t152) := (blk_cell BK155.out 2).trans rfl
            have hcz51_3 : wc.cell? ⟨gb155, 3, none⟩ = some (.int .i64 t153) := (blk_cell BK155.out 3).trans rfl
            have hfz51_0 := blk_frozen BK155.out 0
            have hfz51_1 := blk_frozen BK155.out 1
            have hfz51_2 := blk_frozen BK155.out 2
            have hfz51_3 := blk_frozen BK155.out 3
            go_wp2_with (first | ((with_reducible refine gate_callee (f := 226) rfl ?_); refine goesL_ (some 62) rfl rfl Tryz.func226 (by kernel_rfl) rfl #[.agg #[.bool t146, .int .i64 t147, .int .u64 t148, .int .i64 t149], .agg #[.bool t150, .int .i64 t151, .int .u64 t152, .int .i64 t153]] rfl (by (try simp only [List.map_toArray, List.map_cons, List.map_nil]); first | done | rfl | (simp only [List.length_drop, List.length_take]; rfl)) ?_; (with_reducible refine (soft_product.calls kj37 t146 t147 t148 t149 t150 t151 t152 t153 t159 t160 t163 _ A47.out).mono ?_); rintro e w52 ⟨v161, rfl, ho0, hb⟩; refine ⟨_, rfl, ?_⟩; have n0_ := Aside0.mk (Kd.V_lower (Kd.V_mono (ok' := fun k_ => k_ ≠ gb154 ∧ k_ ≠ gb155) ho0 (fun k_ hk_ => ⟨(Kd.freshB (g := gb154) (o := .cells #[.bool t146, .int .i64 t147, .int .u64 t148, .int .i64 t149] 163 (0, 0)) (by (with_reducible repeat (first | refine blk_drewN ?_ _ | refine blk_drew ?_ | refine blk_alloc ?_ _)); exact BK154.out) k_ hk_), (Kd.freshB (g := gb155) (o := .cells #[.bool t150, .int .i64 t151, .int .u64 t152, .int .i64 t153] 163 (0, 0)) (by (with_reducible repeat (first | refine blk_drewN ?_ _ | refine blk_drew ?_ | refine blk_alloc ?_ _)); exact BK155.out) k_ hk_)⟩)) (below_size (by repeat (first | (with_reducible first | exact HB.out | apply below_alloc | apply pw_below_drewN | apply below_drew1 | refine below_set ?_ GE154.out | refine below_set ?_ GE155.out) | exact HB.out)))); have n1_ := Aside0.mk (blk_below (g := gb154) (o := .cells #[.bool t146, .int .i64 t147, .int .u64 t148, .int .i64 t149] 163 (0, 0)) (by (with_reducible repeat (first | refine blk_drewN ?_ _ | refine blk_drew ?_ | refine blk_alloc ?_ _)); exact BK154.out) hb); have n2_ := Aside0.mk (blk_below (g := gb155) (o := .cells #[.bool t150, .int .i64 t151, .int .u64 t152, .int .i64 t153] 163 (0, 0)) (by (with_reducible repeat (first | refine blk_drewN ?_ _ | refine blk_drew ?_ | refine blk_alloc ?_ _)); exact BK155.out) hb); have n3_ := Aside0.mk (below_step (by repeat (first | (with_reducible first | exact HB.out | apply below_alloc | apply pw_below_drewN | apply below_drew1 | refine below_set ?_ GE154.out | refine below_set ?_ GE155.out) | exact HB.out)) hb); clear BK154; clear BK155; clear HB; have HO162 := n0_; have BK154 := n1_; have BK155 := n2_; have HB := n3_; clear n0_ n1_ n2_ n3_; (try clear hb); (try clear hb2); (try clear hk); (try clear hi); (try clear ho0); obtain ⟨Ao53, co53, eo53⟩ := Kd.V_slice HO162.out; subst eo53) | ((with_reducible refine gate_callee (f := 227) rfl ?_); refine goesL_ (some 63) rfl rfl Tryz.func227 (by kernel_rfl) rfl #[.agg #[.bool t159, .slice Ao53 t160.length co53, .int .i64 t163]] rfl (by (try simp only [List.map_toArray, List.map_cons, List.map_nil]); first | done | rfl | (simp only [List.length_drop, List.length_take]; rfl)) ?_; (with_reducible refine (soft_term_rounded.calls kj37 t159 _ _ t160 t163 t164 t165 _ ?side1 ?side2 ?side3 A48.out).mono ?_); (case side1 => repeat (first | exact (Kd.V_reads' HO162.out).2.2 | (with_reducible refine Kd.C_alloc ?_ _) | (with_reducible refine Kd.C_drewN ?_ _) | (with_reducible refine Kd.C_drew ?_))); (case side2 => exact (Kd.V_reads' HO162.out).2.1); (case side3 => first | exact hT | exact Tabs.below hT (by repeat (first | (with_reducible first | exact HB.out | apply below_alloc | apply pw_below_drewN | apply below_drew1 | refine below_set ?_ GE154.out | refine below_set ?_ GE155.out) | exact HB.out)) | (repeat (first | exact hT | apply Tabs.drewN | apply Tabs.drew))); rintro e w54 ⟨rfl, hb⟩; refine ⟨_, rfl, ?_⟩; have n0_ := Aside0.mk (Kd.V_below (by (with_reducible repeat (first | apply Kd.V_alloc | apply Kd.V_drewN | apply Kd.V_drew)); exact HO162.out) hb); have n1_ := Aside0.mk (blk_below (g := gb154) (o := .cells #[.bool t146, .int .i64 t147, .int .u64 t148, .int .i64 t149] 163 (0, 0)) (by (with_reducible repeat (first | refine blk_drewN ?_ _ | refine blk_drew ?_ | refine blk_alloc ?_ _)); exact BK154.out) hb); have n2_ := Aside0.mk (blk_below (g := gb155) (o := .cells #[.bool t150, .int .i64 t151, .int .u64 t152, .int .i64 t153] 163 (0, 0)) (by (with_reducible repeat (first | refine blk_drewN ?_ _ | refine blk_drew ?_ | refine blk_alloc ?_ _)); exact BK155.out) hb); have n3_ := Aside0.mk (below_step (by repeat (first | (with_reducible first | exact HB.out | apply below_alloc | apply pw_below_drewN | apply below_drew1 | refine below_set ?_ GE154.out | refine below_set ?_ GE155.out) | exact HB.out)) hb); clear HO162; clear BK154; clear BK155; clear HB; have HO162 := n0_; have BK154 := n1_; have BK155 := n2_; have HB := n3_; clear n0_ n1_ n2_ n3_; (try clear hb); (try clear hb2); (try clear hk); (try clear hi)))
            go_ret2
            exact ⟨by first | rfl | (simp [errW_none, errW_some] <;> rfl) | (simp [*, errW_none, errW_some] <;> rfl), by repeat (first | (with_reducible first | exact HB.out | apply below_alloc | apply pw_below_drewN | apply below_drew1 | refine below_set ?_ GE154.out | refine below_set ?_ GE155.out) | exact HB.out)⟩
end Go.Proofs.YtahdkpoihpcfnaaGreatDoor.PB
end

section
namespace Go.Proofs.YtahdkpoihpcfnaaGreatDoor.PB
open Go.Proofs.YtahdkpoihpcfnaaGreatDoor.Stub Go.Proofs.YtahdkpoihpcfnaaGreatDoor.PA
open Go.RowKit Go.Proofs.YtahdkpoihpcfnaaGreatDoorW.PrintWords Go.Proofs.YtahdkpoihpcfnaaGreatDoorW.PrintLast Go.Proofs.YtahdkpoihpcfnaaGreatDoorW.PrintMore
attribute [local go_sem] cell_isSome_setCell max2_int min2_int max_two min_two max_three min_three max_four min_four   -- for this text's walks alone
set_option linter.unusedVariables false
set_option linter.unusedSimpArgs false
def soft_Mul.f (k : Nat) (a0 : Int) (a1 : Int) : Option (Int) := (soft_mul.f k a0 a1 0).bind fun bt166 => (some bt166.1)
theorem soft_Mul.mono : ∀ a0 a1 k, LeO (soft_Mul.f k a0 a1) (soft_Mul.f (k + 1) a0 a1) := by
 intro a0 a1 k
 unfold soft_Mul.f
 repeat' first
   | (with_reducible exact soft_mul.mono _ _ _ _)
   | (with_reducible exact LeO.refl _)
   | (with_reducible exact LeO.none _)
   | (with_reducible refine LeO.ite ?_ ?_)
   | (with_reducible refine LeO.bind ?_ (fun _ => ?_))
   | exact soft_mul.mono _ _ _ _
   | exact LeO.none _
   | refine LeO.ite ?_ ?_
   | refine LeO.bind ?_ (fun _ => ?_)
set_option maxHeartbeats 8000000 in
set_option maxRecDepth 100000 in
theorem soft_Mul.calls (k : Nat) (a0 : Int) (a1 : Int) (r : Int) (w : World) (hT : Tabs w) (h : soft_Mul.f k a0 a1 = some r) :
  Calls Tryz.prog 211 #[.int .u64 a0, .int .u64 a1] w fun e w' => e = .returned (.int .u64 r) ∧ Below w.heap.size w w' := by
 have HB := Aside0.mk (Below.refl w.heap.size w)
 have H : ((soft_mul.f k a0 a1 0).bind fun bt166 => (some bt166.1)) = some r := h
 clear h
 replace H := Option.bind_eq_some_iff.mp H
 obtain ⟨⟨t166, t167⟩, A30, H⟩ := H
 replace H : (some t166) = some r := H
 have A3 := Aside0.mk A30
 clear A30
 obtain rfl := Option.some.inj H
 go_enter Tryz.func211, Tryz.ntmps211
 go_wp2_with (first | ((with_reducible refine gate_callee (f := 217) rfl ?_); refine goesL_ (some 10) rfl rfl Tryz.func217 (by kernel_rfl) rfl #[.int .u64 a0, .int .u64 a1, .int .u64 0] rfl (by (try simp only [List.map_toArray, List.map_cons, List.map_nil]); first | done | rfl | (simp only [List.length_drop, List.length_take]; rfl)) ?_; (with_reducible refine (soft_mul.calls k a0 a1 0 t166 t167 _ ?side1 A3.out).mono ?_); (case side1 => first | exact hT | exact Tabs.below hT (by repeat (first | exact HB.out | apply below_alloc | apply pw_below_drewN | apply below_drew1)) | (repeat (first | exact hT | apply Tabs.drewN | apply Tabs.drew))); rintro e w4 ⟨rfl, hb⟩; refine ⟨_, rfl, ?_⟩; have n0_ := Aside0.mk (below_step (by repeat (first | exact HB.out | apply below_alloc | apply pw_below_drewN | apply below_drew1)) hb); clear HB; have HB := n0_; clear n0_; (try clear hb); (try clear hb2); (try clear hk); (try clear hi)))
 go_ret
 exact ⟨by first | rfl | (simp [errW_none, errW_some] <;> rfl) | (simp [*, errW_none, errW_some] <;> rfl), by repeat (first | (with_reducible first | exact HB.out | apply below_alloc | apply pw_below_drewN | apply below_drew1) | exact HB.out)⟩
mutual
def quick_Small.j0 : Nat → Int → Int → Bool → Option (Int × Bool)
 | 0, _, _, _ => none
 | k + 1, x0, x1, x18 => if x18 = true then (some (0, false)) else ((quick_tens.f (mn (mx x1 (wrap64 (-x1))) 19)).bind fun t168 => ((ieee_FromUint.f k t168).bind fun t169 => (if (mx x1 (wrap64 (-x1))) > 19 then ((quick_tens.f (wrap64 ((mx x1 (wrap64 (-x1))) - 19))).bind fun t170 => ((ieee_FromUint.f k t170).bind fun t171 => ((soft_Mul.f k t169 t171).bind fun t172 => (quick_Small.j1 k x0 x1 t172)))) else (quick_Small.j1 k x0 x1 t169))))
def quick_Small.j1 : Nat → Int → Int → Int → Option (Int × Bool)
 | 0, _, _, _ => none
 | k + 1, x0, x1, x7 => (ieee_FromUint.f k x0).bind fun t173 => (if x1 < 0 then ((soft_Div.f k t173 x7).bind fun t174 => (some (t174, true))) else ((soft_Mul.f k t173 x7).bind fun t175 => (some (t175, true))))
end
def quick_Small.f (k : Nat) (a0 : Int) (a1 : Int) : Option (Int × Bool) := if a0 > 9007199254740992 then (quick_Small.j0 k a0 a1 true) else (if a1 < (-22) then (quick_Small.j0 k a0 a1 true) else (quick_Small.j0 k a0 a1 (decide (a1 > 22))))
theorem quick_Small.mono_l : ∀ k, (∀ y0 y1 y2, LeO (quick_Small.j0 k y0 y1 y2) (quick_Small.j0 (k + 1) y0 y1 y2)) ∧ (∀ y0 y1 y2, LeO (quick_Small.j1 k y0 y1 y2) (quick_Small.j1 (k + 1) y0 y1 y2))
 | 0 => ⟨fun _ _ _ r h => by simp [quick_Small.j0] at h, fun _ _ _ r h => by simp [quick_Small.j1] at h⟩
 | k + 1 => by
  obtain ⟨ih0, ih1⟩ := quick_Small.mono_l k
  refine ⟨?_, ?_⟩
  ·intro y0 y1 y2
   unfold quick_Small.j0
   repeat' first
   | (with_reducible exact ih0 _ _ _)
   | (with_reducible exact ih1 _ _ _)
   | (with_reducible exact ieee_FromUint.mono _ _)
   | (with_reducible exact soft_Div.mono _ _ _)
   | (with_reducible exact soft_Mul.mono _ _ _)
   | (with_reducible exact LeO.refl _)
   | (with_reducible exact LeO.none _)
   | (with_reducible refine LeO.ite ?_ ?_)
   | (with_reducible refine LeO.bind ?_ (fun _ => ?_))
   | exact ih0 _ _ _
   | exact ih1 _ _ _
   | exact ieee_FromUint.mono _ _
   | exact soft_Div.mono _ _ _
   | exact soft_Mul.mono _ _ _
   | exact LeO.none _
   | refine LeO.ite ?_ ?_
   | refine LeO.bind ?_ (fun _ => ?_)
  ·intro y0 y1 y2
   unfold quick_Small.j1
   repeat' first
   | (with_reducible exact ih0 _ _ _)
   | (with_reducible exact ih1 _ _ _)
   | (with_reducible exact ieee_FromUint.mono _ _)
   | (with_reducible exact soft_Div.mono _ _ _)
   | (with_reducible exact soft_Mul.mono _ _ _)
   | (with_reducible exact LeO.refl _)
   | (with_reducible exact LeO.none _)
   | (with_reducible refine LeO.ite ?_ ?_)
   | (with_reducible refine LeO.bind ?_ (fun _ => ?_))
   | exact ih0 _ _ _
   | exact ih1 _ _ _
   | exact ieee_FromUint.mono _ _
   | exact soft_Div.mono _ _ _
   | exact soft_Mul.mono _ _ _
   | exact LeO.none _
   | refine LeO.ite ?_ ?_
   | refine LeO.bind ?_ (fun _ => ?_)
theorem quick_Small.mono : ∀ a0 a1 k, LeO (quick_Small.f k a0 a1) (quick_Small.f (k + 1) a0 a1) := by
 intro a0 a1 k
 obtain ⟨ih0, ih1⟩ := quick_Small.mono_l k
 unfold quick_Small.f
 repeat' first
   | (with_reducible exact ih0 _ _ _)
   | (with_reducible exact ih1 _ _ _)
   | (with_reducible exact ieee_FromUint.mono _ _)
   | (with_reducible exact soft_Div.mono _ _ _)
   | (with_reducible exact soft_Mul.mono _ _ _)
   | (with_reducible exact LeO.refl _)
   | (with_reducible exact LeO.none _)
   | (with_reducible refine LeO.ite ?_ ?_)
   | (with_reducible refine LeO.bind ?_ (fun _ => ?_))
   | exact ih0 _ _ _
   | exact ih1 _ _ _
   | exact ieee_FromUint.mono _ _
   | exact soft_Div.mono _ _ _
   | exact soft_Mul.mono _ _ _
   | exact LeO.none _
   | refine LeO.ite ?_ ?_
   | refine LeO.bind ?_ (fun _ => ?_)
set_option maxHeartbeats 8000000 in
set_option maxRecDepth 100000 in
theorem quick_Small.calls (k : Nat) (a0 : Int) (a1 : Int) (r1 : Int) (r2 : Bool) (w : World) (hT : Tabs w) (h : quick_Small.f k a0 a1 = some (r1, r2)) :
  Calls Tryz.prog 207 #[.int .u64 a0, .int .i64 a1] w fun e w' => e = .returned (.tuple #[.int .u64 r1, .bool r2]) ∧ Below w.heap.size w w' := by
 have HB := Aside0.mk (Below.refl w.heap.size w)
 have H : (if a0 > 9007199254740992 then (quick_Small.j0 k a0 a1 true) else (if a1 < (-22) then (quick_Small.j0 k a0 a1 true) else (quick_Small.j0 k a0 a1 (decide (a1 > 22))))) = some (r1, r2) := h
 clear h
 have HC3 := Aside0.mk H
 clear H
 go_enter Tryz.func207, Tryz.ntmps207
 go_upto_region 1 with (fail)
 go_cut [18] (fun v18 wc => ∃ (kq : Nat) (x18_2 : Bool), v18 = .bool x18_2 ∧ Aside0 (quick_Small.j0 kq a0 a1 x18_2 = some (r1, r2)) ∧ Aside0 (kq ≤ k) ∧ Aside0 (Below w.heap.size w wc))
 case first =>
  have H := HC3.out
  clear HC3
  by_cases c4 : a0 > 9007199254740992
  ·rw [if_pos c4] at H
   have c4b0 : decide (9007199254740992 < a0) = true := decide_eq_true c4
   clear c4
   (first | rw [c4b0] | (simp only [i64_w, i32_w]; rw [c4b0]) | skip)
   have H' := Aside0.mk H
   clear H
   go_wp2
   go_meet
   case rel => exact ⟨_, (true), (by first | rfl | (simp; done) | (simp [*]; done)), H', ⟨by first | omega | exact Nat.le_refl _⟩, ⟨by repeat (first | (with_reducible first | exact HB.out | apply below_alloc | apply pw_below_drewN | apply below_drew1) | exact HB.out)⟩⟩
  ·rw [if_neg c4] at H
   have c4b0 : decide (9007199254740992 < a0) = false := decide_eq_false c4
   clear c4
   (first | rw [c4b0] | (simp only [i64_w, i32_w]; rw [c4b0]) | skip)
   by_cases c5 : a1 < (-22)
   ·rw [if_pos c5] at H
    have c5b0 : decide (a1 < (-22)) = true := decide_eq_true c5
    clear c5
    have H' := Aside0.mk H
    clear H
    go_wp2
    go_meet
    case rel => exact ⟨_, (true), (by first | rfl | (simp; done) | (simp [*]; done)), H', ⟨by first | omega | exact Nat.le_refl _⟩, ⟨by repeat (first | (with_reducible first | exact HB.out | apply below_alloc | apply pw_below_drewN | apply below_drew1) | exact HB.out)⟩⟩
   ·rw [if_neg c5] at H
    have c5b0 : decide (a1 < (-22)) = false := decide_eq_false c5
    clear c5
    have H' := Aside0.mk H
    clear H
    go_wp2
    go_meet
    case rel => exact ⟨_, (decide (a1 > 22)), (by first | rfl | (simp; done) | (simp [*]; done)), H', ⟨by first | omega | exact Nat.le_refl _⟩, ⟨by repeat (first | (with_reducible first | exact HB.out | apply below_alloc | apply pw_below_drewN | apply below_drew1) | exact HB.out)⟩⟩
 case rest =>
  clear HC3
  try clear c2
  try clear p2
  try clear c4
  try clear c4b0
  try clear c5
  try clear c5b0
  obtain ⟨kq, x18_2, rfl, HA, HJ2, HB⟩ := hcut
  cases kq with
  | zero => exact absurd HA.out (by simp [quick_Small.j0])
  | succ kj2 =>
   have H := HA.out
   clear HA
   simp only [quick_Small.j0] at H
   by_cases c6 : x18_2 = true
   ·subst c6
    have H1 : (some (0, false)) = some (r1, r2) := by rw [if_pos rfl] at H; exact H
    clear H
    have H := H1
    clear H1
    simp only [Option.some.injEq, Prod.mk.injEq] at H
    obtain ⟨rfl, rfl⟩ := H
    go_wp2
    go_ret2
    exact ⟨by first | rfl | (simp [errW_none, errW_some] <;> rfl) | (simp [*, errW_none, errW_some] <;> rfl), by repeat (first | (with_reducible first | exact HB.out | apply below_alloc | apply pw_below_drewN | apply below_drew1) | exact HB.out)⟩
   ·replace c6 := Bool.eq_false_iff.mpr c6
    subst c6
    have H1 : ((quick_tens.f (mn (mx a1 (wrap64 (-a1))) 19)).bind fun t168 => ((ieee_FromUint.f kj2 t168).bind fun t169 => (if (mx a1 (wrap64 (-a1))) > 19 then ((quick_tens.f (wrap64 ((mx a1 (wrap64 (-a1))) - 19))).bind fun t170 => ((ieee_FromUint.f kj2 t170).bind fun t171 => ((soft_Mul.f kj2 t169 t171).bind fun t172 => (quick_Small.j1 kj2 a0 a1 t172)))) else (quick_Small.j1 kj2 a0 a1 t169)))) = some (r1, r2) := by rw [if_neg (show ¬ (false = true) by decide)] at H; exact H
    clear H
    have H := H1
    clear H1
    obtain ⟨ji7, hji7⟩ : ∃ j_ : Int, (mx a1 (wrap64 (-a1))) = j_ := ⟨_, rfl⟩
    replace H : ((quick_tens.f (mn (ji7) 19)).bind fun t168 => ((ieee_FromUint.f kj2 t168).bind fun t169 => (if (ji7) > 19 then ((quick_tens.f (wrap64 ((ji7) - 19))).bind fun t170 => ((ieee_FromUint.f kj2 t170).bind fun t171 => ((soft_Mul.f kj2 t169 t171).bind fun t172 => (quick_Small.j1 kj2 a0 a1 t172)))) else (quick_Small.j1 kj2 a0 a1 t169)))) = some (r1, r2) := by first | (rw [hji7] at H; exact H) | (simp only [hji7] at H ⊢; exact H)
    have hji7_ : (if a1 < (wrap64 (-a1)) then (wrap64 (-a1)) else a1) = ji7 := hji7
    obtain ⟨ji8, hji8⟩ : ∃ j_ : Int, (mn (ji7) 19) = j_ := ⟨_, rfl⟩
    replace H : ((quick_tens.f (ji8)).bind fun t168 => ((ieee_FromUint.f kj2 t168).bind fun t169 => (if (ji7) > 19 then ((quick_tens.f (wrap64 ((ji7) - 19))).bind fun t170 => ((ieee_FromUint.f kj2 t170).bind fun t171 => ((soft_Mul.f kj2 t169 t171).bind fun t172 => (quick_Small.j1 kj2 a0 a1 t172)))) else (quick_Small.j1 kj2 a0 a1 t169)))) = some (r1, r2) := by first | (rw [hji8] at H; exact H) | (simp only [hji8] at H ⊢; exact H)
    have hji8_ : (if 19 < (ji7) then 19 else (ji7)) = ji8 := hji8
    replace H := Option.bind_eq_some_iff.mp H
    obtain ⟨t168, A90, H⟩ := H
    replace H : ((ieee_FromUint.f kj2 t168).bind fun t169 => (if (ji7) > 19 then ((quick_tens.f (wrap64 ((ji7) - 19))).bind fun t170 => ((ieee_FromUint.f kj2 t170).bind fun t171 => ((soft_Mul.f kj2 t169 t171).bind fun t172 => (quick_Small.j1 kj2 a0 a1 t172)))) else (quick_Small.j1 kj2 a0 a1 t169))) = some (r1, r2) := H
    have A9 := Aside0.mk A90
    clear A90
    replace H := Option.bind_eq_some_iff.mp H
    obtain ⟨t169, A100, H⟩ := H
    replace H : (if (ji7) > 19 then ((quick_tens.f (wrap64 ((ji7) - 19))).bind fun t170 => ((ieee_FromUint.f kj2 t170).bind fun t171 => ((soft_Mul.f kj2 t169 t171).bind fun t172 => (quick_Small.j1 kj2 a0 a1 t172)))) else (quick_Small.j1 kj2 a0 a1 t169)) = some (r1, r2) := H
    have A10 := Aside0.mk A100
    clear A100
    have HC11 := Aside0.mk H
    clear H
    go_upto_if 28 with (first | ((with_reducible refine gate_callee (f := 210) rfl ?_); refine goesL_ (some 25) rfl rfl Tryz.func210 (by kernel_rfl) rfl #[.int .i64 ji8] rfl (by (try simp only [List.map_toArray, List.map_cons, List.map_nil]); first | done | (simp only [hji8]; rfl) | rfl | (simp only [List.length_drop, List.length_take]; rfl)) ?_; (with_reducible refine (quick_tens.calls ji8 t168 _ A9.out).mono ?_); rintro e w12 ⟨rfl, hb⟩; refine ⟨_, rfl, ?_⟩; have n0_ := Aside0.mk (below_step (by repeat (first | exact HB.out | apply below_alloc | apply pw_below_drewN | apply below_drew1)) hb); clear HB; have HB := n0_; clear n0_; (try clear hb); (try clear hb2); (try clear hk); (try clear hi)) | ((with_reducible refine gate_callee (f := 209) rfl ?_); refine goesL_ (some 26) rfl rfl Tryz.func209 (by kernel_rfl) rfl #[.int .u64 t168] rfl (by (try simp only [List.map_toArray, List.map_cons, List.map_nil]); first | done | rfl | (simp only [List.length_drop, List.length_take]; rfl)) ?_; (with_reducible refine (ieee_FromUint.calls kj2 t168 t169 _ ?side1 A10.out).mono ?_); (case side1 => first | exact hT | exact Tabs.below hT (by repeat (first | exact HB.out | apply below_alloc | apply pw_below_drewN | apply below_drew1)) | (repeat (first | exact hT | apply Tabs.drewN | apply Tabs.drew))); rintro e w13 ⟨rfl, hb⟩; refine ⟨_, rfl, ?_⟩; have n0_ := Aside0.mk (below_step (by repeat (first | exact HB.out | apply below_alloc | apply pw_below_drewN | apply below_drew1)) hb); clear HB; have HB := n0_; clear n0_; (try clear hb); (try clear hb2); (try clear hk); (try clear hi)))
    (try simp only [Act.put, List.setIfInBounds_toArray, List.set_cons_zero, List.set_cons_succ])
    go_cut [7] (fun v7 wc => ∃ (kq : Nat) (x7_10 : Int), v7 = .int .u64 x7_10 ∧ Aside0 (quick_Small.j1 kq a0 a1 x7_10 = some (r1, r2)) ∧ Aside0 (kq ≤ kj2) ∧ Aside0 (Below w.heap.size w wc))
    case first =>
     have H := HC11.out
     clear HC11
     by_cases c14 : (ji7) > 19
     ·rw [if_pos c14] at H
      have c14b0 : decide (19 < (ji7)) = true := decide_eq_true c14
      clear c14
      (first | rw [c14b0] | (simp only [i64_w, i32_w]; rw [c14b0]) | skip)
      replace H := Option.bind_eq_some_iff.mp H
      obtain ⟨t170, A150, H⟩ := H
      replace H : ((ieee_FromUint.f kj2 t170).bind fun t171 => ((soft_Mul.f kj2 t169 t171).bind fun t172 => (quick_Small.j1 kj2 a0 a1 t172))) = some (r1, r2) := H
      have A15 := Aside0.mk A150
      clear A150
      replace H := Option.bind_eq_some_iff.mp H
      obtain ⟨t171, A160, H⟩ := H
      replace H : ((soft_Mul.f kj2 t169 t171).bind fun t172 => (quick_Small.j1 kj2 a0 a1 t172)) = some (r1, r2) := H
      have A16 := Aside0.mk A160
      clear A160
      replace H := Option.bind_eq_some_iff.mp H
      obtain ⟨t172, A170, H⟩ := H
      replace H : (quick_Small.j1 kj2 a0 a1 t172) = some (r1, r2) := H
      have A17 := Aside0.mk A170
      clear A170
      have H' := Aside0.mk H
      clear H
      go_wp2_with (first | ((with_reducible refine gate_callee (f := 210) rfl ?_); refine goesL_ (some 32) rfl rfl Tryz.func210 (by kernel_rfl) rfl #[.int .i64 (wrap64 ((ji7) - 19))] rfl (by (try simp only [List.map_toArray, List.map_cons, List.map_nil]); first | done | (simp only [hji7]; rfl) | rfl | (simp only [List.length_drop, List.length_take]; rfl)) ?_; (with_reducible refine (quick_tens.calls (wrap64 ((ji7) - 19)) t170 _ A15.out).mono ?_); rintro e w18 ⟨rfl, hb⟩; refine ⟨_, rfl, ?_⟩; have n0_ := Aside0.mk (below_step (by repeat (first | exact HB.out | apply below_alloc | apply pw_below_drewN | apply below_drew1)) hb); clear HB; have HB := n0_; clear n0_; (try clear hb); (try clear hb2); (try clear hk); (try clear hi)) | ((with_reducible refine gate_callee (f := 209) rfl ?_); refine goesL_ (some 33) rfl rfl Tryz.func209 (by kernel_rfl) rfl #[.int .u64 t170] rfl (by (try simp only [List.map_toArray, List.map_cons, List.map_nil]); first | done | rfl | (simp only [List.length_drop, List.length_take]; rfl)) ?_; (with_reducible refine (ieee_FromUint.calls kj2 t170 t171 _ ?side1 A16.out).mono ?_); (case side1 => first | exact hT | exact Tabs.below hT (by repeat (first | exact HB.out | apply below_alloc | apply pw_below_drewN | apply below_drew1)) | (repeat (first | exact hT | apply Tabs.drewN | apply Tabs.drew))); rintro e w19 ⟨rfl, hb⟩; refine ⟨_, rfl, ?_⟩; have n0_ := Aside0.mk (below_step (by repeat (first | exact HB.out | apply below_alloc | apply pw_below_drewN | apply below_drew1)) hb); clear HB; have HB := n0_; clear n0_; (try clear hb); (try clear hb2); (try clear hk); (try clear hi)) | ((with_reducible refine gate_callee (f := 211) rfl ?_); refine goesL_ (some 34) rfl rfl Tryz.func211 (by kernel_rfl) rfl #[.int .u64 t169, .int .u64 t171] rfl (by (try simp only [List.map_toArray, List.map_cons, List.map_nil]); first | done | rfl | (simp only [List.length_drop, List.length_take]; rfl)) ?_; (with_reducible refine (soft_Mul.calls kj2 t169 t171 t172 _ ?side1 A17.out).mono ?_); (case side1 => first | exact hT | exact Tabs.below hT (by repeat (first | exact HB.out | apply below_alloc | apply pw_below_drewN | apply below_drew1)) | (repeat (first | exact hT | apply Tabs.drewN | apply Tabs.drew))); rintro e w20 ⟨rfl, hb⟩; refine ⟨_, rfl, ?_⟩; have n0_ := Aside0.mk (below_step (by repeat (first | exact HB.out | apply below_alloc | apply pw_below_drewN | apply below_drew1)) hb); clear HB; have HB := n0_; clear n0_; (try clear hb); (try clear hb2); (try clear hk); (try clear hi)))
      go_meet
      case rel => exact ⟨_, (t172), (by first | rfl | (simp; done) | (simp [*]; done)), H', ⟨by have := HJ2.out; first | omega | exact Nat.le_refl _⟩, ⟨by repeat (first | (with_reducible first | exact HB.out | apply below_alloc | apply pw_below_drewN | apply below_drew1) | exact HB.out)⟩⟩
     ·rw [if_neg c14] at H
      have c14b0 : decide (19 < (ji7)) = false := decide_eq_false c14
      clear c14
      (first | rw [c14b0] | (simp only [i64_w, i32_w]; rw [c14b0]) | skip)
      have H' := Aside0.mk H
      clear H
      go_wp2
      go_meet
      case rel => exact ⟨_, (t169), (by first | rfl | (simp; done) | (simp [*]; done)), H', ⟨by have := HJ2.out; first | omega | exact Nat.le_refl _⟩, ⟨by repeat (first | (with_reducible first | exact HB.out | apply below_alloc | apply pw_below_drewN | apply below_drew1) | exact HB.out)⟩⟩
    case rest =>
     clear HC11
     try clear c1
     try clear c2
     try clear p2
     try clear c4
     try clear c4b0
     try clear c5
     try clear c5b0
     try clear c6
     try clear p6
     try clear c14
     try clear c14b0
     try clear c20
     try clear p2
     obtain ⟨kq, x7_10, rfl, HA, HJ10, HB⟩ := hcut
     cases kq with
     | zero => exact absurd HA.out (by simp [quick_Small.j1])
     | succ kj10 =>
      have H := HA.out
      clear HA
      simp only [quick_Small.j1] at H
      replace H := Option.bind_eq_some_iff.mp H
      obtain ⟨t173, A210, H⟩ := H
      replace H : (if a1 < 0 then ((soft_Div.f kj10 t173 x7_10).bind fun t174 => (some (t174, true))) else ((soft_Mul.f kj10 t173 x7_10).bind fun t175 => (some (t175, true)))) = some (r1, r2) := H
      have A21 := Aside0.mk A210
      clear A210
      by_cases c22 : a1 < 0
      ·rw [if_pos c22] at H
       have c22b0 : decide (a1 < 0) = true := decide_eq_true c22
       clear c22
       replace H := Option.bind_eq_some_iff.mp H
       obtain ⟨t174, A230, H⟩ := H
       replace H : (some (t174, true)) = some (r1, r2) := H
       have A23 := Aside0.mk A230
       clear A230
       simp only [Option.some.injEq, Prod.mk.injEq] at H
       obtain ⟨rfl, rfl⟩ := H
       go_wp2_with (first | ((with_reducible refine gate_callee (f := 209) rfl ?_); refine goesL_ (some 36) rfl rfl Tryz.func209 (by kernel_rfl) rfl #[.int .u64 a0] rfl (by (try simp only [List.map_toArray, List.map_cons, List.map_nil]); first | done | rfl | (simp only [List.length_drop, List.length_take]; rfl)) ?_; (with_reducible refine (ieee_FromUint.calls kj10 a0 t173 _ ?side1 A21.out).mono ?_); (case side1 => first | exact hT | exact Tabs.below hT (by repeat (first | exact HB.out | apply below_alloc | apply pw_below_drewN | apply below_drew1)) | (repeat (first | exact hT | apply Tabs.drewN | apply Tabs.drew))); rintro e w24 ⟨rfl, hb⟩; refine ⟨_, rfl, ?_⟩; have n0_ := Aside0.mk (below_step (by repeat (first | exact HB.out | apply below_alloc | apply pw_below_drewN | apply below_drew1)) hb); clear HB; have HB := n0_; clear n0_; (try clear hb); (try clear hb2); (try clear hk); (try clear hi)) | ((with_reducible refine gate_callee (f := 212) rfl ?_); refine goesL_ (some 41) rfl rfl Tryz.func212 (by kernel_rfl) rfl #[.int .u64 t173, .int .u64 x7_10] rfl (by (try simp only [List.map_toArray, List.map_cons, List.map_nil]); first | done | rfl | (simp only [List.length_drop, List.length_take]; rfl)) ?_; (with_reducible refine (soft_Div.calls kj10 t173 x7_10 t174 _ ?side1 A23.out).mono ?_); (case side1 => first | exact hT | exact Tabs.below hT (by repeat (first | exact HB.out | apply below_alloc | apply pw_below_drewN | apply below_drew1)) | (repeat (first | exact hT | apply Tabs.drewN | apply Tabs.drew))); rintro e w25 ⟨rfl, hb⟩; refine ⟨_, rfl, ?_⟩; have n0_ := Aside0.mk (below_step (by repeat (first | exact HB.out | apply below_alloc | apply pw_below_drewN | apply below_drew1)) hb); clear HB; have HB := n0_; clear n0_; (try clear hb); (try clear hb2); (try clear hk); (try clear hi)))
       go_ret2
       exact ⟨by first | rfl | (simp [errW_none, errW_some] <;> rfl) | (simp only [← hji7, ← hji8]; first | rfl | (simp [errW_none, errW_some] <;> rfl)) | (simp [*, errW_none, errW_some] <;> rfl), by repeat (first | (with_reducible first | exact HB.out | apply below_alloc | apply pw_below_drewN | apply below_drew1) | exact HB.out)⟩
      ·rw [if_neg c22] at H
       have c22b0 : decide (a1 < 0) = false := decide_eq_false c22
       clear c22
       replace H := Option.bind_eq_some_iff.mp H
       obtain ⟨t175, A260, H⟩ := H
       replace H : (some (t175, true)) = some (r1, r2) := H
       have A26 := Aside0.mk A260
       clear A260
       simp only [Option.some.injEq, Prod.mk.injEq] at H
       obtain ⟨rfl, rfl⟩ := H
       go_wp2_with (first | ((with_reducible refine gate_callee (f := 209) rfl ?_); refine goesL_ (some 36) rfl rfl Tryz.func209 (by kernel_rfl) rfl #[.int .u64 a0] rfl (by (try simp only [List.map_toArray, List.map_cons, List.map_nil]); first | done | rfl | (simp only [List.length_drop, List.length_take]; rfl)) ?_; (with_reducible refine (ieee_FromUint.calls kj10 a0 t173 _ ?side1 A21.out).mono ?_); (case side1 => first | exact hT | exact Tabs.below hT (by repeat (first | exact HB.out | apply below_alloc | apply pw_below_drewN | apply below_drew1)) | (repeat (first | exact hT | apply Tabs.drewN | apply Tabs.drew))); rintro e w27 ⟨rfl, hb⟩; refine ⟨_, rfl, ?_⟩; have n0_ := Aside0.mk (below_step (by repeat (first | exact HB.out | apply below_alloc | apply pw_below_drewN | apply below_drew1)) hb); clear HB; have HB := n0_; clear n0_; (try clear hb); (try clear hb2); (try clear hk); (try clear hi)) | ((with_reducible refine gate_callee (f := 211) rfl ?_); refine goesL_ (some 44) rfl rfl Tryz.func211 (by kernel_rfl) rfl #[.int .u64 t173, .int .u64 x7_10] rfl (by (try simp only [List.map_toArray, List.map_cons, List.map_nil]); first | done | rfl | (simp only [List.length_drop, List.length_take]; rfl)) ?_; (with_reducible refine (soft_Mul.calls kj10 t173 x7_10 t175 _ ?side1 A26.out).mono ?_); (case side1 => first | exact hT | exact Tabs.below hT (by repeat (first | exact HB.out | apply below_alloc | apply pw_below_drewN | apply below_drew1)) | (repeat (first | exact hT | apply Tabs.drewN | apply Tabs.drew))); rintro e w28 ⟨rfl, hb⟩; refine ⟨_, rfl, ?_⟩; have n0_ := Aside0.mk (below_step (by repeat (first | exact HB.out | apply below_alloc | apply pw_below_drewN | apply below_drew1)) hb); clear HB; have HB := n0_; clear n0_; (try clear hb); (try clear hb2); (try clear hk); (try clear hi)))
       go_ret2
       exact ⟨by first | rfl | (simp [errW_none, errW_some] <;> rfl) | (simp only [← hji7, ← hji8]; first | rfl | (simp [errW_none, errW_some] <;> rfl)) | (simp [*, errW_none, errW_some] <;> rfl), by repeat (first | (with_reducible first | exact HB.out | apply below_alloc | apply pw_below_drewN | apply below_drew1) | exact HB.out)⟩
end Go.Proofs.YtahdkpoihpcfnaaGreatDoor.PB
end

section
namespace Go.Proofs.YtahdkpoihpcfnaaGreatDoor.PB
open Go.Proofs.YtahdkpoihpcfnaaGreatDoor.Stub Go.Proofs.YtahdkpoihpcfnaaGreatDoor.PA
open Go.RowKit Go.Proofs.YtahdkpoihpcfnaaGreatDoorW.PrintWords Go.Proofs.YtahdkpoihpcfnaaGreatDoorW.PrintLast Go.Proofs.YtahdkpoihpcfnaaGreatDoorW.PrintMore
attribute [local go_sem] cell_isSome_setCell max2_int min2_int max_two min_two max_three min_three max_four min_four   -- for this text's walks alone
set_option linter.unusedVariables false
set_option linter.unusedSimpArgs false
attribute [local go_sem high] eqA93
mutual
def quick_Try.j0 : Nat → Bool → Bool → ByteArray → Int → Option (Int × Bool)
 | 0, _, _, _, _ => none
 | k + 1, x28, x177000, x177001, x177002 => if x28 = true then (some (0, false)) else (if x177000 = true then (quick_Try.j1 k 9223372036854775808 x177000 x177001 x177002) else (quick_Try.j1 k 0 x177000 x177001 x177002))
def quick_Try.j1 : Nat → Int → Bool → ByteArray → Int → Option (Int × Bool)
 | 0, _, _, _, _ => none
 | k + 1, x6, x177000, x177001, x177002 => if x177001.toList = ([48] : List UInt8) then (some (x6, true)) else (quick_Try.l0 k x6 0 x177002 (wrap64 ((x177001.size : Int) - 19)) 0 x177000 x177001 x177002)
def quick_Try.j3 : Nat → Int → Int → Int → Int → Option (Int × Bool)
 | 0, _, _, _, _ => none
 | k + 1, x6, x7, x8, x9 => if x9 ≤ 0 then ((quick_Small.f k x7 x8).bind fun bt182 => (if bt182.2 = true then (some (Go.bits .or .u64 bt182.1 x6, true)) else ((quick_Step.f k x7 x8).bind fun bt184 => (if bt184.2 = true then (some (Go.bits .or .u64 bt184.1 x6, true)) else (some (0, false)))))) else ((quick_Step.f k x7 (wrap64 (x8 + x9))).bind fun bt186 => ((quick_Step.f k (IntKind.u64.wrap (x7 + 1)) (wrap64 (x8 + x9))).bind fun bt188 => (if bt186.2 = true then (if bt188.2 = true then (if bt186.1 = bt188.1 then (some (Go.bits .or .u64 bt186.1 x6, true)) else (some (0, false))) else (some (0, false))) else (some (0, false)))))
def quick_Try.l0 : Nat → Int → Int → Int → Int → Int → Bool → ByteArray → Int → Option (Int × Bool)
 | 0, _, _, _, _, _, _, _, _ => none
 | k + 1, x6, x7, x8, x9, x10, x177000, x177001, x177002 => if x10 < (x177001.size : Int) then (if x10 < 19 then (if 0 ≤ x10 then (quick_Try.l0 k x6 (IntKind.u64.wrap ((IntKind.u64.wrap (10 * x7)) + (((bt x177001 x10) - 48) % 256))) x8 x9 (wrap64 (x10 + 1)) x177000 x177001 x177002) else (none)) else (quick_Try.j3 k x6 x7 x8 x9)) else (quick_Try.j3 k x6 x7 x8 x9)
end
def quick_Try.f (k : Nat) (a0_0 : Bool) (a0_1 : ByteArray) (a0_2 : Int) : Option (Int × Bool) := (scan_Norm.f k a0_0 a0_1 a0_2).bind fun bt177 => (if bt177.2.2.2 = 0 then (quick_Try.j0 k (!(bt177.1 == a0_0) || (!(bt177.2.1.toList == a0_1.toList) || (!(bt177.2.2.1 == a0_2)))) a0_0 a0_1 a0_2) else (quick_Try.j0 k true a0_0 a0_1 a0_2))
theorem quick_Try.mono_l : ∀ k, (∀ y0 y1 y2 y3, LeO (quick_Try.j0 k y0 y1 y2 y3) (quick_Try.j0 (k + 1) y0 y1 y2 y3)) ∧ (∀ y0 y1 y2 y3, LeO (quick_Try.j1 k y0 y1 y2 y3) (quick_Try.j1 (k + 1) y0 y1 y2 y3)) ∧ (∀ y0 y1 y2 y3, LeO (quick_Try.j3 k y0 y1 y2 y3) (quick_Try.j3 (k + 1) y0 y1 y2 y3)) ∧ (∀ y0 y1 y2 y3 y4 y5 y6 y7, LeO (quick_Try.l0 k y0 y1 y2 y3 y4 y5 y6 y7) (quick_Try.l0 (k + 1) y0 y1 y2 y3 y4 y5 y6 y7))
 | 0 => ⟨fun _ _ _ _ r h => by simp [quick_Try.j0] at h, fun _ _ _ _ r h => by simp [quick_Try.j1] at h, fun _ _ _ _ r h => by simp [quick_Try.j3] at h, fun _ _ _ _ _ _ _ _ r h => by simp [quick_Try.l0] at h⟩
 | k + 1 => by
  obtain ⟨ih0, ih1, ih2, ih3⟩ := quick_Try.mono_l k
  refine ⟨?_, ?_, ?_, ?_⟩
  ·intro y0 y1 y2 y3
   unfold quick_Try.j0
   repeat' first
   | (with_reducible exact ih0 _ _ _ _)
   | (with_reducible exact ih1 _ _ _ _)
   | (with_reducible exact ih2 _ _ _ _)
   | (with_reducible exact ih3 _ _ _ _ _ _ _ _)
   | (with_reducible exact quick_Small.mono _ _ _)
   | (with_reducible exact quick_Step.mono _ _ _)
   | (with_reducible exact scan_Norm.mono _ _ _ _)
   | (with_reducible exact LeO.refl _)
   | (with_reducible exact LeO.none _)
   | (with_reducible refine LeO.ite ?_ ?_)
   | (with_reducible refine LeO.bind ?_ (fun _ => ?_))
   | exact ih0 _ _ _ _
   | exact ih1 _ _ _ _
   | exact ih2 _ _ _ _
   | exact ih3 _ _ _ _ _ _ _ _
   | exact quick_Small.mono _ _ _
   | exact quick_Step.mono _ _ _
   | exact scan_Norm.mono _ _ _ _
   | exact LeO.none _
   | refine LeO.ite ?_ ?_
   | refine LeO.bind ?_ (fun _ => ?_)
  ·intro y0 y1 y2 y3
   unfold quick_Try.j1
   repeat' first
   | (with_reducible exact ih0 _ _ _ _)
   | (with_reducible exact ih1 _ _ _ _)
   | (with_reducible exact ih2 _ _ _ _)
   | (with_reducible exact ih3 _ _ _ _ _ _ _ _)
   | (with_reducible exact quick_Small.mono _ _ _)
   | (with_reducible exact quick_Step.mono _ _ _)
   | (with_reducible exact scan_Norm.mono _ _ _ _)
   | (with_reducible exact LeO.refl _)
   | (with_reducible exact LeO.none _)
   | (with_reducible refine LeO.ite ?_ ?_)
   | (with_reducible refine LeO.bind ?_ (fun _ => ?_))
   | exact ih0 _ _ _ _
   | exact ih1 _ _ _ _
   | exact ih2 _ _ _ _
   | exact ih3 _ _ _ _ _ _ _ _
   | exact quick_Small.mono _ _ _
   | exact quick_Step.mono _ _ _
   | exact scan_Norm.mono _ _ _ _
   | exact LeO.none _
   | refine LeO.ite ?_ ?_
   | refine LeO.bind ?_ (fun _ => ?_)
  ·intro y0 y1 y2 y3
   unfold quick_Try.j3
   repeat' first
   | (with_reducible exact ih0 _ _ _ _)
   | (with_reducible exact ih1 _ _ _ _)
   | (with_reducible exact ih2 _ _ _ _)
   | (with_reducible exact ih3 _ _ _ _ _ _ _ _)
   | (with_reducible exact quick_Small.mono _ _ _)
   | (with_reducible exact quick_Step.mono _ _ _)
   | (with_reducible exact scan_Norm.mono _ _ _ _)
   | (with_reducible exact LeO.refl _)
   | (with_reducible exact LeO.none _)
   | (with_reducible refine LeO.ite ?_ ?_)
   | (with_reducible refine LeO.bind ?_ (fun _ => ?_))
   | exact ih0 _ _ _ _
   | exact ih1 _ _ _ _
   | exact ih2 _ _ _ _
   | exact ih3 _ _ _ _ _ _ _ _
   | exact quick_Small.mono _ _ _
   | exact quick_Step.mono _ _ _
   | exact scan_Norm.mono _ _ _ _
   | exact LeO.none _
   | refine LeO.ite ?_ ?_
   | refine LeO.bind ?_ (fun _ => ?_)
  ·intro y0 y1 y2 y3 y4 y5 y6 y7
   unfold quick_Try.l0
   repeat' first
   | (with_reducible exact ih0 _ _ _ _)
   | (with_reducible exact ih1 _ _ _ _)
   | (with_reducible exact ih2 _ _ _ _)
   | (with_reducible exact ih3 _ _ _ _ _ _ _ _)
   | (with_reducible exact quick_Small.mono _ _ _)
   | (with_reducible exact quick_Step.mono _ _ _)
   | (with_reducible exact scan_Norm.mono _ _ _ _)
   | (with_reducible exact LeO.refl _)
   | (with_reducible exact LeO.none _)
   | (with_reducible refine LeO.ite ?_ ?_)
   | (with_reducible refine LeO.bind ?_ (fun _ => ?_))
   | exact ih0 _ _ _ _
   | exact ih1 _ _ _ _
   | exact ih2 _ _ _ _
   | exact ih3 _ _ _ _ _ _ _ _
   | exact quick_Small.mono _ _ _
   | exact quick_Step.mono _ _ _
   | exact scan_Norm.mono _ _ _ _
   | exact LeO.none _
   | refine LeO.ite ?_ ?_
   | refine LeO.bind ?_ (fun _ => ?_)
theorem quick_Try.mono : ∀ a0 a1 a2 k, LeO (quick_Try.f k a0 a1 a2) (quick_Try.f (k + 1) a0 a1 a2) := by
 intro a0 a1 a2 k
 obtain ⟨ih0, ih1, ih2, ih3⟩ := quick_Try.mono_l k
 unfold quick_Try.f
 repeat' first
   | (with_reducible exact ih0 _ _ _ _)
   | (with_reducible exact ih1 _ _ _ _)
   | (with_reducible exact ih2 _ _ _ _)
   | (with_reducible exact ih3 _ _ _ _ _ _ _ _)
   | (with_reducible exact quick_Small.mono _ _ _)
   | (with_reducible exact quick_Step.mono _ _ _)
   | (with_reducible exact scan_Norm.mono _ _ _ _)
   | (with_reducible exact LeO.refl _)
   | (with_reducible exact LeO.none _)
   | (with_reducible refine LeO.ite ?_ ?_)
   | (with_reducible refine LeO.bind ?_ (fun _ => ?_))
   | exact ih0 _ _ _ _
   | exact ih1 _ _ _ _
   | exact ih2 _ _ _ _
   | exact ih3 _ _ _ _ _ _ _ _
   | exact quick_Small.mono _ _ _
   | exact quick_Step.mono _ _ _
   | exact scan_Norm.mono _ _ _ _
   | exact LeO.none _
   | refine LeO.ite ?_ ?_
   | refine LeO.bind ?_ (fun _ => ?_)
set_option maxHeartbeats 8000000 in
set_option maxRecDepth 100000 in
theorem quick_Try.calls (k : Nat) (a0_0 : Bool) (a0_1 : ByteArray) (a0_2 : Int) (r1 : Int) (r2 : Bool) (w : World) (hT : Tabs w) (h : quick_Try.f k a0_0 a0_1 a0_2 = some (r1, r2)) :
  Calls Tryz.prog 206 #[.agg #[.bool a0_0, .string a0_1, .int .i64 a0_2]] w fun e w' => e = .returned (.tuple #[.int .u64 r1, .bool r2]) ∧ Below w.heap.size w w' := by
 have hu93 := Tryz.underlying93
 have HB := Aside0.mk (Below.refl w.heap.size w)
 have H : ((scan_Norm.f k a0_0 a0_1 a0_2).bind fun bt177 => (if bt177.2.2.2 = 0 then (quick_Try.j0 k (!(bt177.1 == a0_0) || (!(bt177.2.1.toList == a0_1.toList) || (!(bt177.2.2.1 == a0_2)))) a0_0 a0_1 a0_2) else (quick_Try.j0 k true a0_0 a0_1 a0_2))) = some (r1, r2) := h
 clear h
 replace H := Option.bind_eq_some_iff.mp H
 obtain ⟨⟨t177, t178, t179, t180⟩, A20, H⟩ := H
 replace H : (if t180 = 0 then (quick_Try.j0 k (!(t177 == a0_0) || (!(t178.toList == a0_1.toList) || (!(t179 == a0_2)))) a0_0 a0_1 a0_2) else (quick_Try.j0 k true a0_0 a0_1 a0_2)) = some (r1, r2) := H
 have A2 := Aside0.mk A20
 clear A20
 have HC3 := Aside0.mk H
 clear H
 go_enter Tryz.func206, Tryz.ntmps206
 go_upto_region 2 with (first | ((with_reducible refine gate_dst (N := 1) rfl ?_); refine box_event ?hg (N := 1) ?hd (cs := #[.bool a0_0, .string a0_1, .int .i64 a0_2]) (t := 93) ?hr ?_; (case hd => rfl); (case hg => rfl); (case hr => first | (go_simp; done) | (go_simp; rfl)); intro gb176 hg w4 hbox hb; have n0_ := Aside0.mk (below_step (by repeat (first | exact HB.out | apply below_alloc | apply pw_below_drewN | apply below_drew1)) hb); have n1_ := Aside0.mk (hbox); have n2_ := Aside0.mk ((by rw [hg]; exact (below_size (by repeat (first | exact HB.out | apply below_alloc | apply pw_below_drewN | apply below_drew1))) : w.heap.size ≤ gb176)); have n3_ := Aside0.mk ((by rw [hg]; exact (below_size (by repeat (first | exact HB.out | apply below_alloc | apply pw_below_drewN | apply below_drew1))) : w.heap.size ≤ gb176)); clear HB; have HB := n0_; have BK176 := n1_; have GW176 := n2_; have GE176 := n3_; clear n0_ n1_ n2_ n3_; clear hb hbox hg; have hcz5_0 : w4.cell? ⟨gb176, 0, none⟩ = some (.bool a0_0) := (blk_cell BK176.out 0).trans rfl; have hcz5_1 : w4.cell? ⟨gb176, 1, none⟩ = some (.string a0_1) := (blk_cell BK176.out 1).trans rfl; have hcz5_2 : w4.cell? ⟨gb176, 2, none⟩ = some (.int .i64 a0_2) := (blk_cell BK176.out 2).trans rfl; have hfz5_0 := blk_frozen BK176.out 0; have hfz5_1 := blk_frozen BK176.out 1; have hfz5_2 := blk_frozen BK176.out 2) | (go_at_call 96; (with_reducible refine (scan_Norm.calls k a0_0 a0_1 a0_2 t177 t178 t179 t180 _ A2.out).mono ?_); rintro e w6 ⟨rfl, hb⟩; have n0_ := Aside0.mk (blk_below (g := gb176) (o := .cells #[.bool a0_0, .string a0_1, .int .i64 a0_2] 93 (0, 0)) (by (with_reducible repeat (first | refine blk_drewN ?_ _ | refine blk_drew ?_ | refine blk_alloc ?_ _)); exact BK176.out) hb); have n1_ := Aside0.mk (below_step (by repeat (first | (with_reducible first | exact HB.out | apply below_alloc | apply pw_below_drewN | apply below_drew1 | refine below_set ?_ GE176.out) | exact HB.out)) hb); clear BK176; clear HB; have BK176 := n0_; have HB := n1_; clear n0_ n1_; (try clear hb); (try clear hb2); (try clear hk); (try clear hi)) | ((with_reducible refine gate_dst (N := 4) rfl ?_); refine box_event ?hg (N := 4) ?hd (cs := #[.bool false, .string (⟨#[]⟩ : ByteArray), .int .i64 0]) (t := 93) ?hr ?_; (case hd => rfl); (case hg => rfl); (case hr => first | (go_simp; done) | (go_simp; rfl)); intro gb181 hg w7 hbox hb; have n0_ := Aside0.mk (blk_below (g := gb176) (o := .cells #[.bool a0_0, .string a0_1, .int .i64 a0_2] 93 (0, 0)) (by (with_reducible repeat (first | refine blk_drewN ?_ _ | refine blk_drew ?_ | refine blk_alloc ?_ _)); exact BK176.out) hb); have n1_ := Aside0.mk (below_step (by repeat (first | (with_reducible first | exact HB.out | apply below_alloc | apply pw_below_drewN | apply below_drew1 | refine below_set ?_ GE176.out) | exact HB.out)) hb); have n2_ := Aside0.mk (hbox); have n3_ := Aside0.mk ((by rw [hg]; exact (below_size (by repeat (first | (with_reducible first | exact HB.out | apply below_alloc | apply pw_below_drewN | apply below_drew1 | refine below_set ?_ GE176.out) | exact HB.out))) : w.heap.size ≤ gb181)); have n4_ := Aside0.mk ((by rw [hg]; exact (below_size (by repeat (first | (with_reducible first | exact HB.out | apply below_alloc | apply pw_below_drewN | apply below_drew1 | refine below_set ?_ GE176.out) | exact HB.out))) : w.heap.size ≤ gb181)); have n5_ := Aside0.mk ((by rw [hg]; exact Nat.ne_of_lt (blk_lt (g := gb176) (o := .cells #[.bool a0_0, .string a0_1, .int .i64 a0_2] 93 (0, 0)) (by (with_reducible repeat (first | refine blk_drewN ?_ _ | refine blk_drew ?_ | refine blk_alloc ?_ _)); exact BK176.out)) : gb176 ≠ gb181)); have n6_ := Aside0.mk ((by rw [hg]; exact Nat.ne_of_gt (blk_lt (g := gb176) (o := .cells #[.bool a0_0, .string a0_1, .int .i64 a0_2] 93 (0, 0)) (by (with_reducible repeat (first | refine blk_drewN ?_ _ | refine blk_drew ?_ | refine blk_alloc ?_ _)); exact BK176.out)) : gb181 ≠ gb176)); clear BK176; clear HB; have BK176 := n0_; have HB := n1_; have BK181 := n2_; have GW181 := n3_; have GE181 := n4_; have NB176_181 := n5_; have NB181_176 := n6_; clear n0_ n1_ n2_ n3_ n4_ n5_ n6_; clear hb hbox hg; have hnb8 := NB181_176.out; have hnc8 := NB176_181.out; have hcz9_0 : w7.cell? ⟨gb181, 0, none⟩ = some (.bool false) := (blk_cell BK181.out 0).trans rfl; have hcz9_1 : w7.cell? ⟨gb181, 1, none⟩ = some (.string (⟨#[]⟩ : ByteArray)) := (blk_cell BK181.out 1).trans rfl; have hcz9_2 : w7.cell? ⟨gb181, 2, none⟩ = some (.int .i64 0) := (blk_cell BK181.out 2).trans rfl; have hfz9_0 := blk_frozen BK181.out 0; have hfz9_1 := blk_frozen BK181.out 1; have hfz9_2 := blk_frozen BK181.out 2))
 repeat (go_quiet (first | ((with_reducible refine gate_dst (N := 1) rfl ?_); refine box_event ?hg (N := 1) ?hd (cs := #[.bool a0_0, .string a0_1, .int .i64 a0_2]) (t := 93) ?hr ?_; (case hd => rfl); (case hg => rfl); (case hr => first | (go_simp; done) | (go_simp; rfl)); intro gb176 hg w4 hbox hb; have n0_ := Aside0.mk (below_step (by repeat (first | exact HB.out | apply below_alloc | apply pw_below_drewN | apply below_drew1)) hb); have n1_ := Aside0.mk (hbox); have n2_ := Aside0.mk ((by rw [hg]; exact (below_size (by repeat (first | exact HB.out | apply below_alloc | apply pw_below_drewN | apply below_drew1))) : w.heap.size ≤ gb176)); have n3_ := Aside0.mk ((by rw [hg]; exact (below_size (by repeat (first | exact HB.out | apply below_alloc | apply pw_below_drewN | apply below_drew1))) : w.heap.size ≤ gb176)); clear HB; have HB := n0_; have BK176 := n1_; have GW176 := n2_; have GE176 := n3_; clear n0_ n1_ n2_ n3_; clear hb hbox hg; have hcz5_0 : w4.cell? ⟨gb176, 0, none⟩ = some (.bool a0_0) := (blk_cell BK176.out 0).trans rfl; have hcz5_1 : w4.cell? ⟨gb176, 1, none⟩ = some (.string a0_1) := (blk_cell BK176.out 1).trans rfl; have hcz5_2 : w4.cell? ⟨gb176, 2, none⟩ = some (.int .i64 a0_2) := (blk_cell BK176.out 2).trans rfl; have hfz5_0 := blk_frozen BK176.out 0; have hfz5_1 := blk_frozen BK176.out 1; have hfz5_2 := blk_frozen BK176.out 2) | (go_at_call 96; (with_reducible refine (scan_Norm.calls k a0_0 a0_1 a0_2 t177 t178 t179 t180 _ A2.out).mono ?_); rintro e w6 ⟨rfl, hb⟩; have n0_ := Aside0.mk (blk_below (g := gb176) (o := .cells #[.bool a0_0, .string a0_1, .int .i64 a0_2] 93 (0, 0)) (by (with_reducible repeat (first | refine blk_drewN ?_ _ | refine blk_drew ?_ | refine blk_alloc ?_ _)); exact BK176.out) hb); have n1_ := Aside0.mk (below_step (by repeat (first | (with_reducible first | exact HB.out | apply below_alloc | apply pw_below_drewN | apply below_drew1 | refine below_set ?_ GE176.out) | exact HB.out)) hb); clear BK176; clear HB; have BK176 := n0_; have HB := n1_; clear n0_ n1_; (try clear hb); (try clear hb2); (try clear hk); (try clear hi)) | ((with_reducible refine gate_dst (N := 4) rfl ?_); refine box_event ?hg (N := 4) ?hd (cs := #[.bool false, .string (⟨#[]⟩ : ByteArray), .int .i64 0]) (t := 93) ?hr ?_; (case hd => rfl); (case hg => rfl); (case hr => first | (go_simp; done) | (go_simp; rfl)); intro gb181 hg w7 hbox hb; have n0_ := Aside0.mk (blk_below (g := gb176) (o := .cells #[.bool a0_0, .string a0_1, .int .i64 a0_2] 93 (0, 0)) (by (with_reducible repeat (first | refine blk_drewN ?_ _ | refine blk_drew ?_ | refine blk_alloc ?_ _)); exact BK176.out) hb); have n1_ := Aside0.mk (below_step (by repeat (first | (with_reducible first | exact HB.out | apply below_alloc | apply pw_below_drewN | apply below_drew1 | refine below_set ?_ GE176.out) | exact HB.out)) hb); have n2_ := Aside0.mk (hbox); have n3_ := Aside0.mk ((by rw [hg]; exact (below_size (by repeat (first | (with_reducible first | exact HB.out | apply below_alloc | apply pw_below_drewN | apply below_drew1 | refine below_set ?_ GE176.out) | exact HB.out))) : w.heap.size ≤ gb181)); have n4_ := Aside0.mk ((by rw [hg]; exact (below_size (by repeat (first | (with_reducible first | exact HB.out | apply below_alloc | apply pw_below_drewN | apply below_drew1 | refine below_set ?_ GE176.out) | exact HB.out))) : w.heap.size ≤ gb181)); have n5_ := Aside0.mk ((by rw [hg]; exact Nat.ne_of_lt (blk_lt (g := gb176) (o := .cells #[.bool a0_0, .string a0_1, .int .i64 a0_2] 93 (0, 0)) (by (with_reducible repeat (first | refine blk_drewN ?_ _ | refine blk_drew ?_ | refine blk_alloc ?_ _)); exact BK176.out)) : gb176 ≠ gb181)); have n6_ := Aside0.mk ((by rw [hg]; exact Nat.ne_of_gt (blk_lt (g := gb176) (o := .cells #[.bool a0_0, .string a0_1, .int .i64 a0_2] 93 (0, 0)) (by (with_reducible repeat (first | refine blk_drewN ?_ _ | refine blk_drew ?_ | refine blk_alloc ?_ _)); exact BK176.out)) : gb181 ≠ gb176)); clear BK176; clear HB; have BK176 := n0_; have HB := n1_; have BK181 := n2_; have GW181 := n3_; have GE181 := n4_; have NB176_181 := n5_; have NB181_176 := n6_; clear n0_ n1_ n2_ n3_ n4_ n5_ n6_; clear hb hbox hg; have hnb8 := NB181_176.out; have hnc8 := NB176_181.out; have hcz9_0 : w7.cell? ⟨gb181, 0, none⟩ = some (.bool false) := (blk_cell BK181.out 0).trans rfl; have hcz9_1 : w7.cell? ⟨gb181, 1, none⟩ = some (.string (⟨#[]⟩ : ByteArray)) := (blk_cell BK181.out 1).trans rfl; have hcz9_2 : w7.cell? ⟨gb181, 2, none⟩ = some (.int .i64 0) := (blk_cell BK181.out 2).trans rfl; have hfz9_0 := blk_frozen BK181.out 0; have hfz9_1 := blk_frozen BK181.out 1; have hfz9_2 := blk_frozen BK181.out 2)); go_upto_region 2 with (first | ((with_reducible refine gate_dst (N := 1) rfl ?_); refine box_event ?hg (N := 1) ?hd (cs := #[.bool a0_0, .string a0_1, .int .i64 a0_2]) (t := 93) ?hr ?_; (case hd => rfl); (case hg => rfl); (case hr => first | (go_simp; done) | (go_simp; rfl)); intro gb176 hg w4 hbox hb; have n0_ := Aside0.mk (below_step (by repeat (first | exact HB.out | apply below_alloc | apply pw_below_drewN | apply below_drew1)) hb); have n1_ := Aside0.mk (hbox); have n2_ := Aside0.mk ((by rw [hg]; exact (below_size (by repeat (first | exact HB.out | apply below_alloc | apply pw_below_drewN | apply below_drew1))) : w.heap.size ≤ gb176)); have n3_ := Aside0.mk ((by rw [hg]; exact (below_size (by repeat (first | exact HB.out | apply below_alloc | apply pw_below_drewN | apply below_drew1))) : w.heap.size ≤ gb176)); clear HB; have HB := n0_; have BK176 := n1_; have GW176 := n2_; have GE176 := n3_; clear n0_ n1_ n2_ n3_; clear hb hbox hg; have hcz5_0 : w4.cell? ⟨gb176, 0, none⟩ = some (.bool a0_0) := (blk_cell BK176.out 0).trans rfl; have hcz5_1 : w4.cell? ⟨gb176, 1, none⟩ = some (.string a0_1) := (blk_cell BK176.out 1).trans rfl; have hcz5_2 : w4.cell? ⟨gb176, 2, none⟩ = some (.int .i64 a0_2) := (blk_cell BK176.out 2).trans rfl; have hfz5_0 := blk_frozen BK176.out 0; have hfz5_1 := blk_frozen BK176.out 1; have hfz5_2 := blk_frozen BK176.out 2) | (go_at_call 96; (with_reducible refine (scan_Norm.calls k a0_0 a0_1 a0_2 t177 t178 t179 t180 _ A2.out).mono ?_); rintro e w6 ⟨rfl, hb⟩; have n0_ := Aside0.mk (blk_below (g := gb176) (o := .cells #[.bool a0_0, .string a0_1, .int .i64 a0_2] 93 (0, 0)) (by (with_reducible repeat (first | refine blk_drewN ?_ _ | refine blk_drew ?_ | refine blk_alloc ?_ _)); exact BK176.out) hb); have n1_ := Aside0.mk (below_step (by repeat (first | (with_reducible first | exact HB.out | apply below_alloc | apply pw_below_drewN | apply below_drew1 | refine below_set ?_ GE176.out) | exact HB.out)) hb); clear BK176; clear HB; have BK176 := n0_; have HB := n1_; clear n0_ n1_; (try clear hb); (try clear hb2); (try clear hk); (try clear hi)) | ((with_reducible refine gate_dst (N := 4) rfl ?_); refine box_event ?hg (N := 4) ?hd (cs := #[.bool false, .string (⟨#[]⟩ : ByteArray), .int .i64 0]) (t := 93) ?hr ?_; (case hd => rfl); (case hg => rfl); (case hr => first | (go_simp; done) | (go_simp; rfl)); intro gb181 hg w7 hbox hb; have n0_ := Aside0.mk (blk_below (g := gb176) (o := .cells #[.bool a0_0, .string a0_1, .int .i64 a0_2] 93 (0, 0)) (by (with_reducible repeat (first | refine blk_drewN ?_ _ | refine blk_drew ?_ | refine blk_alloc ?_ _)); exact BK176.out) hb); have n1_ := Aside0.mk (below_step (by repeat (first | (with_reducible first | exact HB.out | apply below_alloc | apply pw_below_drewN | apply below_drew1 | refine below_set ?_ GE176.out) | exact HB.out)) hb); have n2_ := Aside0.mk (hbox); have n3_ := Aside0.mk ((by rw [hg]; exact (below_size (by repeat (first | (with_reducible first | exact HB.out | apply below_alloc | apply pw_below_drewN | apply below_drew1 | refine below_set ?_ GE176.out) | exact HB.out))) : w.heap.size ≤ gb181)); have n4_ := Aside0.mk ((by rw [hg]; exact (below_size (by repeat (first | (with_reducible first | exact HB.out | apply below_alloc | apply pw_below_drewN | apply below_drew1 | refine below_set ?_ GE176.out) | exact HB.out))) : w.heap.size ≤ gb181)); have n5_ := Aside0.mk ((by rw [hg]; exact Nat.ne_of_lt (blk_lt (g := gb176) (o := .cells #[.bool a0_0, .string a0_1, .int .i64 a0_2] 93 (0, 0)) (by (with_reducible repeat (first | refine blk_drewN ?_ _ | refine blk_drew ?_ | refine blk_alloc ?_ _)); exact BK176.out)) : gb176 ≠ gb181)); have n6_ := Aside0.mk ((by rw [hg]; exact Nat.ne_of_gt (blk_lt (g := gb176) (o := .cells #[.bool a0_0, .string a0_1, .int .i64 a0_2] 93 (0, 0)) (by (with_reducible repeat (first | refine blk_drewN ?_ _ | refine blk_drew ?_ | refine blk_alloc ?_ _)); exact BK176.out)) : gb181 ≠ gb176)); clear BK176; clear HB; have BK176 := n0_; have HB := n1_; have BK181 := n2_; have GW181 := n3_; have GE181 := n4_; have NB176_181 := n5_; have NB181_176 := n6_; clear n0_ n1_ n2_ n3_ n4_ n5_ n6_; clear hb hbox hg; have hnb8 := NB181_176.out; have hnc8 := NB176_181.out; have hcz9_0 : w7.cell? ⟨gb181, 0, none⟩ = some (.bool false) := (blk_cell BK181.out 0).trans rfl; have hcz9_1 : w7.cell? ⟨gb181, 1, none⟩ = some (.string (⟨#[]⟩ : ByteArray)) := (blk_cell BK181.out 1).trans rfl; have hcz9_2 : w7.cell? ⟨gb181, 2, none⟩ = some (.int .i64 0) := (blk_cell BK181.out 2).trans rfl; have hfz9_0 := blk_frozen BK181.out 0; have hfz9_1 := blk_frozen BK181.out 1; have hfz9_2 := blk_frozen BK181.out 2)))
 (try simp only [Act.put, List.setIfInBounds_toArray, List.set_cons_zero, List.set_cons_succ])
 go_cut [28] (fun v28 wc => ∃ (kq : Nat) (x28_2 : Bool), v28 = .bool x28_2 ∧ Aside0 (quick_Try.j0 kq x28_2 a0_0 a0_1 a0_2 = some (r1, r2)) ∧ Aside0 (kq ≤ k) ∧ Aside0 (wc.heap[gb176]? = some (.cells #[.bool a0_0, .string a0_1, .int .i64 a0_2] 93 (0, 0))) ∧ Aside0 (wc.heap[gb181]? = some (.cells #[.bool t177, .string t178, .int .i64 t179] 93 (0, 0))) ∧ Aside0 (Below w.heap.size w wc))
 case first =>
  have H := HC3.out
  clear HC3
  by_cases c10 : t180 = 0
  ·rw [if_pos c10] at H
   have c10b0 : (t180 == 0) = true := beq_iff_eq.mpr c10
   have c10b1 : (t180 != 0) = false := bne_eq_false_iff_eq.mpr c10
   clear c10
   (first | rw [c10b0] | (simp only [i64_w, i32_w]; rw [c10b0]) | skip)
   have H' := Aside0.mk H
   clear H
   have hnb11 := NB181_176.out
   have hnc11 := NB176_181.out
   have hcz12_0 : w7.cell? ⟨gb181, 0, none⟩ = some (.bool false) := (blk_cell BK181.out 0).trans rfl
   have hcz12_1 : w7.cell? ⟨gb181, 1, none⟩ = some (.string (⟨#[]⟩ : ByteArray)) := (blk_cell BK181.out 1).trans rfl
   have hcz12_2 : w7.cell? ⟨gb181, 2, none⟩ = some (.int .i64 0) := (blk_cell BK181.out 2).trans rfl
   have hfz12_0 := blk_frozen BK181.out 0
   have hfz12_1 := blk_frozen BK181.out 1
   have hfz12_2 := blk_frozen BK181.out 2
   have hcz13_0 : w7.cell? ⟨gb176, 0, none⟩ = some (.bool a0_0) := (blk_cell BK176.out 0).trans rfl
   have hcz13_1 : w7.cell? ⟨gb176, 1, none⟩ = some (.string a0_1) := (blk_cell BK176.out 1).trans rfl
   have hcz13_2 : w7.cell? ⟨gb176, 2, none⟩ = some (.int .i64 a0_2) := (blk_cell BK176.out 2).trans rfl
   have hfz13_0 := blk_frozen BK176.out 0
   have hfz13_1 := blk_frozen BK176.out 1
   have hfz13_2 := blk_frozen BK176.out 2
   go_wp2
   repeat (go_quiet (fail); try go_wp2)
   go_meet
   case rel => exact ⟨_, ((!(t177 == a0_0) || (!(t178.toList == a0_1.toList) || (!(t179 == a0_2))))), (by first | rfl | (simp; done) | (simp [*]; done)), H', ⟨by first | omega | exact Nat.le_refl _⟩, ⟨by (with_reducible repeat (first | refine blk_drewN ?_ _ | refine blk_drew ?_ | refine blk_alloc ?_ _)); refine blk_far ?_ NB176_181.out _; (with_reducible repeat (first | refine blk_drewN ?_ _ | refine blk_drew ?_ | refine blk_alloc ?_ _)); refine blk_far ?_ NB176_181.out _; (with_reducible repeat (first | refine blk_drewN ?_ _ | refine blk_drew ?_ | refine blk_alloc ?_ _)); refine blk_far ?_ NB176_181.out _; (with_reducible repeat (first | refine blk_drewN ?_ _ | refine blk_drew ?_ | refine blk_alloc ?_ _)); exact BK176.out⟩, ⟨by (with_reducible repeat (first | refine blk_drewN ?_ _ | refine blk_drew ?_ | refine blk_alloc ?_ _)); refine blk_put (cs := #[.bool t177, .string t178, .int .i64 0]) ?_ 2 _ rfl; (with_reducible repeat (first | refine blk_drewN ?_ _ | refine blk_drew ?_ | refine blk_alloc ?_ _)); refine blk_put (cs := #[.bool t177, .string (⟨#[]⟩ : ByteArray), .int .i64 0]) ?_ 1 _ rfl; (with_reducible repeat (first | refine blk_drewN ?_ _ | refine blk_drew ?_ | refine blk_alloc ?_ _)); refine blk_put (cs := #[.bool false, .string (⟨#[]⟩ : ByteArray), .int .i64 0]) ?_ 0 _ rfl; (with_reducible repeat (first | refine blk_drewN ?_ _ | refine blk_drew ?_ | refine blk_alloc ?_ _)); exact BK181.out⟩, ⟨by repeat (first | (with_reducible first | exact HB.out | apply below_alloc | apply pw_below_drewN | apply below_drew1 | refine below_set ?_ GE176.out | refine below_set ?_ GE181.out) | exact HB.out)⟩⟩
  ·rw [if_neg c10] at H
   have c10b0 : (t180 == 0) = false := beq_eq_false_iff_ne.mpr c10
   have c10b1 : (t180 != 0) = true := bne_iff_ne.mpr c10
   (first | rw [c10b0] | (simp only [i64_w, i32_w]; rw [c10b0]) | skip)
   have H' := Aside0.mk H
   clear H
   go_wp2
   repeat (go_quiet (fail); try go_wp2)
   go_meet
   case rel => exact ⟨_, (true), (by first | rfl | (simp; done) | (simp [*]; done)), H', ⟨by first | omega | exact Nat.le_refl _⟩, ⟨by (with_reducible repeat (first | refine blk_drewN ?_ _ | refine blk_drew ?_ | refine blk_alloc ?_ _)); refine blk_far ?_ NB176_181.out _; (with_reducible repeat (first | refine blk_drewN ?_ _ | refine blk_drew ?_ | refine blk_alloc ?_ _)); refine blk_far ?_ NB176_181.out _; (with_reducible repeat (first | refine blk_drewN ?_ _ | refine blk_drew ?_ | refine blk_alloc ?_ _)); refine blk_far ?_ NB176_181.out _; (with_reducible repeat (first | refine blk_drewN ?_ _ | refine blk_drew ?_ | refine blk_alloc ?_ _)); exact BK176.out⟩, ⟨by (with_reducible repeat (first | refine blk_drewN ?_ _ | refine blk_drew ?_ | refine blk_alloc ?_ _)); refine blk_put (cs := #[.bool t177, .string t178, .int .i64 0]) ?_ 2 _ rfl; (with_reducible repeat (first | refine blk_drewN ?_ _ | refine blk_drew ?_ | refine blk_alloc ?_ _)); refine blk_put (cs := #[.bool t177, .string (⟨#[]⟩ : ByteArray), .int .i64 0]) ?_ 1 _ rfl; (with_reducible repeat (first | refine blk_drewN ?_ _ | refine blk_drew ?_ | refine blk_alloc ?_ _)); refine blk_put (cs := #[.bool false, .string (⟨#[]⟩ : ByteArray), .int .i64 0]) ?_ 0 _ rfl; (with_reducible repeat (first | refine blk_drewN ?_ _ | refine blk_drew ?_ | refine blk_alloc ?_ _)); exact BK181.out⟩, ⟨by repeat (first | (with_reducible first | exact HB.out | apply below_alloc | apply pw_below_drewN | apply below_drew1 | refine below_set ?_ GE176.out | refine below_set ?_ GE181.out) | exact HB.out)⟩⟩
 case rest =>
  clear HC3
  try clear c1
  try clear c2
  try clear p2
  try clear c8
  try clear c10
  try clear c10b0
  try clear c10b1
  try clear c11
  try clear hcz12_0
  try clear hcz12_1
  try clear hcz12_2
  try clear hcz13_0
  try clear hcz13_1
  try clear hcz13_2
  try clear hcz5_0
  try clear hcz5_1
  try clear hcz5_2
  try clear hcz9_0
  try clear hcz9_1
  try clear hcz9_2
  try clear hfz12_0
  try clear hfz12_1
  try clear hfz12_2
  try clear hfz13_0
  try clear hfz13_1
  try clear hfz13_2
  try clear hfz5_0
  try clear hfz5_1
  try clear hfz5_2
  try clear hfz9_0
  try clear hfz9_1
  try clear hfz9_2
  obtain ⟨kq, x28_2, rfl, HA, HJ2, BK176, BK181, HB⟩ := hcut
  cases kq with
  | zero => exact absurd HA.out (by simp [quick_Try.j0])
  | succ kj2 =>
   have H := HA.out
   clear HA
   simp only [quick_Try.j0] at H
   by_cases c14 : x28_2 = true
   ·subst c14
    have H1 : (some (0, false)) = some (r1, r2) := by rw [if_pos rfl] at H; exact H
    clear H
    have H := H1
    clear H1
    simp only [Option.some.injEq, Prod.mk.injEq] at H
    obtain ⟨rfl, rfl⟩ := H
    go_wp2
    repeat (go_quiet (fail); try go_wp2)
    go_ret2
    exact ⟨by first | rfl | (simp [errW_none, errW_some] <;> rfl) | (simp [*, errW_none, errW_some] <;> rfl), by repeat (first | (with_reducible first | exact HB.out | apply below_alloc | apply pw_below_drewN | apply below_drew1 | refine below_set ?_ GE176.out | refine below_set ?_ GE181.out) | exact HB.out)⟩
   ·replace c14 := Bool.eq_false_iff.mpr c14
    subst c14
    have H1 : (if a0_0 = true then (quick_Try.j1 kj2 9223372036854775808 a0_0 a0_1 a0_2) else (quick_Try.j1 kj2 0 a0_0 a0_1 a0_2)) = some (r1, r2) := by rw [if_neg (show ¬ (false = true) by decide)] at H; exact H
    clear H
    have H := H1
    clear H1
    have HC15 := Aside0.mk H
    clear H
    have hnb16 := NB176_181.out
    have hnc16 := NB181_176.out
    have hcz17_0 : wc.cell? ⟨gb176, 0, none⟩ = some (.bool a0_0) := (blk_cell BK176.out 0).trans rfl
    have hcz17_1 : wc.cell? ⟨gb176, 1, none⟩ = some (.string a0_1) := (blk_cell BK176.out 1).trans rfl
    have hcz17_2 : wc.cell? ⟨gb176, 2, none⟩ = some (.int .i64 a0_2) := (blk_cell BK176.out 2).trans rfl
    have hfz17_0 := blk_frozen BK176.out 0
    have hfz17_1 := blk_frozen BK176.out 1
    have hfz17_2 := blk_frozen BK176.out 2
    go_upto_if 30 with (fail)
    repeat (go_quiet (fail); go_upto_if 30 with (fail))
    go_cut [6] (fun v6 wc => ∃ (kq : Nat) (x6_14 : Int), v6 = .int .u64 x6_14 ∧ Aside0 (quick_Try.j1 kq x6_14 a0_0 a0_1 a0_2 = some (r1, r2)) ∧ Aside0 (kq ≤ kj2) ∧ Aside0 (wc.heap[gb176]? = some (.cells #[.bool a0_0, .string a0_1, .int .i64 a0_2] 93 (0, 0))) ∧ Aside0 (wc.heap[gb181]? = some (.cells #[.bool t177, .string t178, .int .i64 t179] 93 (0, 0))) ∧ Aside0 (Below w.heap.size w wc))
    case first =>
     have H := HC15.out
     clear HC15
     by_cases c18 : a0_0 = true
     ·subst c18
      have H1 : (quick_Try.j1 kj2 9223372036854775808 true a0_1 a0_2) = some (r1, r2) := by rw [if_pos rfl] at H; exact H
      clear H
      have H := H1
      clear H1
      have H' := Aside0.mk H
      clear H
      go_wp2
      repeat (go_quiet (fail); try go_wp2)
      go_meet
      case rel => exact ⟨_, (9223372036854775808), (by first | rfl | (simp; done) | (simp [*]; done)), H', ⟨by have := HJ2.out; first | omega | exact Nat.le_refl _⟩, ⟨by (with_reducible repeat (first | refine blk_drewN ?_ _ | refine blk_drew ?_ | refine blk_alloc ?_ _)); exact BK176.out⟩, ⟨by (with_reducible repeat (first | refine blk_drewN ?_ _ | refine blk_drew ?_ | refine blk_alloc ?_ _)); exact BK181.out⟩, ⟨by repeat (first | (with_reducible first | exact HB.out | apply below_alloc | apply pw_below_drewN | apply below_drew1 | refine below_set ?_ GE176.out | refine below_set ?_ GE181.out) | exact HB.out)⟩⟩
     ·replace c18 := Bool.eq_false_iff.mpr c18
      subst c18
      have H1 : (quick_Try.j1 kj2 0 false a0_1 a0_2) = some (r1, r2) := by rw [if_neg (show ¬ (false = true) by decide)] at H; exact H
      clear H
      have H := H1
      clear H1
      have H' := Aside0.mk H
      clear H
      go_wp2
      repeat (go_quiet (fail); try go_wp2)
      go_meet
      case rel => exact ⟨_, (0), (by first | rfl | (simp; done) | (simp [*]; done)), H', ⟨by have := HJ2.out; first | omega | exact Nat.le_refl _⟩, ⟨by (with_reducible repeat (first | refine blk_drewN ?_ _ | refine blk_drew ?_ | refine blk_alloc ?_ _)); exact BK176.out⟩, ⟨by (with_reducible repeat (first | refine blk_drewN ?_ _ | refine blk_drew ?_ | refine blk_alloc ?_ _)); exact BK181.out⟩, ⟨by repeat (first | (with_reducible first | exact HB.out | apply below_alloc | apply pw_below_drewN | apply below_drew1 | refine below_set ?_ GE176.out | refine below_set ?_ GE181.out) | exact HB.out)⟩⟩
    case rest =>
     clear HC15
     try clear c1
     try clear c2
     try clear p2
     try clear c8
     try clear c10
     try clear c10b0
     try clear c10b1
     try clear c11
     try clear c14
     try clear c16
     try clear c18
     try clear hcz12_0
     try clear hcz12_1
     try clear hcz12_2
     try clear hcz13_0
     try clear hcz13_1
     try clear hcz13_2
     try clear hcz17_0
     try clear hcz17_1
     try clear hcz17_2
     try clear hcz5_0
     try clear hcz5_1
     try clear hcz5_2
     try clear hcz9_0
     try clear hcz9_1
     try clear hcz9_2
     try clear hfz12_0
     try clear hfz12_1
     try clear hfz12_2
     try clear hfz13_0
     try clear hfz13_1
     try clear hfz13_2
     try clear hfz17_0
     try clear hfz17_1
     try clear hfz17_2
     try clear hfz5_0
     try clear hfz5_1
     try clear hfz5_2
     try clear hfz9_0
     try clear hfz9_1
     try clear hfz9_2
     try clear p2
     obtain ⟨kq, x6_14, rfl, HA, HJ14, BK176, BK181, HB⟩ := hcut
     cases kq with
     | zero => exact absurd HA.out (by simp [quick_Try.j1])
     | succ kj14 =>
      have H := HA.out
      clear HA
      simp only [quick_Try.j1] at H
      by_cases c19 : a0_1.toList = ([48] : List UInt8)
      ·rw [if_pos c19] at H
       have c19b0 : (a0_1.toList == ([48] : List UInt8)) = true := beq_iff_eq.mpr c19
       have c19b1 : (a0_1.toList != ([48] : List UInt8)) = false := bne_eq_false_iff_eq.mpr c19
       clear c19
       simp only [Option.some.injEq, Prod.mk.injEq] at H
       obtain ⟨rfl, rfl⟩ := H
       have hnb20 := NB176_181.out
       have hnc20 := NB181_176.out
       have hcz21_0 : wc.cell? ⟨gb176, 0, none⟩ = some (.bool a0_0) := (blk_cell BK176.out 0).trans rfl
       have hcz21_1 : wc.cell? ⟨gb176, 1, none⟩ = some (.string a0_1) := (blk_cell BK176.out 1).trans rfl
       have hcz21_2 : wc.cell? ⟨gb176, 2, none⟩ = some (.int .i64 a0_2) := (blk_cell BK176.out 2).trans rfl
       have hfz21_0 := blk_frozen BK176.out 0
       have hfz21_1 := blk_frozen BK176.out 1
       have hfz21_2 := blk_frozen BK176.out 2
       go_wp2
       repeat (go_quiet (fail); try go_wp2)
       go_ret2
       exact ⟨by first | rfl | (simp [errW_none, errW_some] <;> rfl) | (simp [*, errW_none, errW_some] <;> rfl), by repeat (first | (with_reducible first | exact HB.out | apply below_alloc | apply pw_below_drewN | apply below_drew1 | refine below_set ?_ GE176.out | refine below_set ?_ GE181.out) | exact HB.out)⟩
      ·rw [if_neg c19] at H
       have c19b0 : (a0_1.toList == ([48] : List UInt8)) = false := beq_eq_false_iff_ne.mpr c19
       have c19b1 : (a0_1.toList != ([48] : List UInt8)) = true := bne_iff_ne.mpr c19
       have HC22 := Aside0.mk H
       clear H
       have hnb23 := NB176_181.out
       have hnc23 := NB181_176.out
       have hcz24_0 : wc.cell? ⟨gb176, 0, none⟩ = some (.bool a0_0) := (blk_cell BK176.out 0).trans rfl
       have hcz24_1 : wc.cell? ⟨gb176, 1, none⟩ = some (.string a0_1) := (blk_cell BK176.out 1).trans rfl
       have hcz24_2 : wc.cell? ⟨gb176, 2, none⟩ = some (.int .i64 a0_2) := (blk_cell BK176.out 2).trans rfl
       have hfz24_0 := blk_frozen BK176.out 0
       have hfz24_1 := blk_frozen BK176.out 1
       have hfz24_2 := blk_frozen BK176.out 2
       go_upto_block 0 with (fail)
       repeat (go_quiet (fail); go_upto_block 0 with (fail))
       go_cut [7] (fun v7 wc => ∃ (kq : Nat) (x7_21 : Int), v7 = .int .u64 x7_21 ∧ Aside0 (quick_Try.j3 kq x6_14 x7_21 a0_2 (wrap64 ((a0_1.size : Int) - 19)) = some (r1, r2)) ∧ Aside0 (kq ≤ kj14) ∧ Aside0 (wc.heap[gb176]? = some (.cells #[.bool a0_0, .string a0_1, .int .i64 a0_2] 93 (0, 0))) ∧ Aside0 (wc.heap[gb181]? = some (.cells #[.bool t177, .string t178, .int .i64 t179] 93 (0, 0))) ∧ Aside0 (Below w.heap.size w wc))
       case first =>
        have H := HC22.out
        clear HC22
        have H' := Aside0.mk H
        clear H
        go_wp2
        repeat (go_quiet (fail); try go_wp2)
        go_loopg [7, 10] kj14 (fun kq v7 v10 w' => ∃ (x7_3 : Int) (x10_3 : Int), v7 = .int .u64 x7_3 ∧ v10 = .int .i64 x10_3 ∧ Aside0 (quick_Try.l0 kq x6_14 x7_3 a0_2 (wrap64 ((a0_1.size : Int) - 19)) x10_3 a0_0 a0_1 a0_2 = some (r1, r2)) ∧ Aside0 (kq ≤ kj14) ∧ Aside0 (w'.heap[gb176]? = some (.cells #[.bool a0_0, .string a0_1, .int .i64 a0_2] 93 (0, 0))) ∧ Aside0 (w'.heap[gb181]? = some (.cells #[.bool t177, .string t178, .int .i64 t179] 93 (0, 0))) ∧ Aside0 (Below w.heap.size w w'))
        case atStart => exact ⟨(0), (0), (by first | rfl | (simp; done) | (simp [*]; done)), (by first | rfl | (simp; done) | (simp [*]; done)), H', ⟨Nat.le_refl _⟩, ⟨by (with_reducible repeat (first | refine blk_drewN ?_ _ | refine blk_drew ?_ | refine blk_alloc ?_ _)); exact BK176.out⟩, ⟨by (with_reducible repeat (first | refine blk_drewN ?_ _ | refine blk_drew ?_ | refine blk_alloc ?_ _)); exact BK181.out⟩, ⟨by repeat (first | (with_reducible first | exact HB.out | apply below_alloc | apply pw_below_drewN | apply below_drew1 | refine below_set ?_ GE176.out | refine below_set ?_ GE181.out) | exact HB.out)⟩⟩
        case round =>
         clear H'
         try clear c1
         try clear c2
         try clear p2
         try clear p6
         try clear c8
         try clear c10
         try clear c10b0
         try clear c10b1
         try clear c11
         try clear c14
         try clear c16
         try clear c18
         try clear c19
         try clear c19b0
         try clear c19b1
         try clear c20
         try clear c23
         try clear hcz12_0
         try clear hcz12_1
         try clear hcz12_2
         try clear hcz13_0
         try clear hcz13_1
         try clear hcz13_2
         try clear hcz17_0
         try clear hcz17_1
         try clear hcz17_2
         try clear hcz21_0
         try clear hcz21_1
         try clear hcz21_2
         try clear hcz24_0
         try clear hcz24_1
         try clear hcz24_2
         try clear hcz5_0
         try clear hcz5_1
         try clear hcz5_2
         try clear hcz9_0
         try clear hcz9_1
         try clear hcz9_2
         try clear hfz12_0
         try clear hfz12_1
         try clear hfz12_2
         try clear hfz13_0
         try clear hfz13_1
         try clear hfz13_2
         try clear hfz17_0
         try clear hfz17_1
         try clear hfz17_2
         try clear hfz21_0
         try clear hfz21_1
         try clear hfz21_2
         try clear hfz24_0
         try clear hfz24_1
         try clear hfz24_2
         try clear hfz5_0
         try clear hfz5_1
         try clear hfz5_2
         try clear hfz9_0
         try clear hfz9_1
         try clear hfz9_2
         try clear p2
         obtain ⟨x7_3, x10_3, rfl, rfl, HA, HK3, BK176, BK181, HB⟩ := hrel
         cases gk with
         | zero => exact absurd HA.out (by simp [quick_Try.l0])
         | succ k3 =>
          have H := HA.out
          clear HA
          simp only [quick_Try.l0] at H
          by_cases c25 : x10_3 < (a0_1.size : Int)
          ·rw [if_pos c25] at H
           have c25b0 : decide (x10_3 < (a0_1.size : Int)) = true := decide_eq_true c25
           clear c25
           (first | rw [c25b0] | (simp only [i64_w, i32_w]; rw [c25b0]) | skip)
           by_cases c26 : x10_3 < 19
           ·rw [if_pos c26] at H
            have c26b0 : decide (x10_3 < 19) = true := decide_eq_true c26
            clear c26
            by_cases c27 : 0 ≤ x10_3
            ·rw [if_pos c27] at H
             have c27b0 : decide (0 ≤ x10_3) = true := decide_eq_true c27
             clear c27
             have H' := Aside0.mk H
             clear H
             have hnb29 := NB176_181.out
             have hnc29 := NB181_176.out
             have hcz30_0 : wr.cell? ⟨gb176, 0, none⟩ = some (.bool a0_0) := (blk_cell BK176.out 0).trans rfl
             have hcz30_1 : wr.cell? ⟨gb176, 1, none⟩ = some (.string a0_1) := (blk_cell BK176.out 1).trans rfl
             have hcz30_2 : wr.cell? ⟨gb176, 2, none⟩ = some (.int .i64 a0_2) := (blk_cell BK176.out 2).trans rfl
             have hfz30_0 := blk_frozen BK176.out 0
             have hfz30_1 := blk_frozen BK176.out 1
             have hfz30_2 := blk_frozen BK176.out 2
             have p28 : 0 ≤ (x10_3 : Int) := of_decide_eq_true (by first | (with_reducible assumption) | assumption)
             have q28 : x10_3 < (a0_1.size : Int) := of_decide_eq_true (by first | (with_reducible assumption) | assumption)
             have hx28 := bt_at a0_1 x10_3
             replace p28 := eq_true p28
             replace q28 := eq_true q28
             go_wp2
             repeat (go_quiet (fail); try go_wp2)
             go_roundg k3
             case measure => have := HJ2.out; have := HJ14.out; have := HK3.out; omega
             case rel => exact ⟨(IntKind.u64.wrap ((IntKind.u64.wrap (10 * x7_3)) + (((bt a0_1 x10_3) - 48) % 256))), (wrap64 (x10_3 + 1)), (by first | rfl | (simp; done) | (simp [*]; done)), (by first | rfl | (simp; done) | (simp [*]; done)), H', ⟨by have := HJ2.out; have := HJ14.out; have := HK3.out; omega⟩, ⟨by (with_reducible repeat (first | refine blk_drewN ?_ _ | refine blk_drew ?_ | refine blk_alloc ?_ _)); exact BK176.out⟩, ⟨by (with_reducible repeat (first | refine blk_drewN ?_ _ | refine blk_drew ?_ | refine blk_alloc ?_ _)); exact BK181.out⟩, ⟨by repeat (first | (with_reducible first | exact HB.out | apply below_alloc | apply pw_below_drewN | apply below_drew1 | refine below_set ?_ GE176.out | refine below_set ?_ GE181.out) | exact HB.out)⟩⟩
            ·rw [if_neg c27] at H
             exact absurd H (by simp)
           ·rw [if_neg c26] at H
            have c26b0 : decide (x10_3 < 19) = false := decide_eq_false c26
            clear c26
            have H' := Aside0.mk H
            clear H
            have hnb31 := NB176_181.out
            have hnc31 := NB181_176.out
            have hcz32_0 : wr.cell? ⟨gb176, 0, none⟩ = some (.bool a0_0) := (blk_cell BK176.out 0).trans rfl
            have hcz32_1 : wr.cell? ⟨gb176, 1, none⟩ = some (.string a0_1) := (blk_cell BK176.out 1).trans rfl
            have hcz32_2 : wr.cell? ⟨gb176, 2, none⟩ = some (.int .i64 a0_2) := (blk_cell BK176.out 2).trans rfl
            have hfz32_0 := blk_frozen BK176.out 0
            have hfz32_1 := blk_frozen BK176.out 1
            have hfz32_2 := blk_frozen BK176.out 2
            go_wp2
            repeat (go_quiet (fail); try go_wp2)
            go_meet
            case rel => exact ⟨_, (x7_3), (by first | rfl | (simp; done) | (simp [*]; done)), H', ⟨by have := HJ2.out; have := HJ14.out; have := HK3.out; first | omega | exact Nat.le_refl _⟩, ⟨by (with_reducible repeat (first | refine blk_drewN ?_ _ | refine blk_drew ?_ | refine blk_alloc ?_ _)); exact BK176.out⟩, ⟨by (with_reducible repeat (first | refine blk_drewN ?_ _ | refine blk_drew ?_ | refine blk_alloc ?_ _)); exact BK181.out⟩, ⟨by repeat (first | (with_reducible first | exact HB.out | apply below_alloc | apply pw_below_drewN | apply below_drew1 | refine below_set ?_ GE176.out | refine below_set ?_ GE181.out) | exact HB.out)⟩⟩
          ·rw [if_neg c25] at H
           have c25b0 : decide (x10_3 < (a0_1.size : Int)) = false := decide_eq_false c25
           clear c25
           (first | rw [c25b0] | (simp only [i64_w, i32_w]; rw [c25b0]) | skip)
           have H' := Aside0.mk H
           clear H
           have hnb33 := NB176_181.out
           have hnc33 := NB181_176.out
           have hcz34_0 : wr.cell? ⟨gb176, 0, none⟩ = some (.bool a0_0) := (blk_cell BK176.out 0).trans rfl
           have hcz34_1 : wr.cell? ⟨gb176, 1, none⟩ = some (.string a0_1) := (blk_cell BK176.out 1).trans rfl
           have hcz34_2 : wr.cell? ⟨gb176, 2, none⟩ = some (.int .i64 a0_2) := (blk_cell BK176.out 2).trans rfl
           have hfz34_0 := blk_frozen BK176.out 0
           have hfz34_1 := blk_frozen BK176.out 1
           have hfz34_2 := blk_frozen BK176.out 2
           go_wp2
           repeat (go_quiet (fail); try go_wp2)
           go_meet
           case rel => exact ⟨_, (x7_3), (by first | rfl | (simp; done) | (simp [*]; done)), H', ⟨by have := HJ2.out; have := HJ14.out; have := HK3.out; first | omega | exact Nat.le_refl _⟩, ⟨by (with_reducible repeat (first | refine blk_drewN ?_ _ | refine blk_drew ?_ | refine blk_alloc ?_ _)); exact BK176.out⟩, ⟨by (with_reducible repeat (first | refine blk_drewN ?_ _ | refine blk_drew ?_ | refine blk_alloc ?_ _)); exact BK181.out⟩, ⟨by repeat (first | (with_reducible first | exact HB.out | apply below_alloc | apply pw_below_drewN | apply below_drew1 | refine below_set ?_ GE176.out | refine below_set ?_ GE181.out) | exact HB.out)⟩⟩
       case rest =>
        clear HC22
        try clear c1
        try clear c2
        try clear p2
        try clear q2
        try clear hx2
        try clear c3
        try clear p6
        try clear c8
        try clear c10
        try clear c10b0
        try clear c10b1
        try clear c11
        try clear c14
        try clear c16
        try clear c18
        try clear c19
        try clear c19b0
        try clear c19b1
        try clear c20
        try clear c23
        try clear c25
        try clear c25b0
        try clear c26
        try clear c26b0
        try clear c27
        try clear c27b0
        try clear p28
        try clear q28
        try clear hx28
        try clear c29
        try clear c31
        try clear c33
        try clear hcz12_0
        try clear hcz12_1
        try clear hcz12_2
        try clear hcz13_0
        try clear hcz13_1
        try clear hcz13_2
        try clear hcz17_0
        try clear hcz17_1
        try clear hcz17_2
        try clear hcz21_0
        try clear hcz21_1
        try clear hcz21_2
        try clear hcz24_0
        try clear hcz24_1
        try clear hcz24_2
        try clear hcz30_0
        try clear hcz30_1
        try clear hcz30_2
        try clear hcz32_0
        try clear hcz32_1
        try clear hcz32_2
        try clear hcz34_0
        try clear hcz34_1
        try clear hcz34_2
        try clear hcz5_0
        try clear hcz5_1
        try clear hcz5_2
        try clear hcz9_0
        try clear hcz9_1
        try clear hcz9_2
        try clear hfz12_0
        try clear hfz12_1
        try clear hfz12_2
        try clear hfz13_0
        try clear hfz13_1
        try clear hfz13_2
        try clear hfz17_0
        try clear hfz17_1
        try clear hfz17_2
        try clear hfz21_0
        try clear hfz21_1
        try clear hfz21_2
        try clear hfz24_0
        try clear hfz24_1
        try clear hfz24_2
        try clear hfz30_0
        try clear hfz30_1
        try clear hfz30_2
        try clear hfz32_0
        try clear hfz32_1
        try clear hfz32_2
        try clear hfz34_0
        try clear hfz34_1
        try clear hfz34_2
        try clear hfz5_0
        try clear hfz5_1
        try clear hfz5_2
        try clear hfz9_0
        try clear hfz9_1
        try clear hfz9_2
        try clear p2
        try clear p28
        try clear p6
        try clear q28
        obtain ⟨kq, x7_21, rfl, HA, HJ21, BK176, BK181, HB⟩ := hcut
        cases kq with
        | zero => exact absurd HA.out (by simp [quick_Try.j3])
        | succ kj21 =>
         have H := HA.out
         clear HA
         simp only [quick_Try.j3] at H
         by_cases c35 : (wrap64 ((a0_1.size : Int) - 19)) ≤ 0
         ·rw [if_pos c35] at H
          have c35b0 : decide ((wrap64 ((a0_1.size : Int) - 19)) ≤ 0) = true := decide_eq_true c35
          clear c35
          replace H := Option.bind_eq_some_iff.mp H
          obtain ⟨⟨t182, t183⟩, A360, H⟩ := H
          replace H : (if t183 = true then (some (Go.bits .or .u64 t182 x6_14, true)) else ((quick_Step.f kj21 x7_21 a0_2).bind fun bt184 => (if bt184.2 = true then (some (Go.bits .or .u64 bt184.1 x6_14, true)) else (some (0, false))))) = some (r1, r2) := H
          have A36 := Aside0.mk A360
          clear A360
          by_cases c37 : t183 = true
          ·subst c37
           have H1 : (some (Go.bits .or .u64 t182 x6_14, true)) = some (r1, r2) := by rw [if_pos rfl] at H; exact H
           clear H
           have H := H1
           clear H1
           simp only [Option.some.injEq, Prod.mk.injEq] at H
           obtain ⟨rfl, rfl⟩ := H
           go_wp2_with (first | (go_at_call 207; (with_reducible refine (quick_Small.calls kj21 x7_21 a0_2 t182 true _ ?side1 A36.out).mono ?_); (case side1 => first | exact hT | exact Tabs.below hT (by repeat (first | (with_reducible first | exact HB.out | apply below_alloc | apply pw_below_drewN | apply below_drew1 | refine below_set ?_ GE176.out | refine below_set ?_ GE181.out) | exact HB.out)) | (repeat (first | exact hT | apply Tabs.drewN | apply Tabs.drew))); rintro e w38 ⟨rfl, hb⟩; have n0_ := Aside0.mk (blk_below (g := gb176) (o := .cells #[.bool a0_0, .string a0_1, .int .i64 a0_2] 93 (0, 0)) (by (with_reducible repeat (first | refine blk_drewN ?_ _ | refine blk_drew ?_ | refine blk_alloc ?_ _)); exact BK176.out) hb); have n1_ := Aside0.mk (blk_below (g := gb181) (o := .cells #[.bool t177, .string t178, .int .i64 t179] 93 (0, 0)) (by (with_reducible repeat (first | refine blk_drewN ?_ _ | refine blk_drew ?_ | refine blk_alloc ?_ _)); exact BK181.out) hb); have n2_ := Aside0.mk (below_step (by repeat (first | (with_reducible first | exact HB.out | apply below_alloc | apply pw_below_drewN | apply below_drew1 | refine below_set ?_ GE176.out | refine below_set ?_ GE181.out) | exact HB.out)) hb); clear BK176; clear BK181; clear HB; have BK176 := n0_; have BK181 := n1_; have HB := n2_; clear n0_ n1_ n2_; (try clear hb); (try clear hb2); (try clear hk); (try clear hi)))
           repeat (go_quiet (first | (go_at_call 207; (with_reducible refine (quick_Small.calls kj21 x7_21 a0_2 t182 true _ ?side1 A36.out).mono ?_); (case side1 => first | exact hT | exact Tabs.below hT (by repeat (first | (with_reducible first | exact HB.out | apply below_alloc | apply pw_below_drewN | apply below_drew1 | refine below_set ?_ GE176.out | refine below_set ?_ GE181.out) | exact HB.out)) | (repeat (first | exact hT | apply Tabs.drewN | apply Tabs.drew))); rintro e w38 ⟨rfl, hb⟩; have n0_ := Aside0.mk (blk_below (g := gb176) (o := .cells #[.bool a0_0, .string a0_1, .int .i64 a0_2] 93 (0, 0)) (by (with_reducible repeat (first | refine blk_drewN ?_ _ | refine blk_drew ?_ | refine blk_alloc ?_ _)); exact BK176.out) hb); have n1_ := Aside0.mk (blk_below (g := gb181) (o := .cells #[.bool t177, .string t178, .int .i64 t179] 93 (0, 0)) (by (with_reducible repeat (first | refine blk_drewN ?_ _ | refine blk_drew ?_ | refine blk_alloc ?_ _)); exact BK181.out) hb); have n2_ := Aside0.mk (below_step (by repeat (first | (with_reducible first | exact HB.out | apply below_alloc | apply pw_below_drewN | apply below_drew1 | refine below_set ?_ GE176.out | refine below_set ?_ GE181.out) | exact HB.out)) hb); clear BK176; clear BK181; clear HB; have BK176 := n0_; have BK181 := n1_; have HB := n2_; clear n0_ n1_ n2_; (try clear hb); (try clear hb2); (try clear hk); (try clear hi))); try go_wp2_with (first | (go_at_call 207; (with_reducible refine (quick_Small.calls kj21 x7_21 a0_2 t182 true _ ?side1 A36.out).mono ?_); (case side1 => first | exact hT | exact Tabs.below hT (by repeat (first | (with_reducible first | exact HB.out | apply below_alloc | apply pw_below_drewN | apply below_drew1 | refine below_set ?_ GE176.out | refine below_set ?_ GE181.out) | exact HB.out)) | (repeat (first | exact hT | apply Tabs.drewN | apply Tabs.drew))); rintro e w38 ⟨rfl, hb⟩; have n0_ := Aside0.mk (blk_below (g := gb176) (o := .cells #[.bool a0_0, .string a0_1, .int .i64 a0_2] 93 (0, 0)) (by (with_reducible repeat (first | refine blk_drewN ?_ _ | refine blk_drew ?_ | refine blk_alloc ?_ _)); exact BK176.out) hb); have n1_ := Aside0.mk (blk_below (g := gb181) (o := .cells #[.bool t177, .string t178, .int .i64 t179] 93 (0, 0)) (by (with_reducible repeat (first | refine blk_drewN ?_ _ | refine blk_drew ?_ | refine blk_alloc ?_ _)); exact BK181.out) hb); have n2_ := Aside0.mk (below_step (by repeat (first | (with_reducible first | exact HB.out | apply below_alloc | apply pw_below_drewN | apply below_drew1 | refine below_set ?_ GE176.out | refine below_set ?_ GE181.out) | exact HB.out)) hb); clear BK176; clear BK181; clear HB; have BK176 := n0_; have BK181 := n1_; have HB := n2_; clear n0_ n1_ n2_; (try clear hb); (try clear hb2); (try clear hk); (try clear hi))))
           go_ret2
           exact ⟨by first | rfl | (simp [errW_none, errW_some] <;> rfl) | (simp [*, errW_none, errW_some] <;> rfl), by repeat (first | (with_reducible first | exact HB.out | apply below_alloc | apply pw_below_drewN | apply below_drew1 | refine below_set ?_ GE176.out | refine below_set ?_ GE181.out) | exact HB.out)⟩
          ·replace c37 := Bool.eq_false_iff.mpr c37
           subst c37
           have H1 : ((quick_Step.f kj21 x7_21 a0_2).bind fun bt184 => (if bt184.2 = true then (some (Go.bits .or .u64 bt184.1 x6_14, true)) else (some (0, false)))) = some (r1, r2) := by rw [if_neg (show ¬ (false = true) by decide)] at H; exact H
           clear H
           have H := H1
           clear H1
           replace H := Option.bind_eq_some_iff.mp H
           obtain ⟨⟨t184, t185⟩, A390, H⟩ := H
           replace H : (if t185 = true then (some (Go.bits .or .u64 t184 x6_14, true)) else (some (0, false))) = some (r1, r2) := H
           have A39 := Aside0.mk A390
           clear A390
           by_cases c40 : t185 = true
           ·subst c40
            have H1 : (some (Go.bits .or .u64 t184 x6_14, true)) = some (r1, r2) := by rw [if_pos rfl] at H; exact H
            clear H
            have H := H1
            clear H1
            simp only [Option.some.injEq, Prod.mk.injEq] at H
            obtain ⟨rfl, rfl⟩ := H
            go_wp2_with (first | (go_at_call 207; (with_reducible refine (quick_Small.calls kj21 x7_21 a0_2 t182 false _ ?side1 A36.out).mono ?_); (case side1 => first | exact hT | exact Tabs.below hT (by repeat (first | (with_reducible first | exact HB.out | apply below_alloc | apply pw_below_drewN | apply below_drew1 | refine below_set ?_ GE176.out | refine below_set ?_ GE181.out) | exact HB.out)) | (repeat (first | exact hT | apply Tabs.drewN | apply Tabs.drew))); rintro e w41 ⟨rfl, hb⟩; have n0_ := Aside0.mk (blk_below (g := gb176) (o := .cells #[.bool a0_0, .string a0_1, .int .i64 a0_2] 93 (0, 0)) (by (with_reducible repeat (first | refine blk_drewN ?_ _ | refine blk_drew ?_ | refine blk_alloc ?_ _)); exact BK176.out) hb); have n1_ := Aside0.mk (blk_below (g := gb181) (o := .cells #[.bool t177, .string t178, .int .i64 t179] 93 (0, 0)) (by (with_reducible repeat (first | refine blk_drewN ?_ _ | refine blk_drew ?_ | refine blk_alloc ?_ _)); exact BK181.out) hb); have n2_ := Aside0.mk (below_step (by repeat (first | (with_reducible first | exact HB.out | apply below_alloc | apply pw_below_drewN | apply below_drew1 | refine below_set ?_ GE176.out | refine below_set ?_ GE181.out) | exact HB.out)) hb); clear BK176; clear BK181; clear HB; have BK176 := n0_; have BK181 := n1_; have HB := n2_; clear n0_ n1_ n2_; (try clear hb); (try clear hb2); (try clear hk); (try clear hi)) | (go_at_call 208; (with_reducible refine (quick_Step.calls kj21 x7_21 a0_2 t184 true _ ?side1 A39.out).mono ?_); (case side1 => first | exact hT | exact Tabs.below hT (by repeat (first | (with_reducible first | exact HB.out | apply below_alloc | apply pw_below_drewN | apply below_drew1 | refine below_set ?_ GE176.out | refine below_set ?_ GE181.out) | exact HB.out)) | (repeat (first | exact hT | apply Tabs.drewN | apply Tabs.drew))); rintro e w42 ⟨rfl, hb⟩; have n0_ := Aside0.mk (blk_below (g := gb176) (o := .cells #[.bool a0_0, .string a0_1, .int .i64 a0_2] 93 (0, 0)) (by (with_reducible repeat (first | refine blk_drewN ?_ _ | refine blk_drew ?_ | refine blk_alloc ?_ _)); exact BK176.out) hb); have n1_ := Aside0.mk (blk_below (g := gb181) (o := .cells #[.bool t177, .string t178, .int .i64 t179] 93 (0, 0)) (by (with_reducible repeat (first | refine blk_drewN ?_ _ | refine blk_drew ?_ | refine blk_alloc ?_ _)); exact BK181.out) hb); have n2_ := Aside0.mk (below_step (by repeat (first | (with_reducible first | exact HB.out | apply below_alloc | apply pw_below_drewN | apply below_drew1 | refine below_set ?_ GE176.out | refine below_set ?_ GE181.out) | exact HB.out)) hb); clear BK176; clear BK181; clear HB; have BK176 := n0_; have BK181 := n1_; have HB := n2_; clear n0_ n1_ n2_; (try clear hb); (try clear hb2); (try clear hk); (try clear hi)))
            repeat (go_quiet (first | (go_at_call 207; (with_reducible refine (quick_Small.calls kj21 x7_21 a0_2 t182 false _ ?side1 A36.out).mono ?_); (case side1 => first | exact hT | exact Tabs.below hT (by repeat (first | (with_reducible first | exact HB.out | apply below_alloc | apply pw_below_drewN | apply below_drew1 | refine below_set ?_ GE176.out | refine below_set ?_ GE181.out) | exact HB.out)) | (repeat (first | exact hT | apply Tabs.drewN | apply Tabs.drew))); rintro e w41 ⟨rfl, hb⟩; have n0_ := Aside0.mk (blk_below (g := gb176) (o := .cells #[.bool a0_0, .string a0_1, .int .i64 a0_2] 93 (0, 0)) (by (with_reducible repeat (first | refine blk_drewN ?_ _ | refine blk_drew ?_ | refine blk_alloc ?_ _)); exact BK176.out) hb); have n1_ := Aside0.mk (blk_below (g := gb181) (o := .cells #[.bool t177, .string t178, .int .i64 t179] 93 (0, 0)) (by (with_reducible repeat (first | refine blk_drewN ?_ _ | refine blk_drew ?_ | refine blk_alloc ?_ _)); exact BK181.out) hb); have n2_ := Aside0.mk (below_step (by repeat (first | (with_reducible first | exact HB.out | apply below_alloc | apply pw_below_drewN | apply below_drew1 | refine below_set ?_ GE176.out | refine below_set ?_ GE181.out) | exact HB.out)) hb); clear BK176; clear BK181; clear HB; have BK176 := n0_; have BK181 := n1_; have HB := n2_; clear n0_ n1_ n2_; (try clear hb); (try clear hb2); (try clear hk); (try clear hi)) | (go_at_call 208; (with_reducible refine (quick_Step.calls kj21 x7_21 a0_2 t184 true _ ?side1 A39.out).mono ?_); (case side1 => first | exact hT | exact Tabs.below hT (by repeat (first | (with_reducible first | exact HB.out | apply below_alloc | apply pw_below_drewN | apply below_drew1 | refine below_set ?_ GE176.out | refine below_set ?_ GE181.out) | exact HB.out)) | (repeat (first | exact hT | apply Tabs.drewN | apply Tabs.drew))); rintro e w42 ⟨rfl, hb⟩; have n0_ := Aside0.mk (blk_below (g := gb176) (o := .cells #[.bool a0_0, .string a0_1, .int .i64 a0_2] 93 (0, 0)) (by (with_reducible repeat (first | refine blk_drewN ?_ _ | refine blk_drew ?_ | refine blk_alloc ?_ _)); exact BK176.out) hb); have n1_ := Aside0.mk (blk_below (g := gb181) (o := .cells #[.bool t177, .string t178, .int .i64 t179] 93 (0, 0)) (by (with_reducible repeat (first | refine blk_drewN ?_ _ | refine blk_drew ?_ | refine blk_alloc ?_ _)); exact BK181.out) hb); have n2_ := Aside0.mk (below_step (by repeat (first | (with_reducible first | exact HB.out | apply below_alloc | apply pw_below_drewN | apply below_drew1 | refine below_set ?_ GE176.out | refine below_set ?_ GE181.out) | exact HB.out)) hb); clear BK176; clear BK181; clear HB; have BK176 := n0_; have BK181 := n1_; have HB := n2_; clear n0_ n1_ n2_; (try clear hb); (try clear hb2); (try clear hk); (try clear hi))); try go_wp2_with (first | (go_at_call 207; (with_reducible refine (quick_Small.calls kj21 x7_21 a0_2 t182 false _ ?side1 A36.out).mono ?_); (case side1 => first | exact hT | exact Tabs.below hT (by repeat (first | (with_reducible first | exact HB.out | apply below_alloc | apply pw_below_drewN | apply below_drew1 | refine below_set ?_ GE176.out | refine below_set ?_ GE181.out) | exact HB.out)) | (repeat (first | exact hT | apply Tabs.drewN | apply Tabs.drew))); rintro e w41 ⟨rfl, hb⟩; have n0_ := Aside0.mk (blk_below (g := gb176) (o := .cells #[.bool a0_0, .string a0_1, .int .i64 a0_2] 93 (0, 0)) (by (with_reducible repeat (first | refine blk_drewN ?_ _ | refine blk_drew ?_ | refine blk_alloc ?_ _)); exact BK176.out) hb); have n1_ := Aside0.mk (blk_below (g := gb181) (o := .cells #[.bool t177, .string t178, .int .i64 t179] 93 (0, 0)) (by (with_reducible repeat (first | refine blk_drewN ?_ _ | refine blk_drew ?_ | refine blk_alloc ?_ _)); exact BK181.out) hb); have n2_ := Aside0.mk (below_step (by repeat (first | (with_reducible first | exact HB.out | apply below_alloc | apply pw_below_drewN | apply below_drew1 | refine below_set ?_ GE176.out | refine below_set ?_ GE181.out) | exact HB.out)) hb); clear BK176; clear BK181; clear HB; have BK176 := n0_; have BK181 := n1_; have HB := n2_; clear n0_ n1_ n2_; (try clear hb); (try clear hb2); (try clear hk); (try clear hi)) | (go_at_call 208; (with_reducible refine (quick_Step.calls kj21 x7_21 a0_2 t184 true _ ?side1 A39.out).mono ?_); (case side1 => first | exact hT | exact Tabs.below hT (by repeat (first | (with_reducible first | exact HB.out | apply below_alloc | apply pw_below_drewN | apply below_drew1 | refine below_set ?_ GE176.out | refine below_set ?_ GE181.out) | exact HB.out)) | (repeat (first | exact hT | apply Tabs.drewN | apply Tabs.drew))); rintro e w42 ⟨rfl, hb⟩; have n0_ := Aside0.mk (blk_below (g := gb176) (o := .cells #[.bool a0_0, .string a0_1, .int .i64 a0_2] 93 (0, 0)) (by (with_reducible repeat (first | refine blk_drewN ?_ _ | refine blk_drew ?_ | refine blk_alloc ?_ _)); exact BK176.out) hb); have n1_ := Aside0.mk (blk_below (g := gb181) (o := .cells #[.bool t177, .string t178, .int .i64 t179] 93 (0, 0)) (by (with_reducible repeat (first | refine blk_drewN ?_ _ | refine blk_drew ?_ | refine blk_alloc ?_ _)); exact BK181.out) hb); have n2_ := Aside0.mk (below_step (by repeat (first | (with_reducible first | exact HB.out | apply below_alloc | apply pw_below_drewN | apply below_drew1 | refine below_set ?_ GE176.out | refine below_set ?_ GE181.out) | exact HB.out)) hb); clear BK176; clear BK181; clear HB; have BK176 := n0_; have BK181 := n1_; have HB := n2_; clear n0_ n1_ n2_; (try clear hb); (try clear hb2); (try clear hk); (try clear hi))))
            go_ret2
            exact ⟨by first | rfl | (simp [errW_none, errW_some] <;> rfl) | (simp [*, errW_none, errW_some] <;> rfl), by repeat (first | (with_reducible first | exact HB.out | apply below_alloc | apply pw_below_drewN | apply below_drew1 | refine below_set ?_ GE176.out | refine below_set ?_ GE181.out) | exact HB.out)⟩
           ·replace c40 := Bool.eq_false_iff.mpr c40
            subst c40
            have H1 : (some (0, false)) = some (r1, r2) := by rw [if_neg (show ¬ (false = true) by decide)] at H; exact H
            clear H
            have H := H1
            clear H1
            simp only [Option.some.injEq, Prod.mk.injEq] at H
            obtain ⟨rfl, rfl⟩ := H
            go_wp2_with (first | (go_at_call 207; (with_reducible refine (quick_Small.calls kj21 x7_21 a0_2 t182 false _ ?side1 A36.out).mono ?_); (case side1 => first | exact hT | exact Tabs.below hT (by repeat (first | (with_reducible first | exact HB.out | apply below_alloc | apply pw_below_drewN | apply below_drew1 | refine below_set ?_ GE176.out | refine below_set ?_ GE181.out) | exact HB.out)) | (repeat (first | exact hT | apply Tabs.drewN | apply Tabs.drew))); rintro e w43 ⟨rfl, hb⟩; have n0_ := Aside0.mk (blk_below (g := gb176) (o := .cells #[.bool a0_0, .string a0_1, .int .i64 a0_2] 93 (0, 0)) (by (with_reducible repeat (first | refine blk_drewN ?_ _ | refine blk_drew ?_ | refine blk_alloc ?_ _)); exact BK176.out) hb); have n1_ := Aside0.mk (blk_below (g := gb181) (o := .cells #[.bool t177, .string t178, .int .i64 t179] 93 (0, 0)) (by (with_reducible repeat (first | refine blk_drewN ?_ _ | refine blk_drew ?_ | refine blk_alloc ?_ _)); exact BK181.out) hb); have n2_ := Aside0.mk (below_step (by repeat (first | (with_reducible first | exact HB.out | apply below_alloc | apply pw_below_drewN | apply below_drew1 | refine below_set ?_ GE176.out | refine below_set ?_ GE181.out) | exact HB.out)) hb); clear BK176; clear BK181; clear HB; have BK176 := n0_; have BK181 := n1_; have HB := n2_; clear n0_ n1_ n2_; (try clear hb); (try clear hb2); (try clear hk); (try clear hi)) | (go_at_call 208; (with_reducible refine (quick_Step.calls kj21 x7_21 a0_2 t184 false _ ?side1 A39.out).mono ?_); (case side1 => first | exact hT | exact Tabs.below hT (by repeat (first | (with_reducible first | exact HB.out | apply below_alloc | apply pw_below_drewN | apply below_drew1 | refine below_set ?_ GE176.out | refine below_set ?_ GE181.out) | exact HB.out)) | (repeat (first | exact hT | apply Tabs.drewN | apply Tabs.drew))); rintro e w44 ⟨rfl, hb⟩; have n0_ := Aside0.mk (blk_below (g := gb176) (o := .cells #[.bool a0_0, .string a0_1, .int .i64 a0_2] 93 (0, 0)) (by (with_reducible repeat (first | refine blk_drewN ?_ _ | refine blk_drew ?_ | refine blk_alloc ?_ _)); exact BK176.out) hb); have n1_ := Aside0.mk (blk_below (g := gb181) (o := .cells #[.bool t177, .string t178, .int .i64 t179] 93 (0, 0)) (by (with_reducible repeat (first | refine blk_drewN ?_ _ | refine blk_drew ?_ | refine blk_alloc ?_ _)); exact BK181.out) hb); have n2_ := Aside0.mk (below_step (by repeat (first | (with_reducible first | exact HB.out | apply below_alloc | apply pw_below_drewN | apply below_drew1 | refine below_set ?_ GE176.out | refine below_set ?_ GE181.out) | exact HB.out)) hb); clear BK176; clear BK181; clear HB; have BK176 := n0_; have BK181 := n1_; have HB := n2_; clear n0_ n1_ n2_; (try clear hb); (try clear hb2); (try clear hk); (try clear hi)))
            repeat (go_quiet (first | (go_at_call 207; (with_reducible refine (quick_Small.calls kj21 x7_21 a0_2 t182 false _ ?side1 A36.out).mono ?_); (case side1 => first | exact hT | exact Tabs.below hT (by repeat (first | (with_reducible first | exact HB.out | apply below_alloc | apply pw_below_drewN | apply below_drew1 | refine below_set ?_ GE176.out | refine below_set ?_ GE181.out) | exact HB.out)) | (repeat (first | exact hT | apply Tabs.drewN | apply Tabs.drew))); rintro e w43 ⟨rfl, hb⟩; have n0_ := Aside0.mk (blk_below (g := gb176) (o := .cells #[.bool a0_0, .string a0_1, .int .i64 a0_2] 93 (0, 0)) (by (with_reducible repeat (first | refine blk_drewN ?_ _ | refine blk_drew ?_ | refine blk_alloc ?_ _)); exact BK176.out) hb); have n1_ := Aside0.mk (blk_below (g := gb181) (o := .cells #[.bool t177, .string t178, .int .i64 t179] 93 (0, 0)) (by (with_reducible repeat (first | refine blk_drewN ?_ _ | refine blk_drew ?_ | refine blk_alloc ?_ _)); exact BK181.out) hb); have n2_ := Aside0.mk (below_step (by repeat (first | (with_reducible first | exact HB.out | apply below_alloc | apply pw_below_drewN | apply below_drew1 | refine below_set ?_ GE176.out | refine below_set ?_ GE181.out) | exact HB.out)) hb); clear BK176; clear BK181; clear HB; have BK176 := n0_; have BK181 := n1_; have HB := n2_; clear n0_ n1_ n2_; (try clear hb); (try clear hb2); (try clear hk); (try clear hi)) | (go_at_call 208; (with_reducible refine (quick_Step.calls kj21 x7_21 a0_2 t184 false _ ?side1 A39.out).mono ?_); (case side1 => first | exact hT | exact Tabs.below hT (by repeat (first | (with_reducible first | exact HB.out | apply below_alloc | apply pw_below_drewN | apply below_drew1 | refine below_set ?_ GE176.out | refine below_set ?_ GE181.out) | exact HB.out)) | (repeat (first | exact hT | apply Tabs.drewN | apply Tabs.drew))); rintro e w44 ⟨rfl, hb⟩; have n0_ := Aside0.mk (blk_below (g := gb176) (o := .cells #[.bool a0_0, .string a0_1, .int .i64 a0_2] 93 (0, 0)) (by (with_reducible repeat (first | refine blk_drewN ?_ _ | refine blk_drew ?_ | refine blk_alloc ?_ _)); exact BK176.out) hb); have n1_ := Aside0.mk (blk_below (g := gb181) (o := .cells #[.bool t177, .string t178, .int .i64 t179] 93 (0, 0)) (by (with_reducible repeat (first | refine blk_drewN ?_ _ | refine blk_drew ?_ | refine blk_alloc ?_ _)); exact BK181.out) hb); have n2_ := Aside0.mk (below_step (by repeat (first | (with_reducible first | exact HB.out | apply below_alloc | apply pw_below_drewN | apply below_drew1 | refine below_set ?_ GE176.out | refine below_set ?_ GE181.out) | exact HB.out)) hb); clear BK176; clear BK181; clear HB; have BK176 := n0_; have BK181 := n1_; have HB := n2_; clear n0_ n1_ n2_; (try clear hb); (try clear hb2); (try clear hk); (try clear hi))); try go_wp2_with (first | (go_at_call 207; (with_reducible refine (quick_Small.calls kj21 x7_21 a0_2 t182 false _ ?side1 A36.out).mono ?_); (case side1 => first | exact hT | exact Tabs.below hT (by repeat (first | (with_reducible first | exact HB.out | apply below_alloc | apply pw_below_drewN | apply below_drew1 | refine below_set ?_ GE176.out | refine below_set ?_ GE181.out) | exact HB.out)) | (repeat (first | exact hT | apply Tabs.drewN | apply Tabs.drew))); rintro e w43 ⟨rfl, hb⟩; have n0_ := Aside0.mk (blk_below (g := gb176) (o := .cells #[.bool a0_0, .string a0_1, .int .i64 a0_2] 93 (0, 0)) (by (with_reducible repeat (first | refine blk_drewN ?_ _ | refine blk_drew ?_ | refine blk_alloc ?_ _)); exact BK176.out) hb); have n1_ := Aside0.mk (blk_below (g := gb181) (o := .cells #[.bool t177, .string t178, .int .i64 t179] 93 (0, 0)) (by (with_reducible repeat (first | refine blk_drewN ?_ _ | refine blk_drew ?_ | refine blk_alloc ?_ _)); exact BK181.out) hb); have n2_ := Aside0.mk (below_step (by repeat (first | (with_reducible first | exact HB.out | apply below_alloc | apply pw_below_drewN | apply below_drew1 | refine below_set ?_ GE176.out | refine below_set ?_ GE181.out) | exact HB.out)) hb); clear BK176; clear BK181; clear HB; have BK176 := n0_; have BK181 := n1_; have HB := n2_; clear n0_ n1_ n2_; (try clear hb); (try clear hb2); (try clear hk); (try clear hi)) | (go_at_call 208; (with_reducible refine (quick_Step.calls kj21 x7_21 a0_2 t184 false _ ?side1 A39.out).mono ?_); (case side1 => first | exact hT | exact Tabs.below hT (by repeat (first | (with_reducible first | exact HB.out | apply below_alloc | apply pw_below_drewN | apply below_drew1 | refine below_set ?_ GE176.out | refine below_set ?_ GE181.out) | exact HB.out)) | (repeat (first | exact hT | apply Tabs.drewN | apply Tabs.drew))); rintro e w44 ⟨rfl, hb⟩; have n0_ := Aside0.mk (blk_below (g := gb176) (o := .cells #[.bool a0_0, .string a0_1, .int .i64 a0_2] 93 (0, 0)) (by (with_reducible repeat (first | refine blk_drewN ?_ _ | refine blk_drew ?_ | refine blk_alloc ?_ _)); exact BK176.out) hb); have n1_ := Aside0.mk (blk_below (g := gb181) (o := .cells #[.bool t177, .string t178, .int .i64 t179] 93 (0, 0)) (by (with_reducible repeat (first | refine blk_drewN ?_ _ | refine blk_drew ?_ | refine blk_alloc ?_ _)); exact BK181.out) hb); have n2_ := Aside0.mk (below_step (by repeat (first | (with_reducible first | exact HB.out | apply below_alloc | apply pw_below_drewN | apply below_drew1 | refine below_set ?_ GE176.out | refine below_set ?_ GE181.out) | exact HB.out)) hb); clear BK176; clear BK181; clear HB; have BK176 := n0_; have BK181 := n1_; have HB := n2_; clear n0_ n1_ n2_; (try clear hb); (try clear hb2); (try clear hk); (try clear hi))))
            go_ret2
            exact ⟨by first | rfl | (simp [errW_none, errW_some] <;> rfl) | (simp [*, errW_none, errW_some] <;> rfl), by repeat (first | (with_reducible first | exact HB.out | apply below_alloc | apply pw_below_drewN | apply below_drew1 | refine below_set ?_ GE176.out | refine below_set ?_ GE181.out) | exact HB.out)⟩
         ·rw [if_neg c35] at H
          have c35b0 : decide ((wrap64 ((a0_1.size : Int) - 19)) ≤ 0) = false := decide_eq_false c35
          clear c35
          replace H := Option.bind_eq_some_iff.mp H
          obtain ⟨⟨t186, t187⟩, A450, H⟩ := H
          replace H : ((quick_Step.f kj21 (IntKind.u64.wrap (x7_21 + 1)) (wrap64 (a0_2 + (wrap64 ((a0_1.size : Int) - 19))))).bind fun bt188 => (if t187 = true then (if bt188.2 = true then (if t186 = bt188.1 then (some (Go.bits .or .u64 t186 x6_14, true)) else (some (0, false))) else (some (0, false))) else (some (0, false)))) = some (r1, r2) := H
          have A45 := Aside0.mk A450
          clear A450
          replace H := Option.bind_eq_some_iff.mp H
          obtain ⟨⟨t188, t189⟩, A460, H⟩ := H
          replace H : (if t187 = true then (if t189 = true then (if t186 = t188 then (some (Go.bits .or .u64 t186 x6_14, true)) else (some (0, false))) else (some (0, false))) else (some (0, false))) = some (r1, r2) := H
          have A46 := Aside0.mk A460
          clear A460
          by_cases c47 : t187 = true
          ·subst c47
           have H1 : (if t189 = true then (if t186 = t188 then (some (Go.bits .or .u64 t186 x6_14, true)) else (some (0, false))) else (some (0, false))) = some (r1, r2) := by rw [if_pos rfl] at H; exact H
           clear H
           have H := H1
           clear H1
           by_cases c48 : t189 = true
           ·subst c48
            have H1 : (if t186 = t188 then (some (Go.bits .or .u64 t186 x6_14, true)) else (some (0, false))) = some (r1, r2) := by rw [if_pos rfl] at H; exact H
            clear H
            have H := H1
            clear H1
            by_cases c49 : t186 = t188
            ·rw [if_pos c49] at H
             have c49b0 : (t186 == t188) = true := beq_iff_eq.mpr c49
             have c49b1 : (t186 != t188) = false := bne_eq_false_iff_eq.mpr c49
             clear c49
             simp only [Option.some.injEq, Prod.mk.injEq] at H
             obtain ⟨rfl, rfl⟩ := H
             go_wp2_with (first | (go_at_call 208; (with_reducible refine (quick_Step.calls kj21 x7_21 (wrap64 (a0_2 + (wrap64 ((a0_1.size : Int) - 19)))) t186 true _ ?side1 A45.out).mono ?_); (case side1 => first | exact hT | exact Tabs.below hT (by repeat (first | (with_reducible first | exact HB.out | apply below_alloc | apply pw_below_drewN | apply below_drew1 | refine below_set ?_ GE176.out | refine below_set ?_ GE181.out) | exact HB.out)) | (repeat (first | exact hT | apply Tabs.drewN | apply Tabs.drew))); rintro e w50 ⟨rfl, hb⟩; have n0_ := Aside0.mk (blk_below (g := gb176) (o := .cells #[.bool a0_0, .string a0_1, .int .i64 a0_2] 93 (0, 0)) (by (with_reducible repeat (first | refine blk_drewN ?_ _ | refine blk_drew ?_ | refine blk_alloc ?_ _)); exact BK176.out) hb); have n1_ := Aside0.mk (blk_below (g := gb181) (o := .cells #[.bool t177, .string t178, .int .i64 t179] 93 (0, 0)) (by (with_reducible repeat (first | refine blk_drewN ?_ _ | refine blk_drew ?_ | refine blk_alloc ?_ _)); exact BK181.out) hb); have n2_ := Aside0.mk (below_step (by repeat (first | (with_reducible first | exact HB.out | apply below_alloc | apply pw_below_drewN | apply below_drew1 | refine below_set ?_ GE176.out | refine below_set ?_ GE181.out) | exact HB.out)) hb); clear BK176; clear BK181; clear HB; have BK176 := n0_; have BK181 := n1_; have HB := n2_; clear n0_ n1_ n2_; (try clear hb); (try clear hb2); (try clear hk); (try clear hi)) | (go_at_call 208; (with_reducible refine (quick_Step.calls kj21 (IntKind.u64.wrap (x7_21 + 1)) (wrap64 (a0_2 + (wrap64 ((a0_1.size : Int) - 19)))) t188 true _ ?side1 A46.out).mono ?_); (case side1 => first | exact hT | exact Tabs.below hT (by repeat (first | (with_reducible first | exact HB.out | apply below_alloc | apply pw_below_drewN | apply below_drew1 | refine below_set ?_ GE176.out | refine below_set ?_ GE181.out) | exact HB.out)) | (repeat (first | exact hT | apply Tabs.drewN | apply Tabs.drew))); rintro e w51 ⟨rfl, hb⟩; have n0_ := Aside0.mk (blk_below (g := gb176) (o := .cells #[.bool a0_0, .string a0_1, .int .i64 a0_2] 93 (0, 0)) (by (with_reducible repeat (first | refine blk_drewN ?_ _ | refine blk_drew ?_ | refine blk_alloc ?_ _)); exact BK176.out) hb); have n1_ := Aside0.mk (blk_below (g := gb181) (o := .cells #[.bool t177, .string t178, .int .i64 t179] 93 (0, 0)) (by (with_reducible repeat (first | refine blk_drewN ?_ _ | refine blk_drew ?_ | refine blk_alloc ?_ _)); exact BK181.out) hb); have n2_ := Aside0.mk (below_step (by repeat (first | (with_reducible first | exact HB.out | apply below_alloc | apply pw_below_drewN | apply below_drew1 | refine below_set ?_ GE176.out | refine below_set ?_ GE181.out) | exact HB.out)) hb); clear BK176; clear BK181; clear HB; have BK176 := n0_; have BK181 := n1_; have HB := n2_; clear n0_ n1_ n2_; (try clear hb); (try clear hb2); (try clear hk); (try clear hi)))
             repeat (go_quiet (first | (go_at_call 208; (with_reducible refine (quick_Step.calls kj21 x7_21 (wrap64 (a0_2 + (wrap64 ((a0_1.size : Int) - 19)))) t186 true _ ?side1 A45.out).mono ?_); (case side1 => first | exact hT | exact Tabs.below hT (by repeat (first | (with_reducible first | exact HB.out | apply below_alloc | apply pw_below_drewN | apply below_drew1 | refine below_set ?_ GE176.out | refine below_set ?_ GE181.out) | exact HB.out)) | (repeat (first | exact hT | apply Tabs.drewN | apply Tabs.drew))); rintro e w50 ⟨rfl, hb⟩; have n0_ := Aside0.mk (blk_below (g := gb176) (o := .cells #[.bool a0_0, .string a0_1, .int .i64 a0_2] 93 (0, 0)) (by (with_reducible repeat (first | refine blk_drewN ?_ _ | refine blk_drew ?_ | refine blk_alloc ?_ _)); exact BK176.out) hb); have n1_ := Aside0.mk (blk_below (g := gb181) (o := .cells #[.bool t177, .string t178, .int .i64 t179] 93 (0, 0)) (by (with_reducible repeat (first | refine blk_drewN ?_ _ | refine blk_drew ?_ | refine blk_alloc ?_ _)); exact BK181.out) hb); have n2_ := Aside0.mk (below_step (by repeat (first | (with_reducible first | exact HB.out | apply below_alloc | apply pw_below_drewN | apply below_drew1 | refine below_set ?_ GE176.out | refine below_set ?_ GE181.out) | exact HB.out)) hb); clear BK176; clear BK181; clear HB; have BK176 := n0_; have BK181 := n1_; have HB := n2_; clear n0_ n1_ n2_; (try clear hb); (try clear hb2); (try clear hk); (try clear hi)) | (go_at_call 208; (with_reducible refine (quick_Step.calls kj21 (IntKind.u64.wrap (x7_21 + 1)) (wrap64 (a0_2 + (wrap64 ((a0_1.size : Int) - 19)))) t188 true _ ?side1 A46.out).mono ?_); (case side1 => first | exact hT | exact Tabs.below hT (by repeat (first | (with_reducible first | exact HB.out | apply below_alloc | apply pw_below_drewN | apply below_drew1 | refine below_set ?_ GE176.out | refine below_set ?_ GE181.out) | exact HB.out)) | (repeat (first | exact hT | apply Tabs.drewN | apply Tabs.drew))); rintro e w51 ⟨rfl, hb⟩; have n0_ := Aside0.mk (blk_below (g := gb176) (o := .cells #[.bool a0_0, .string a0_1, .int .i64 a0_2] 93 (0, 0)) (by (with_reducible repeat (first | refine blk_drewN ?_ _ | refine blk_drew ?_ | refine blk_alloc ?_ _)); exact BK176.out) hb); have n1_ := Aside0.mk (blk_below (g := gb181) (o := .cells #[.bool t177, .string t178, .int .i64 t179] 93 (0, 0)) (by (with_reducible repeat (first | refine blk_drewN ?_ _ | refine blk_drew ?_ | refine blk_alloc ?_ _)); exact BK181.out) hb); have n2_ := Aside0.mk (below_step (by repeat (first | (with_reducible first | exact HB.out | apply below_alloc | apply pw_below_drewN | apply below_drew1 | refine below_set ?_ GE176.out | refine below_set ?_ GE181.out) | exact HB.out)) hb); clear BK176; clear BK181; clear HB; have BK176 := n0_; have BK181 := n1_; have HB := n2_; clear n0_ n1_ n2_; (try clear hb); (try clear hb2); (try clear hk); (try clear hi))); try go_wp2_with (first | (go_at_call 208; (with_reducible refine (quick_Step.calls kj21 x7_21 (wrap64 (a0_2 + (wrap64 ((a0_1.size : Int) - 19)))) t186 true _ ?side1 A45.out).mono ?_); (case side1 => first | exact hT | exact Tabs.below hT (by repeat (first | (with_reducible first | exact HB.out | apply below_alloc | apply pw_below_drewN | apply below_drew1 | refine below_set ?_ GE176.out | refine below_set ?_ GE181.out) | exact HB.out)) | (repeat (first | exact hT | apply Tabs.drewN | apply Tabs.drew))); rintro e w50 ⟨rfl, hb⟩; have n0_ := Aside0.mk (blk_below (g := gb176) (o := .cells #[.bool a0_0, .string a0_1, .int .i64 a0_2] 93 (0, 0)) (by (with_reducible repeat (first | refine blk_drewN ?_ _ | refine blk_drew ?_ | refine blk_alloc ?_ _)); exact BK176.out) hb); have n1_ := Aside0.mk (blk_below (g := gb181) (o := .cells #[.bool t177, .string t178, .int .i64 t179] 93 (0, 0)) (by (with_reducible repeat (first | refine blk_drewN ?_ _ | refine blk_drew ?_ | refine blk_alloc ?_ _)); exact BK181.out) hb); have n2_ := Aside0.mk (below_step (by repeat (first | (with_reducible first | exact HB.out | apply below_alloc | apply pw_below_drewN | apply below_drew1 | refine below_set ?_ GE176.out | refine below_set ?_ GE181.out) | exact HB.out)) hb); clear BK176; clear BK181; clear HB; have BK176 := n0_; have BK181 := n1_; have HB := n2_; clear n0_ n1_ n2_; (try clear hb); (try clear hb2); (try clear hk); (try clear hi)) | (go_at_call 208; (with_reducible refine (quick_Step.calls kj21 (IntKind.u64.wrap (x7_21 + 1)) (wrap64 (a0_2 + (wrap64 ((a0_1.size : Int) - 19)))) t188 true _ ?side1 A46.out).mono ?_); (case side1 => first | exact hT | exact Tabs.below hT (by repeat (first | (with_reducible first | exact HB.out | apply below_alloc | apply pw_below_drewN | apply below_drew1 | refine below_set ?_ GE176.out | refine below_set ?_ GE181.out) | exact HB.out)) | (repeat (first | exact hT | apply Tabs.drewN | apply Tabs.drew))); rintro e w51 ⟨rfl, hb⟩; have n0_ := Aside0.mk (blk_below (g := gb176) (o := .cells #[.bool a0_0, .string a0_1, .int .i64 a0_2] 93 (0, 0)) (by (with_reducible repeat (first | refine blk_drewN ?_ _ | refine blk_drew ?_ | refine blk_alloc ?_ _)); exact BK176.out) hb); have n1_ := Aside0.mk (blk_below (g := gb181) (o := .cells #[.bool t177, .string t178, .int .i64 t179] 93 (0, 0)) (by (with_reducible repeat (first | refine blk_drewN ?_ _ | refine blk_drew ?_ | refine blk_alloc ?_ _)); exact BK181.out) hb); have n2_ := Aside0.mk (below_step (by repeat (first | (with_reducible first | exact HB.out | apply below_alloc | apply pw_below_drewN | apply below_drew1 | refine below_set ?_ GE176.out | refine below_set ?_ GE181.out) | exact HB.out)) hb); clear BK176; clear BK181; clear HB; have BK176 := n0_; have BK181 := n1_; have HB := n2_; clear n0_ n1_ n2_; (try clear hb); (try clear hb2); (try clear hk); (try clear hi))))
             go_ret2
             exact ⟨by first | rfl | (simp [errW_none, errW_some] <;> rfl) | (simp [*, errW_none, errW_some] <;> rfl), by repeat (first | (with_reducible first | exact HB.out | apply below_alloc | apply pw_below_drewN | apply below_drew1 | refine below_set ?_ GE176.out | refine below_set ?_ GE181.out) | exact HB.out)⟩
            ·rw [if_neg c49] at H
             have c49b0 : (t186 == t188) = false := beq_eq_false_iff_ne.mpr c49
             have c49b1 : (t186 != t188) = true := bne_iff_ne.mpr c49
             simp only [Option.some.injEq, Prod.mk.injEq] at H
             obtain ⟨rfl, rfl⟩ := H
             go_wp2_with (first | (go_at_call 208; (with_reducible refine (quick_Step.calls kj21 x7_21 (wrap64 (a0_2 + (wrap64 ((a0_1.size : Int) - 19)))) t186 true _ ?side1 A45.out).mono ?_); (case side1 => first | exact hT | exact Tabs.below hT (by repeat (first | (with_reducible first | exact HB.out | apply below_alloc | apply pw_below_drewN | apply below_drew1 | refine below_set ?_ GE176.out | refine below_set ?_ GE181.out) | exact HB.out)) | (repeat (first | exact hT | apply Tabs.drewN | apply Tabs.drew))); rintro e w52 ⟨rfl, hb⟩; have n0_ := Aside0.mk (blk_below (g := gb176) (o := .cells #[.bool a0_0, .string a0_1, .int .i64 a0_2] 93 (0, 0)) (by (with_reducible repeat (first | refine blk_drewN ?_ _ | refine blk_drew ?_ | refine blk_alloc ?_ _)); exact BK176.out) hb); have n1_ := Aside0.mk (blk_below (g := gb181) (o := .cells #[.bool t177, .string t178, .int .i64 t179] 93 (0, 0)) (by (with_reducible repeat (first | refine blk_drewN ?_ _ | refine blk_drew ?_ | refine blk_alloc ?_ _)); exact BK181.out) hb); have n2_ := Aside0.mk (below_step (by repeat (first | (with_reducible first | exact HB.out | apply below_alloc | apply pw_below_drewN | apply below_drew1 | refine below_set ?_ GE176.out | refine below_set ?_ GE181.out) | exact HB.out)) hb); clear BK176; clear BK181; clear HB; have BK176 := n0_; have BK181 := n1_; have HB := n2_; clear n0_ n1_ n2_; (try clear hb); (try clear hb2); (try clear hk); (try clear hi)) | (go_at_call 208; (with_reducible refine (quick_Step.calls kj21 (IntKind.u64.wrap (x7_21 + 1)) (wrap64 (a0_2 + (wrap64 ((a0_1.size : Int) - 19)))) t188 true _ ?side1 A46.out).mono ?_); (case side1 => first | exact hT | exact Tabs.below hT (by repeat (first | (with_reducible first | exact HB.out | apply below_alloc | apply pw_below_drewN | apply below_drew1 | refine below_set ?_ GE176.out | refine below_set ?_ GE181.out) | exact HB.out)) | (repeat (first | exact hT | apply Tabs.drewN | apply Tabs.drew))); rintro e w53 ⟨rfl, hb⟩; have n0_ := Aside0.mk (blk_below (g := gb176) (o := .cells #[.bool a0_0, .string a0_1, .int .i64 a0_2] 93 (0, 0)) (by (with_reducible repeat (first | refine blk_drewN ?_ _ | refine blk_drew ?_ | refine blk_alloc ?_ _)); exact BK176.out) hb); have n1_ := Aside0.mk (blk_below (g := gb181) (o := .cells #[.bool t177, .string t178, .int .i64 t179] 93 (0, 0)) (by (with_reducible repeat (first | refine blk_drewN ?_ _ | refine blk_drew ?_ | refine blk_alloc ?_ _)); exact BK181.out) hb); have n2_ := Aside0.mk (below_step (by repeat (first | (with_reducible first | exact HB.out | apply below_alloc | apply pw_below_drewN | apply below_drew1 | refine below_set ?_ GE176.out | refine below_set ?_ GE181.out) | exact HB.out)) hb); clear BK176; clear BK181; clear HB; have BK176 := n0_; have BK181 := n1_; have HB := n2_; clear n0_ n1_ n2_; (try clear hb); (try clear hb2); (try clear hk); (try clear hi)))
             repeat (go_quiet (first | (go_at_call 208; (with_reducible refine (quick_Step.calls kj21 x7_21 (wrap64 (a0_2 + (wrap64 ((a0_1.size : Int) - 19)))) t186 true _ ?side1 A45.out).mono ?_); (case side1 => first | exact hT | exact Tabs.below hT (by repeat (first | (with_reducible first | exact HB.out | apply below_alloc | apply pw_below_drewN | apply below_drew1 | refine below_set ?_ GE176.out | refine below_set ?_ GE181.out) | exact HB.out)) | (repeat (first | exact hT | apply Tabs.drewN | apply Tabs.drew))); rintro e w52 ⟨rfl, hb⟩; have n0_ := Aside0.mk (blk_below (g := gb176) (o := .cells #[.bool a0_0, .string a0_1, .int .i64 a0_2] 93 (0, 0)) (by (with_reducible repeat (first | refine blk_drewN ?_ _ | refine blk_drew ?_ | refine blk_alloc ?_ _)); exact BK176.out) hb); have n1_ := Aside0.mk (blk_below (g := gb181) (o := .cells #[.bool t177, .string t178, .int .i64 t179] 93 (0, 0)) (by (with_reducible repeat (first | refine blk_drewN ?_ _ | refine blk_drew ?_ | refine blk_alloc ?_ _)); exact BK181.out) hb); have n2_ := Aside0.mk (below_step (by repeat (first | (with_reducible first | exact HB.out | apply below_alloc | apply pw_below_drewN | apply below_drew1 | refine below_set ?_ GE176.out | refine below_set ?_ GE181.out) | exact HB.out)) hb); clear BK176; clear BK181; clear HB; have BK176 := n0_; have BK181 := n1_; have HB := n2_; clear n0_ n1_ n2_; (try clear hb); (try clear hb2); (try clear hk); (try clear hi)) | (go_at_call 208; (with_reducible refine (quick_Step.calls kj21 (IntKind.u64.wrap (x7_21 + 1)) (wrap64 (a0_2 + (wrap64 ((a0_1.size : Int) - 19)))) t188 true _ ?side1 A46.out).mono ?_); (case side1 => first | exact hT | exact Tabs.below hT (by repeat (first | (with_reducible first | exact HB.out | apply below_alloc | apply pw_below_drewN | apply below_drew1 | refine below_set ?_ GE176.out | refine below_set ?_ GE181.out) | exact HB.out)) | (repeat (first | exact hT | apply Tabs.drewN | apply Tabs.drew))); rintro e w53 ⟨rfl, hb⟩; have n0_ := Aside0.mk (blk_below (g := gb176) (o := .cells #[.bool a0_0, .string a0_1, .int .i64 a0_2] 93 (0, 0)) (by (with_reducible repeat (first | refine blk_drewN ?_ _ | refine blk_drew ?_ | refine blk_alloc ?_ _)); exact BK176.out) hb); have n1_ := Aside0.mk (blk_below (g := gb181) (o := .cells #[.bool t177, .string t178, .int .i64 t179] 93 (0, 0)) (by (with_reducible repeat (first | refine blk_drewN ?_ _ | refine blk_drew ?_ | refine blk_alloc ?_ _)); exact BK181.out) hb); have n2_ := Aside0.mk (below_step (by repeat (first | (with_reducible first | exact HB.out | apply below_alloc | apply pw_below_drewN | apply below_drew1 | refine below_set ?_ GE176.out | refine below_set ?_ GE181.out) | exact HB.out)) hb); clear BK176; clear BK181; clear HB; have BK176 := n0_; have BK181 := n1_; have HB := n2_; clear n0_ n1_ n2_; (try clear hb); (try clear hb2); (try clear hk); (try clear hi))); try go_wp2_with (first | (go_at_call 208; (with_reducible refine (quick_Step.calls kj21 x7_21 (wrap64 (a0_2 + (wrap64 ((a0_1.size : Int) - 19)))) t186 true _ ?side1 A45.out).mono ?_); (case side1 => first | exact hT | exact Tabs.below hT (by repeat (first | (with_reducible first | exact HB.out | apply below_alloc | apply pw_below_drewN | apply below_drew1 | refine below_set ?_ GE176.out | refine below_set ?_ GE181.out) | exact HB.out)) | (repeat (first | exact hT | apply Tabs.drewN | apply Tabs.drew))); rintro e w52 ⟨rfl, hb⟩; have n0_ := Aside0.mk (blk_below (g := gb176) (o := .cells #[.bool a0_0, .string a0_1, .int .i64 a0_2] 93 (0, 0)) (by (with_reducible repeat (first | refine blk_drewN ?_ _ | refine blk_drew ?_ | refine blk_alloc ?_ _)); exact BK176.out) hb); have n1_ := Aside0.mk (blk_below (g := gb181) (o := .cells #[.bool t177, .string t178, .int .i64 t179] 93 (0, 0)) (by (with_reducible repeat (first | refine blk_drewN ?_ _ | refine blk_drew ?_ | refine blk_alloc ?_ _)); exact BK181.out) hb); have n2_ := Aside0.mk (below_step (by repeat (first | (with_reducible first | exact HB.out | apply below_alloc | apply pw_below_drewN | apply below_drew1 | refine below_set ?_ GE176.out | refine below_set ?_ GE181.out) | exact HB.out)) hb); clear BK176; clear BK181; clear HB; have BK176 := n0_; have BK181 := n1_; have HB := n2_; clear n0_ n1_ n2_; (try clear hb); (try clear hb2); (try clear hk); (try clear hi)) | (go_at_call 208; (with_reducible refine (quick_Step.calls kj21 (IntKind.u64.wrap (x7_21 + 1)) (wrap64 (a0_2 + (wrap64 ((a0_1.size : Int) - 19)))) t188 true _ ?side1 A46.out).mono ?_); (case side1 => first | exact hT | exact Tabs.below hT (by repeat (first | (with_reducible first | exact HB.out | apply below_alloc | apply pw_below_drewN | apply below_drew1 | refine below_set ?_ GE176.out | refine below_set ?_ GE181.out) | exact HB.out)) | (repeat (first | exact hT | apply Tabs.drewN | apply Tabs.drew))); rintro e w53 ⟨rfl, hb⟩; have n0_ := Aside0.mk (blk_below (g := gb176) (o := .cells #[.bool a0_0, .string a0_1, .int .i64 a0_2] 93 (0, 0)) (by (with_reducible repeat (first | refine blk_drewN ?_ _ | refine blk_drew ?_ | refine blk_alloc ?_ _)); exact BK176.out) hb); have n1_ := Aside0.mk (blk_below (g := gb181) (o := .cells #[.bool t177, .string t178, .int .i64 t179] 93 (0, 0)) (by (with_reducible repeat (first | refine blk_drewN ?_ _ | refine blk_drew ?_ | refine blk_alloc ?_ _)); exact BK181.out) hb); have n2_ := Aside0.mk (below_step (by repeat (first | (with_reducible first | exact HB.out | apply below_alloc | apply pw_below_drewN | apply below_drew1 | refine below_set ?_ GE176.out | refine below_set ?_ GE181.out) | exact HB.out)) hb); clear BK176; clear BK181; clear HB; have BK176 := n0_; have BK181 := n1_; have HB := n2_; clear n0_ n1_ n2_; (try clear hb); (try clear hb2); (try clear hk); (try clear hi))))
             go_ret2
             exact ⟨by first | rfl | (simp [errW_none, errW_some] <;> rfl) | (simp [*, errW_none, errW_some] <;> rfl), by repeat (first | (with_reducible first | exact HB.out | apply below_alloc | apply pw_below_drewN | apply below_drew1 | refine below_set ?_ GE176.out | refine below_set ?_ GE181.out) | exact HB.out)⟩
           ·replace c48 := Bool.eq_false_iff.mpr c48
            subst c48
            have H1 : (some (0, false)) = some (r1, r2) := by rw [if_neg (show ¬ (false = true) by decide)] at H; exact H
            clear H
            have H := H1
            clear H1
            simp only [Option.some.injEq, Prod.mk.injEq] at H
            obtain ⟨rfl, rfl⟩ := H
            go_wp2_with (first | (go_at_call 208; (with_reducible refine (quick_Step.calls kj21 x7_21 (wrap64 (a0_2 + (wrap64 ((a0_1.size : Int) - 19)))) t186 true _ ?side1 A45.out).mono ?_); (case side1 => first | exact hT | exact Tabs.below hT (by repeat (first | (with_reducible first | exact HB.out | apply below_alloc | apply pw_below_drewN | apply below_drew1 | refine below_set ?_ GE176.out | refine below_set ?_ GE181.out) | exact HB.out)) | (repeat (first | exact hT | apply Tabs.drewN | apply Tabs.drew))); rintro e w54 ⟨rfl, hb⟩; have n0_ := Aside0.mk (blk_below (g := gb176) (o := .cells #[.bool a0_0, .string a0_1, .int .i64 a0_2] 93 (0, 0)) (by (with_reducible repeat (first | refine blk_drewN ?_ _ | refine blk_drew ?_ | refine blk_alloc ?_ _)); exact BK176.out) hb); have n1_ := Aside0.mk (blk_below (g := gb181) (o := .cells #[.bool t177, .string t178, .int .i64 t179] 93 (0, 0)) (by (with_reducible repeat (first | refine blk_drewN ?_ _ | refine blk_drew ?_ | refine blk_alloc ?_ _)); exact BK181.out) hb); have n2_ := Aside0.mk (below_step (by repeat (first | (with_reducible first | exact HB.out | apply below_alloc | apply pw_below_drewN | apply below_drew1 | refine below_set ?_ GE176.out | refine below_set ?_ GE181.out) | exact HB.out)) hb); clear BK176; clear BK181; clear HB; have BK176 := n0_; have BK181 := n1_; have HB := n2_; clear n0_ n1_ n2_; (try clear hb); (try clear hb2); (try clear hk); (try clear hi)) | (go_at_call 208; (with_reducible refine (quick_Step.calls kj21 (IntKind.u64.wrap (x7_21 + 1)) (wrap64 (a0_2 + (wrap64 ((a0_1.size : Int) - 19)))) t188 false _ ?side1 A46.out).mono ?_); (case side1 => first | exact hT | exact Tabs.below hT (by repeat (first | (with_reducible first | exact HB.out | apply below_alloc | apply pw_below_drewN | apply below_drew1 | refine below_set ?_ GE176.out | refine below_set ?_ GE181.out) | exact HB.out)) | (repeat (first | exact hT | apply Tabs.drewN | apply Tabs.drew))); rintro e w55 ⟨rfl, hb⟩; have n0_ := Aside0.mk (blk_below (g := gb176) (o := .cells #[.bool a0_0, .string a0_1, .int .i64 a0_2] 93 (0, 0)) (by (with_reducible repeat (first | refine blk_drewN ?_ _ | refine blk_drew ?_ | refine blk_alloc ?_ _)); exact BK176.out) hb); have n1_ := Aside0.mk (blk_below (g := gb181) (o := .cells #[.bool t177, .string t178, .int .i64 t179] 93 (0, 0)) (by (with_reducible repeat (first | refine blk_drewN ?_ _ | refine blk_drew ?_ | refine blk_alloc ?_ _)); exact BK181.out) hb); have n2_ := Aside0.mk (below_step (by repeat (first | (with_reducible first | exact HB.out | apply below_alloc | apply pw_below_drewN | apply below_drew1 | refine below_set ?_ GE176.out | refine below_set ?_ GE181.out) | exact HB.out)) hb); clear BK176; clear BK181; clear HB; have BK176 := n0_; have BK181 := n1_; have HB := n2_; clear n0_ n1_ n2_; (try clear hb); (try clear hb2); (try clear hk); (try clear hi)))
            repeat (go_quiet (first | (go_at_call 208; (with_reducible refine (quick_Step.calls kj21 x7_21 (wrap64 (a0_2 + (wrap64 ((a0_1.size : Int) - 19)))) t186 true _ ?side1 A45.out).mono ?_); (case side1 => first | exact hT | exact Tabs.below hT (by repeat (first | (with_reducible first | exact HB.out | apply below_alloc | apply pw_below_drewN | apply below_drew1 | refine below_set ?_ GE176.out | refine below_set ?_ GE181.out) | exact HB.out)) | (repeat (first | exact hT | apply Tabs.drewN | apply Tabs.drew))); rintro e w54 ⟨rfl, hb⟩; have n0_ := Aside0.mk (blk_below (g := gb176) (o := .cells #[.bool a0_0, .string a0_1, .int .i64 a0_2] 93 (0, 0)) (by (with_reducible repeat (first | refine blk_drewN ?_ _ | refine blk_drew ?_ | refine blk_alloc ?_ _)); exact BK176.out) hb); have n1_ := Aside0.mk (blk_below (g := gb181) (o := .cells #[.bool t177, .string t178, .int .i64 t179] 93 (0, 0)) (by (with_reducible repeat (first | refine blk_drewN ?_ _ | refine blk_drew ?_ | refine blk_alloc ?_ _)); exact BK181.out) hb); have n2_ := Aside0.mk (below_step (by repeat (first | (with_reducible first | exact HB.out | apply below_alloc | apply pw_below_drewN | apply below_drew1 | refine below_set ?_ GE176.out | refine below_set ?_ GE181.out) | exact HB.out)) hb); clear BK176; clear BK181; clear HB; have BK176 := n0_; have BK181 := n1_; have HB := n2_; clear n0_ n1_ n2_; (try clear hb); (try clear hb2); (try clear hk); (try clear hi)) | (go_at_call 208; (with_reducible refine (quick_Step.calls kj21 (IntKind.u64.wrap (x7_21 + 1)) (wrap64 (a0_2 + (wrap64 ((a0_1.size : Int) - 19)))) t188 false _ ?side1 A46.out).mono ?_); (case side1 => first | exact hT | exact Tabs.below hT (by repeat (first | (with_reducible first | exact HB.out | apply below_alloc | apply pw_below_drewN | apply below_drew1 | refine below_set ?_ GE176.out | refine below_set ?_ GE181.out) | exact HB.out)) | (repeat (first | exact hT | apply Tabs.drewN | apply Tabs.drew))); rintro e w55 ⟨rfl, hb⟩; have n0_ := Aside0.mk (blk_below (g := gb176) (o := .cells #[.bool a0_0, .string a0_1, .int .i64 a0_2] 93 (0, 0)) (by (with_reducible repeat (first | refine blk_drewN ?_ _ | refine blk_drew ?_ | refine blk_alloc ?_ _)); exact BK176.out) hb); have n1_ := Aside0.mk (blk_below (g := gb181) (o := .cells #[.bool t177, .string t178, .int .i64 t179] 93 (0, 0)) (by (with_reducible repeat (first | refine blk_drewN ?_ _ | refine blk_drew ?_ | refine blk_alloc ?_ _)); exact BK181.out) hb); have n2_ := Aside0.mk (below_step (by repeat (first | (with_reducible first | exact HB.out | apply below_alloc | apply pw_below_drewN | apply below_drew1 | refine below_set ?_ GE176.out | refine below_set ?_ GE181.out) | exact HB.out)) hb); clear BK176; clear BK181; clear HB; have BK176 := n0_; have BK181 := n1_; have HB := n2_; clear n0_ n1_ n2_; (try clear hb); (try clear hb2); (try clear hk); (try clear hi))); try go_wp2_with (first | (go_at_call 208; (with_reducible refine (quick_Step.calls kj21 x7_21 (wrap64 (a0_2 + (wrap64 ((a0_1.size : Int) - 19)))) t186 true _ ?side1 A45.out).mono ?_); (case side1 => first | exact hT | exact Tabs.below hT (by repeat (first | (with_reducible first | exact HB.out | apply below_alloc | apply pw_below_drewN | apply below_drew1 | refine below_set ?_ GE176.out | refine below_set ?_ GE181.out) | exact HB.out)) | (repeat (first | exact hT | apply Tabs.drewN | apply Tabs.drew))); rintro e w54 ⟨rfl, hb⟩; have n0_ := Aside0.mk (blk_below (g := gb176) (o := .cells #[.bool a0_0, .string a0_1, .int .i64 a0_2] 93 (0, 0)) (by (with_reducible repeat (first | refine blk_drewN ?_ _ | refine blk_drew ?_ | refine blk_alloc ?_ _)); exact BK176.out) hb); have n1_ := Aside0.mk (blk_below (g := gb181) (o := .cells #[.bool t177, .string t178, .int .i64 t179] 93 (0, 0)) (by (with_reducible repeat (first | refine blk_drewN ?_ _ | refine blk_drew ?_ | refine blk_alloc ?_ _)); exact BK181.out) hb); have n2_ := Aside0.mk (below_step (by repeat (first | (with_reducible first | exact HB.out | apply below_alloc | apply pw_below_drewN | apply below_drew1 | refine below_set ?_ GE176.out | refine below_set ?_ GE181.out) | exact HB.out)) hb); clear BK176; clear BK181; clear HB; have BK176 := n0_; have BK181 := n1_; have HB := n2_; clear n0_ n1_ n2_; (try clear hb); (try clear hb2); (try clear hk); (try clear hi)) | (go_at_call 208; (with_reducible refine (quick_Step.calls kj21 (IntKind.u64.wrap (x7_21 + 1)) (wrap64 (a0_2 + (wrap64 ((a0_1.size : Int) - 19)))) t188 false _ ?side1 A46.out).mono ?_); (case side1 => first | exact hT | exact Tabs.below hT (by repeat (first | (with_reducible first | exact HB.out | apply below_alloc | apply pw_below_drewN | apply below_drew1 | refine below_set ?_ GE176.out | refine below_set ?_ GE181.out) | exact HB.out)) | (repeat (first | exact hT | apply Tabs.drewN | apply Tabs.drew))); rintro e w55 ⟨rfl, hb⟩; have n0_ := Aside0.mk (blk_below (g := gb176) (o := .cells #[.bool a0_0, .string a0_1, .int .i64 a0_2] 93 (0, 0)) (by (with_reducible repeat (first | refine blk_drewN ?_ _ | refine blk_drew ?_ | refine blk_alloc ?_ _)); exact BK176.out) hb); have n1_ := Aside0.mk (blk_below (g := gb181) (o := .cells #[.bool t177, .string t178, .int .i64 t179] 93 (0, 0)) (by (with_reducible repeat (first | refine blk_drewN ?_ _ | refine blk_drew ?_ | refine blk_alloc ?_ _)); exact BK181.out) hb); have n2_ := Aside0.mk (below_step (by repeat (first | (with_reducible first | exact HB.out | apply below_alloc | apply pw_below_drewN | apply below_drew1 | refine below_set ?_ GE176.out | refine below_set ?_ GE181.out) | exact HB.out)) hb); clear BK176; clear BK181; clear HB; have BK176 := n0_; have BK181 := n1_; have HB := n2_; clear n0_ n1_ n2_; (try clear hb); (try clear hb2); (try clear hk); (try clear hi))))
            go_ret2
            exact ⟨by first | rfl | (simp [errW_none, errW_some] <;> rfl) | (simp [*, errW_none, errW_some] <;> rfl), by repeat (first | (with_reducible first | exact HB.out | apply below_alloc | apply pw_below_drewN | apply below_drew1 | refine below_set ?_ GE176.out | refine below_set ?_ GE181.out) | exact HB.out)⟩
          ·replace c47 := Bool.eq_false_iff.mpr c47
           subst c47
           have H1 : (some (0, false)) = some (r1, r2) := by rw [if_neg (show ¬ (false = true) by decide)] at H; exact H
           clear H
           have H := H1
           clear H1
           simp only [Option.some.injEq, Prod.mk.injEq] at H
           obtain ⟨rfl, rfl⟩ := H
           go_wp2_with (first | (go_at_call 208; (with_reducible refine (quick_Step.calls kj21 x7_21 (wrap64 (a0_2 + (wrap64 ((a0_1.size : Int) - 19)))) t186 false _ ?side1 A45.out).mono ?_); (case side1 => first | exact hT | exact Tabs.below hT (by repeat (first | (with_reducible first | exact HB.out | apply below_alloc | apply pw_below_drewN | apply below_drew1 | refine below_set ?_ GE176.out | refine below_set ?_ GE181.out) | exact HB.out)) | (repeat (first | exact hT | apply Tabs.drewN | apply Tabs.drew))); rintro e w56 ⟨rfl, hb⟩; have n0_ := Aside0.mk (blk_below (g := gb176) (o := .cells #[.bool a0_0, .string a0_1, .int .i64 a0_2] 93 (0, 0)) (by (with_reducible repeat (first | refine blk_drewN ?_ _ | refine blk_drew ?_ | refine blk_alloc ?_ _)); exact BK176.out) hb); have n1_ := Aside0.mk (blk_below (g := gb181) (o := .cells #[.bool t177, .string t178, .int .i64 t179] 93 (0, 0)) (by (with_reducible repeat (first | refine blk_drewN ?_ _ | refine blk_drew ?_ | refine blk_alloc ?_ _)); exact BK181.out) hb); have n2_ := Aside0.mk (below_step (by repeat (first | (with_reducible first | exact HB.out | apply below_alloc | apply pw_below_drewN | apply below_drew1 | refine below_set ?_ GE176.out | refine below_set ?_ GE181.out) | exact HB.out)) hb); clear BK176; clear BK181; clear HB; have BK176 := n0_; have BK181 := n1_; have HB := n2_; clear n0_ n1_ n2_; (try clear hb); (try clear hb2); (try clear hk); (try clear hi)) | (go_at_call 208; (with_reducible refine (quick_Step.calls kj21 (IntKind.u64.wrap (x7_21 + 1)) (wrap64 (a0_2 + (wrap64 ((a0_1.size : Int) - 19)))) t188 t189 _ ?side1 A46.out).mono ?_); (case side1 => first | exact hT | exact Tabs.below hT (by repeat (first | (with_reducible first | exact HB.out | apply below_alloc | apply pw_below_drewN | apply below_drew1 | refine below_set ?_ GE176.out | refine below_set ?_ GE181.out) | exact HB.out)) | (repeat (first | exact hT | apply Tabs.drewN | apply Tabs.drew))); rintro e w57 ⟨rfl, hb⟩; have n0_ := Aside0.mk (blk_below (g := gb176) (o := .cells #[.bool a0_0, .string a0_1, .int .i64 a0_2] 93 (0, 0)) (by (with_reducible repeat (first | refine blk_drewN ?_ _ | refine blk_drew ?_ | refine blk_alloc ?_ _)); exact BK176.out) hb); have n1_ := Aside0.mk (blk_below (g := gb181) (o := .cells #[.bool t177, .string t178, .int .i64 t179] 93 (0, 0)) (by (with_reducible repeat (first | refine blk_drewN ?_ _ | refine blk_drew ?_ | refine blk_alloc ?_ _)); exact BK181.out) hb); have n2_ := Aside0.mk (below_step (by repeat (first | (with_reducible first | exact HB.out | apply below_alloc | apply pw_below_drewN | apply below_drew1 | refine below_set ?_ GE176.out | refine below_set ?_ GE181.out) | exact HB.out)) hb); clear BK176; clear BK181; clear HB; have BK176 := n0_; have BK181 := n1_; have HB := n2_; clear n0_ n1_ n2_; (try clear hb); (try clear hb2); (try clear hk); (try clear hi)))
           repeat (go_quiet (first | (go_at_call 208; (with_reducible refine (quick_Step.calls kj21 x7_21 (wrap64 (a0_2 + (wrap64 ((a0_1.size : Int) - 19)))) t186 false _ ?side1 A45.out).mono ?_); (case side1 => first | exact hT | exact Tabs.below hT (by repeat (first | (with_reducible first | exact HB.out | apply below_alloc | apply pw_below_drewN | apply below_drew1 | refine below_set ?_ GE176.out | refine below_set ?_ GE181.out) | exact HB.out)) | (repeat (first | exact hT | apply Tabs.drewN | apply Tabs.drew))); rintro e w56 ⟨rfl, hb⟩; have n0_ := Aside0.mk (blk_below (g := gb176) (o := .cells #[.bool a0_0, .string a0_1, .int .i64 a0_2] 93 (0, 0)) (by (with_reducible repeat (first | refine blk_drewN ?_ _ | refine blk_drew ?_ | refine blk_alloc ?_ _)); exact BK176.out) hb); have n1_ := Aside0.mk (blk_below (g := gb181) (o := .cells #[.bool t177, .string t178, .int .i64 t179] 93 (0, 0)) (by (with_reducible repeat (first | refine blk_drewN ?_ _ | refine blk_drew ?_ | refine blk_alloc ?_ _)); exact BK181.out) hb); have n2_ := Aside0.mk (below_step (by repeat (first | (with_reducible first | exact HB.out | apply below_alloc | apply pw_below_drewN | apply below_drew1 | refine below_set ?_ GE176.out | refine below_set ?_ GE181.out) | exact HB.out)) hb); clear BK176; clear BK181; clear HB; have BK176 := n0_; have BK181 := n1_; have HB := n2_; clear n0_ n1_ n2_; (try clear hb); (try clear hb2); (try clear hk); (try clear hi)) | (go_at_call 208; (with_reducible refine (quick_Step.calls kj21 (IntKind.u64.wrap (x7_21 + 1)) (wrap64 (a0_2 + (wrap64 ((a0_1.size : Int) - 19)))) t188 t189 _ ?side1 A46.out).mono ?_); (case side1 => first | exact hT | exact Tabs.below hT (by repeat (first | (with_reducible first | exact HB.out | apply below_alloc | apply pw_below_drewN | apply below_drew1 | refine below_set ?_ GE176.out | refine below_set ?_ GE181.out) | exact HB.out)) | (repeat (first | exact hT | apply Tabs.drewN | apply Tabs.drew))); rintro e w57 ⟨rfl, hb⟩; have n0_ := Aside0.mk (blk_below (g := gb176) (o := .cells #[.bool a0_0, .string a0_1, .int .i64 a0_2] 93 (0, 0)) (by (with_reducible repeat (first | refine blk_drewN ?_ _ | refine blk_drew ?_ | refine blk_alloc ?_ _)); exact BK176.out) hb); have n1_ := Aside0.mk (blk_below (g := gb181) (o := .cells #[.bool t177, .string t178, .int .i64 t179] 93 (0, 0)) (by (with_reducible repeat (first | refine blk_drewN ?_ _ | refine blk_drew ?_ | refine blk_alloc ?_ _)); exact BK181.out) hb); have n2_ := Aside0.mk (below_step (by repeat (first | (with_reducible first | exact HB.out | apply below_alloc | apply pw_below_drewN | apply below_drew1 | refine below_set ?_ GE176.out | refine below_set ?_ GE181.out) | exact HB.out)) hb); clear BK176; clear BK181; clear HB; have BK176 := n0_; have BK181 := n1_; have HB := n2_; clear n0_ n1_ n2_; (try clear hb); (try clear hb2); (try clear hk); (try clear hi))); try go_wp2_with (first | (go_at_call 208; (with_reducible refine (quick_Step.calls kj21 x7_21 (wrap64 (a0_2 + (wrap64 ((a0_1.size : Int) - 19)))) t186 false _ ?side1 A45.out).mono ?_); (case side1 => first | exact hT | exact Tabs.below hT (by repeat (first | (with_reducible first | exact HB.out | apply below_alloc | apply pw_below_drewN | apply below_drew1 | refine below_set ?_ GE176.out | refine below_set ?_ GE181.out) | exact HB.out)) | (repeat (first | exact hT | apply Tabs.drewN | apply Tabs.drew))); rintro e w56 ⟨rfl, hb⟩; have n0_ := Aside0.mk (blk_below (g := gb176) (o := .cells #[.bool a0_0, .string a0_1, .int .i64 a0_2] 93 (0, 0)) (by (with_reducible repeat (first | refine blk_drewN ?_ _ | refine blk_drew ?_ | refine blk_alloc ?_ _)); exact BK176.out) hb); have n1_ := Aside0.mk (blk_below (g := gb181) (o := .cells #[.bool t177, .string t178, .int .i64 t179] 93 (0, 0)) (by (with_reducible repeat (first | refine blk_drewN ?_ _ | refine blk_drew ?_ | refine blk_alloc ?_ _)); exact BK181.out) hb); have n2_ := Aside0.mk (below_step (by repeat (first | (with_reducible first | exact HB.out | apply below_alloc | apply pw_below_drewN | apply below_drew1 | refine below_set ?_ GE176.out | refine below_set ?_ GE181.out) | exact HB.out)) hb); clear BK176; clear BK181; clear HB; have BK176 := n0_; have BK181 := n1_; have HB := n2_; clear n0_ n1_ n2_; (try clear hb); (try clear hb2); (try clear hk); (try clear hi)) | (go_at_call 208; (with_reducible refine (quick_Step.calls kj21 (IntKind.u64.wrap (x7_21 + 1)) (wrap64 (a0_2 + (wrap64 ((a0_1.size : Int) - 19)))) t188 t189 _ ?side1 A46.out).mono ?_); (case side1 => first | exact hT | exact Tabs.below hT (by repeat (first | (with_reducible first | exact HB.out | apply below_alloc | apply pw_below_drewN | apply below_drew1 | refine below_set ?_ GE176.out | refine below_set ?_ GE181.out) | exact HB.out)) | (repeat (first | exact hT | apply Tabs.drewN | apply Tabs.drew))); rintro e w57 ⟨rfl, hb⟩; have n0_ := Aside0.mk (blk_below (g := gb176) (o := .cells #[.bool a0_0, .string a0_1, .int .i64 a0_2] 93 (0, 0)) (by (with_reducible repeat (first | refine blk_drewN ?_ _ | refine blk_drew ?_ | refine blk_alloc ?_ _)); exact BK176.out) hb); have n1_ := Aside0.mk (blk_below (g := gb181) (o := .cells #[.bool t177, .string t178, .int .i64 t179] 93 (0, 0)) (by (with_reducible repeat (first | refine blk_drewN ?_ _ | refine blk_drew ?_ | refine blk_alloc ?_ _)); exact BK181.out) hb); have n2_ := Aside0.mk (below_step (by repeat (first | (with_reducible first | exact HB.out | apply below_alloc | apply pw_below_drewN | apply below_drew1 | refine below_set ?_ GE176.out | refine below_set ?_ GE181.out) | exact HB.out)) hb); clear BK176; clear BK181; clear HB; have BK176 := n0_; have BK181 := n1_; have HB := n2_; clear n0_ n1_ n2_; (try clear hb); (try clear hb2); (try clear hk); (try clear hi))))
           go_ret2
           exact ⟨by first | rfl | (simp [errW_none, errW_some] <;> rfl) | (simp [*, errW_none, errW_some] <;> rfl), by repeat (first | (with_reducible first | exact HB.out | apply below_alloc | apply pw_below_drewN | apply below_drew1 | refine below_set ?_ GE176.out | refine below_set ?_ GE181.out) | exact HB.out)⟩
def scan_Number.f (k : Nat) (a0 : ByteArray) : Option (Bool × ByteArray × Int × Int) := (scan_blanks.f k a0 0).bind fun t191 => ((scan_literal.f k a0 t191).bind fun bt192 => (if bt192.2.2.2.2 = true then ((scan_normal.f bt192.1 bt192.2.1 bt192.2.2.1).bind fun bt198 => (some (bt198.1, bt198.2.1, bt198.2.2, bt192.2.2.2.1))) else (some (false, (⟨#[]⟩ : ByteArray), 0, 0))))
theorem scan_Number.mono : ∀ a0 k, LeO (scan_Number.f k a0) (scan_Number.f (k + 1) a0) := by
 intro a0 k
 unfold scan_Number.f
 repeat' first
   | (with_reducible exact scan_blanks.mono _ _ _)
   | (with_reducible exact scan_literal.mono _ _ _)
   | (with_reducible exact LeO.refl _)
   | (with_reducible exact LeO.none _)
   | (with_reducible refine LeO.ite ?_ ?_)
   | (with_reducible refine LeO.bind ?_ (fun _ => ?_))
   | exact scan_blanks.mono _ _ _
   | exact scan_literal.mono _ _ _
   | exact LeO.none _
   | refine LeO.ite ?_ ?_
   | refine LeO.bind ?_ (fun _ => ?_)
set_option maxHeartbeats 8000000 in
set_option maxRecDepth 100000 in
theorem scan_Number.calls (k : Nat) (a0 : ByteArray) (r1 : Bool) (r2 : ByteArray) (r3 : Int) (r4 : Int) (w : World) (h : scan_Number.f k a0 = some (r1, r2, r3, r4)) :
  Calls Tryz.prog 71 #[.string a0] w fun e w' => e = .returned (.tuple #[.agg #[.bool r1, .string r2, .int .i64 r3], .int .i64 r4]) ∧ Below w.heap.size w w' := by
 have hu93 := Tryz.underlying93
 have HB := Aside0.mk (Below.refl w.heap.size w)
 have H : ((scan_blanks.f k a0 0).bind fun t191 => ((scan_literal.f k a0 t191).bind fun bt192 => (if bt192.2.2.2.2 = true then ((scan_normal.f bt192.1 bt192.2.1 bt192.2.2.1).bind fun bt198 => (some (bt198.1, bt198.2.1, bt198.2.2, bt192.2.2.2.1))) else (some (false, (⟨#[]⟩ : ByteArray), 0, 0))))) = some (r1, r2, r3, r4) := h
 clear h
 replace H := Option.bind_eq_some_iff.mp H
 obtain ⟨t191, A20, H⟩ := H
 replace H : ((scan_literal.f k a0 t191).bind fun bt192 => (if bt192.2.2.2.2 = true then ((scan_normal.f bt192.1 bt192.2.1 bt192.2.2.1).bind fun bt198 => (some (bt198.1, bt198.2.1, bt198.2.2, bt192.2.2.2.1))) else (some (false, (⟨#[]⟩ : ByteArray), 0, 0)))) = some (r1, r2, r3, r4) := H
 have A2 := Aside0.mk A20
 clear A20
 replace H := Option.bind_eq_some_iff.mp H
 obtain ⟨⟨t192, t193, t194, t195, t196⟩, A30, H⟩ := H
 replace H : (if t196 = true then ((scan_normal.f t192 t193 t194).bind fun bt198 => (some (bt198.1, bt198.2.1, bt198.2.2, t195))) else (some (false, (⟨#[]⟩ : ByteArray), 0, 0))) = some (r1, r2, r3, r4) := H
 have A3 := Aside0.mk A30
 clear A30
 by_cases c4 : t196 = true
 ·subst c4
  have H1 : ((scan_normal.f t192 t193 t194).bind fun bt198 => (some (bt198.1, bt198.2.1, bt198.2.2, t195))) = some (r1, r2, r3, r4) := by rw [if_pos rfl] at H; exact H
  clear H
  have H := H1
  clear H1
  replace H := Option.bind_eq_some_iff.mp H
  obtain ⟨⟨t198, t199, t200⟩, A50, H⟩ := H
  replace H : (some (t198, t199, t200, t195)) = some (r1, r2, r3, r4) := H
  have A5 := Aside0.mk A50
  clear A50
  simp only [Option.some.injEq, Prod.mk.injEq] at H
  obtain ⟨rfl, rfl, rfl, rfl⟩ := H
  go_enter Tryz.func71, Tryz.ntmps71
  go_wp2_with (first | ((with_reducible refine gate_dst (N := 2) rfl ?_); refine box_event ?hg (N := 2) ?hd (cs := #[.bool false, .string (⟨#[]⟩ : ByteArray), .int .i64 0]) (t := 93) ?hr ?_; (case hd => rfl); (case hg => rfl); (case hr => first | (go_simp; done) | (go_simp; rfl)); intro gb190 hg w6 hbox hb; have n0_ := Aside0.mk (below_step (by repeat (first | exact HB.out | apply below_alloc | apply pw_below_drewN | apply below_drew1)) hb); have n1_ := Aside0.mk (hbox); have n2_ := Aside0.mk ((by rw [hg]; exact (below_size (by repeat (first | exact HB.out | apply below_alloc | apply pw_below_drewN | apply below_drew1))) : w.heap.size ≤ gb190)); have n3_ := Aside0.mk ((by rw [hg]; exact (below_size (by repeat (first | exact HB.out | apply below_alloc | apply pw_below_drewN | apply below_drew1))) : w.heap.size ≤ gb190)); clear HB; have HB := n0_; have BK190 := n1_; have GW190 := n2_; have GE190 := n3_; clear n0_ n1_ n2_ n3_; clear hb hbox hg) | ((with_reducible refine gate_callee (f := 72) rfl ?_); refine goesL_ (some 10) rfl rfl Tryz.func72 (by kernel_rfl) rfl #[.string a0, .int .i64 0] rfl (by (try simp only [List.map_toArray, List.map_cons, List.map_nil]); first | done | rfl | (simp only [List.length_drop, List.length_take]; rfl)) ?_; (with_reducible refine (scan_blanks.calls k a0 0 t191 _ A2.out).mono ?_); rintro e w' ⟨rfl, ⟨nd, rfl⟩⟩; refine ⟨_, rfl, ?_⟩; (try (rw [drewN_self w6]; generalize hq_ : World.drewN w6 _ = w6; have n0_ : Aside0 (w6.heap[gb190]? = some (.cells #[.bool false, .string (⟨#[]⟩ : ByteArray), .int .i64 0] 93 (0, 0))) := ⟨by rw [← hq_]; exact (by (with_reducible repeat (first | refine blk_drewN ?_ _ | refine blk_drew ?_ | refine blk_alloc ?_ _)); exact BK190.out)⟩; have n1_ : Aside0 (Below w.heap.size w w6) := ⟨by rw [← hq_]; exact (by repeat (first | (with_reducible first | exact HB.out | apply below_alloc | apply pw_below_drewN | apply below_drew1 | refine below_set ?_ GE190.out) | exact HB.out))⟩; clear BK190 HB hq_; have BK190 := n0_; have HB := n1_; clear n0_ n1_))) | ((with_reducible refine gate_callee (f := 93) rfl ?_); refine goesL_ (some 11) rfl rfl Tryz.func93 (by kernel_rfl) rfl #[.string a0, .int .i64 t191] rfl (by (try simp only [List.map_toArray, List.map_cons, List.map_nil]); first | done | rfl | (simp only [List.length_drop, List.length_take]; rfl)) ?_; (with_reducible refine (scan_literal.calls k a0 t191 t192 t193 t194 t195 true _ A3.out).mono ?_); rintro e w7 ⟨rfl, hb⟩; refine ⟨_, rfl, ?_⟩; have n0_ := Aside0.mk (blk_below (g := gb190) (o := .cells #[.bool false, .string (⟨#[]⟩ : ByteArray), .int .i64 0] 93 (0, 0)) (by (with_reducible repeat (first | refine blk_drewN ?_ _ | refine blk_drew ?_ | refine blk_alloc ?_ _)); exact BK190.out) hb); have n1_ := Aside0.mk (below_step (by repeat (first | (with_reducible first | exact HB.out | apply below_alloc | apply pw_below_drewN | apply below_drew1 | refine below_set ?_ GE190.out) | exact HB.out)) hb); clear BK190; clear HB; have BK190 := n0_; have HB := n1_; clear n0_ n1_; (try clear hb); (try clear hb2); (try clear hk); (try clear hi)) | ((with_reducible refine gate_dst (N := 4) rfl ?_); refine box_event ?hg (N := 4) ?hd (cs := #[.bool false, .string (⟨#[]⟩ : ByteArray), .int .i64 0]) (t := 93) ?hr ?_; (case hd => rfl); (case hg => rfl); (case hr => first | (go_simp; done) | (go_simp; rfl)); intro gb197 hg w8 hbox hb; have n0_ := Aside0.mk (blk_below (g := gb190) (o := .cells #[.bool false, .string (⟨#[]⟩ : ByteArray), .int .i64 0] 93 (0, 0)) (by (with_reducible repeat (first | refine blk_drewN ?_ _ | refine blk_drew ?_ | refine blk_alloc ?_ _)); exact BK190.out) hb); have n1_ := Aside0.mk (below_step (by repeat (first | (with_reducible first | exact HB.out | apply below_alloc | apply pw_below_drewN | apply below_drew1 | refine below_set ?_ GE190.out) | exact HB.out)) hb); have n2_ := Aside0.mk (hbox); have n3_ := Aside0.mk ((by rw [hg]; exact (below_size (by repeat (first | (with_reducible first | exact HB.out | apply below_alloc | apply pw_below_drewN | apply below_drew1 | refine below_set ?_ GE190.out) | exact HB.out))) : w.heap.size ≤ gb197)); have n4_ := Aside0.mk ((by rw [hg]; exact (below_size (by repeat (first | (with_reducible first | exact HB.out | apply below_alloc | apply pw_below_drewN | apply below_drew1 | refine below_set ?_ GE190.out) | exact HB.out))) : w.heap.size ≤ gb197)); have n5_ := Aside0.mk ((by rw [hg]; exact Nat.ne_of_lt (blk_lt (g := gb190) (o := .cells #[.bool false, .string (⟨#[]⟩ : ByteArray), .int .i64 0] 93 (0, 0)) (by (with_reducible repeat (first | refine blk_drewN ?_ _ | refine blk_drew ?_ | refine blk_alloc ?_ _)); exact BK190.out)) : gb190 ≠ gb197)); have n6_ := Aside0.mk ((by rw [hg]; exact Nat.ne_of_gt (blk_lt (g := gb190) (o := .cells #[.bool false, .string (⟨#[]⟩ : ByteArray), .int .i64 0] 93 (0, 0)) (by (with_reducible repeat (first | refine blk_drewN ?_ _ | refine blk_drew ?_ | refine blk_alloc ?_ _)); exact BK190.out)) : gb197 ≠ gb190)); clear BK190; clear HB; have BK190 := n0_; have HB := n1_; have BK197 := n2_; have GW197 := n3_; have GE197 := n4_; have NB190_197 := n5_; have NB197_190 := n6_; clear n0_ n1_ n2_ n3_ n4_ n5_ n6_; clear hb hbox hg; have hnb9 := NB197_190.out; have hnc9 := NB190_197.out; have hcz10_0 : w8.cell? ⟨gb197, 0, none⟩ = some (.bool false) := (blk_cell BK197.out 0).trans rfl; have hcz10_1 : w8.cell? ⟨gb197, 1, none⟩ = some (.string (⟨#[]⟩ : ByteArray)) := (blk_cell BK197.out 1).trans rfl; have hcz10_2 : w8.cell? ⟨gb197, 2, none⟩ = some (.int .i64 0) := (blk_cell BK197.out 2).trans rfl; have hfz10_0 := blk_frozen BK197.out 0; have hfz10_1 := blk_frozen BK197.out 1; have hfz10_2 := blk_frozen BK197.out 2) | ((with_reducible refine gate_callee (f := 94) rfl ?_); refine goesL_ (some 19) rfl rfl Tryz.func94 (by kernel_rfl) rfl #[.agg #[.bool t192, .string t193, .int .i64 t194]] rfl (by (try simp only [List.map_toArray, List.map_cons, List.map_nil]); first | done | rfl | (simp only [List.length_drop, List.length_take]; rfl)) ?_; (with_reducible refine (scan_normal.calls t192 t193 t194 t198 t199 t200 _ A5.out).mono ?_); rintro e w11 ⟨rfl, hb⟩; refine ⟨_, rfl, ?_⟩; have n0_ := Aside0.mk (blk_below (g := gb190) (o := .cells #[.bool false, .string (⟨#[]⟩ : ByteArray), .int .i64 0] 93 (0, 0)) (by (with_reducible repeat (first | refine blk_drewN ?_ _ | refine blk_drew ?_ | refine blk_alloc ?_ _)); refine blk_far ?_ NB190_197.out _; (with_reducible repeat (first | refine blk_drewN ?_ _ | refine blk_drew ?_ | refine blk_alloc ?_ _)); refine blk_far ?_ NB190_197.out _; (with_reducible repeat (first | refine blk_drewN ?_ _ | refine blk_drew ?_ | refine blk_alloc ?_ _)); refine blk_far ?_ NB190_197.out _; (with_reducible repeat (first | refine blk_drewN ?_ _ | refine blk_drew ?_ | refine blk_alloc ?_ _)); exact BK190.out) hb); have n1_ := Aside0.mk (blk_below (g := gb197) (o := .cells #[.bool t192, .string t193, .int .i64 t194] 93 (0, 0)) (by (with_reducible repeat (first | refine blk_drewN ?_ _ | refine blk_drew ?_ | refine blk_alloc ?_ _)); refine blk_put (cs := #[.bool t192, .string t193, .int .i64 0]) ?_ 2 _ rfl; (with_reducible repeat (first | refine blk_drewN ?_ _ | refine blk_drew ?_ | refine blk_alloc ?_ _)); refine blk_put (cs := #[.bool t192, .string (⟨#[]⟩ : ByteArray), .int .i64 0]) ?_ 1 _ rfl; (with_reducible repeat (first | refine blk_drewN ?_ _ | refine blk_drew ?_ | refine blk_alloc ?_ _)); refine blk_put (cs := #[.bool false, .string (⟨#[]⟩ : ByteArray), .int .i64 0]) ?_ 0 _ rfl; (with_reducible repeat (first | refine blk_drewN ?_ _ | refine blk_drew ?_ | refine blk_alloc ?_ _)); exact BK197.out) hb); have n2_ := Aside0.mk (below_step (by repeat (first | (with_reducible first | exact HB.out | apply below_alloc | apply pw_below_drewN | apply below_drew1 | refine below_set ?_ GE190.out | refine below_set ?_ GE197.out) | exact HB.out)) hb); clear BK190; clear BK197; clear HB; have BK190 := n0_; have BK197 := n1_; have HB := n2_; clear n0_ n1_ n2_; (try clear hb); (try clear hb2); (try clear hk); (try clear hi); have hcz12_0 : w11.cell? ⟨gb190, 0, none⟩ = some (.bool false) := (blk_cell BK190.out 0).trans rfl; have hcz12_1 : w11.cell? ⟨gb190, 1, none⟩ = some (.string (⟨#[]⟩ : ByteArray)) := (blk_cell BK190.out 1).trans rfl; have hcz12_2 : w11.cell? ⟨gb190, 2, none⟩ = some (.int .i64 0) := (blk_cell BK190.out 2).trans rfl; have hfz12_0 := blk_frozen BK190.out 0; have hfz12_1 := blk_frozen BK190.out 1; have hfz12_2 := blk_frozen BK190.out 2))
  refine bodyPost_ret (results_ct rfl _ _ gb190 93 #[.bool t198, .string t199, .int .i64 t200] (0, 0) _ rfl (by (with_reducible repeat (first | refine blk_drewN ?_ _ | refine blk_drew ?_ | refine blk_alloc ?_ _)); refine blk_put (cs := #[.bool t198, .string t199, .int .i64 0]) ?_ 2 _ rfl; (with_reducible repeat (first | refine blk_drewN ?_ _ | refine blk_drew ?_ | refine blk_alloc ?_ _)); refine blk_put (cs := #[.bool t198, .string (⟨#[]⟩ : ByteArray), .int .i64 0]) ?_ 1 _ rfl; (with_reducible repeat (first | refine blk_drewN ?_ _ | refine blk_drew ?_ | refine blk_alloc ?_ _)); refine blk_put (cs := #[.bool false, .string (⟨#[]⟩ : ByteArray), .int .i64 0]) ?_ 0 _ rfl; (with_reducible repeat (first | refine blk_drewN ?_ _ | refine blk_drew ?_ | refine blk_alloc ?_ _)); exact BK190.out) Tryz.underlying93 rfl (by kernel_rfl)) rfl ?_
  exact ⟨by first | rfl | (simp [errW_none, errW_some] <;> rfl) | (simp [*, errW_none, errW_some] <;> rfl), by repeat (first | (with_reducible first | exact HB.out | apply below_alloc | apply pw_below_drewN | apply below_drew1 | refine below_set ?_ GE190.out | refine below_set ?_ GE197.out) | exact HB.out)⟩
 ·replace c4 := Bool.eq_false_iff.mpr c4
  subst c4
  have H1 : (some (false, (⟨#[]⟩ : ByteArray), 0, 0)) = some (r1, r2, r3, r4) := by rw [if_neg (show ¬ (false = true) by decide)] at H; exact H
  clear H
  have H := H1
  clear H1
  simp only [Option.some.injEq, Prod.mk.injEq] at H
  obtain ⟨rfl, rfl, rfl, rfl⟩ := H
  go_enter Tryz.func71, Tryz.ntmps71
  go_wp2_with (first | ((with_reducible refine gate_dst (N := 2) rfl ?_); refine box_event ?hg (N := 2) ?hd (cs := #[.bool false, .string (⟨#[]⟩ : ByteArray), .int .i64 0]) (t := 93) ?hr ?_; (case hd => rfl); (case hg => rfl); (case hr => first | (go_simp; done) | (go_simp; rfl)); intro gb190 hg w13 hbox hb; have n0_ := Aside0.mk (below_step (by repeat (first | exact HB.out | apply below_alloc | apply pw_below_drewN | apply below_drew1)) hb); have n1_ := Aside0.mk (hbox); have n2_ := Aside0.mk ((by rw [hg]; exact (below_size (by repeat (first | exact HB.out | apply below_alloc | apply pw_below_drewN | apply below_drew1))) : w.heap.size ≤ gb190)); have n3_ := Aside0.mk ((by rw [hg]; exact (below_size (by repeat (first | exact HB.out | apply below_alloc | apply pw_below_drewN | apply below_drew1))) : w.heap.size ≤ gb190)); clear HB; have HB := n0_; have BK190 := n1_; have GW190 := n2_; have GE190 := n3_; clear n0_ n1_ n2_ n3_; clear hb hbox hg) | ((with_reducible refine gate_callee (f := 72) rfl ?_); refine goesL_ (some 10) rfl rfl Tryz.func72 (by kernel_rfl) rfl #[.string a0, .int .i64 0] rfl (by (try simp only [List.map_toArray, List.map_cons, List.map_nil]); first | done | rfl | (simp only [List.length_drop, List.length_take]; rfl)) ?_; (with_reducible refine (scan_blanks.calls k a0 0 t191 _ A2.out).mono ?_); rintro e w' ⟨rfl, ⟨nd, rfl⟩⟩; refine ⟨_, rfl, ?_⟩; (try (rw [drewN_self w13]; generalize hq_ : World.drewN w13 _ = w13; have n0_ : Aside0 (w13.heap[gb190]? = some (.cells #[.bool false, .string (⟨#[]⟩ : ByteArray), .int .i64 0] 93 (0, 0))) := ⟨by rw [← hq_]; exact (by (with_reducible repeat (first | refine blk_drewN ?_ _ | refine blk_drew ?_ | refine blk_alloc ?_ _)); exact BK190.out)⟩; have n1_ : Aside0 (Below w.heap.size w w13) := ⟨by rw [← hq_]; exact (by repeat (first | (with_reducible first | exact HB.out | apply below_alloc | apply pw_below_drewN | apply below_drew1 | refine below_set ?_ GE190.out) | exact HB.out))⟩; clear BK190 HB hq_; have BK190 := n0_; have HB := n1_; clear n0_ n1_))) | ((with_reducible refine gate_callee (f := 93) rfl ?_); refine goesL_ (some 11) rfl rfl Tryz.func93 (by kernel_rfl) rfl #[.string a0, .int .i64 t191] rfl (by (try simp only [List.map_toArray, List.map_cons, List.map_nil]); first | done | rfl | (simp only [List.length_drop, List.length_take]; rfl)) ?_; (with_reducible refine (scan_literal.calls k a0 t191 t192 t193 t194 t195 false _ A3.out).mono ?_); rintro e w14 ⟨rfl, hb⟩; refine ⟨_, rfl, ?_⟩; have n0_ := Aside0.mk (blk_below (g := gb190) (o := .cells #[.bool false, .string (⟨#[]⟩ : ByteArray), .int .i64 0] 93 (0, 0)) (by (with_reducible repeat (first | refine blk_drewN ?_ _ | refine blk_drew ?_ | refine blk_alloc ?_ _)); exact BK190.out) hb); have n1_ := Aside0.mk (below_step (by repeat (first | (with_reducible first | exact HB.out | apply below_alloc | apply pw_below_drewN | apply below_drew1 | refine below_set ?_ GE190.out) | exact HB.out)) hb); clear BK190; clear HB; have BK190 := n0_; have HB := n1_; clear n0_ n1_; (try clear hb); (try clear hb2); (try clear hk); (try clear hi)) | ((with_reducible refine gate_dst (N := 4) rfl ?_); refine box_event ?hg (N := 4) ?hd (cs := #[.bool false, .string (⟨#[]⟩ : ByteArray), .int .i64 0]) (t := 93) ?hr ?_; (case hd => rfl); (case hg => rfl); (case hr => first | (go_simp; done) | (go_simp; rfl)); intro gb197 hg w15 hbox hb; have n0_ := Aside0.mk (blk_below (g := gb190) (o := .cells #[.bool false, .string (⟨#[]⟩ : ByteArray), .int .i64 0] 93 (0, 0)) (by (with_reducible repeat (first | refine blk_drewN ?_ _ | refine blk_drew ?_ | refine blk_alloc ?_ _)); exact BK190.out) hb); have n1_ := Aside0.mk (below_step (by repeat (first | (with_reducible first | exact HB.out | apply below_alloc | apply pw_below_drewN | apply below_drew1 | refine below_set ?_ GE190.out) | exact HB.out)) hb); have n2_ := Aside0.mk (hbox); have n3_ := Aside0.mk ((by rw [hg]; exact (below_size (by repeat (first | (with_reducible first | exact HB.out | apply below_alloc | apply pw_below_drewN | apply below_drew1 | refine below_set ?_ GE190.out) | exact HB.out))) : w.heap.size ≤ gb197)); have n4_ := Aside0.mk ((by rw [hg]; exact (below_size (by repeat (first | (with_reducible first | exact HB.out | apply below_alloc | apply pw_below_drewN | apply below_drew1 | refine below_set ?_ GE190.out) | exact HB.out))) : w.heap.size ≤ gb197)); have n5_ := Aside0.mk ((by rw [hg]; exact Nat.ne_of_lt (blk_lt (g := gb190) (o := .cells #[.bool false, .string (⟨#[]⟩ : ByteArray), .int .i64 0] 93 (0, 0)) (by (with_reducible repeat (first | refine blk_drewN ?_ _ | refine blk_drew ?_ | refine blk_alloc ?_ _)); exact BK190.out)) : gb190 ≠ gb197)); have n6_ := Aside0.mk ((by rw [hg]; exact Nat.ne_of_gt (blk_lt (g := gb190) (o := .cells #[.bool false, .string (⟨#[]⟩ : ByteArray), .int .i64 0] 93 (0, 0)) (by (with_reducible repeat (first | refine blk_drewN ?_ _ | refine blk_drew ?_ | refine blk_alloc ?_ _)); exact BK190.out)) : gb197 ≠ gb190)); clear BK190; clear HB; have BK190 := n0_; have HB := n1_; have BK197 := n2_; have GW197 := n3_; have GE197 := n4_; have NB190_197 := n5_; have NB197_190 := n6_; clear n0_ n1_ n2_ n3_ n4_ n5_ n6_; clear hb hbox hg; have hnb16 := NB197_190.out; have hnc16 := NB190_197.out; have hcz17_0 : w15.cell? ⟨gb197, 0, none⟩ = some (.bool false) := (blk_cell BK197.out 0).trans rfl; have hcz17_1 : w15.cell? ⟨gb197, 1, none⟩ = some (.string (⟨#[]⟩ : ByteArray)) := (blk_cell BK197.out 1).trans rfl; have hcz17_2 : w15.cell? ⟨gb197, 2, none⟩ = some (.int .i64 0) := (blk_cell BK197.out 2).trans rfl; have hfz17_0 := blk_frozen BK197.out 0; have hfz17_1 := blk_frozen BK197.out 1; have hfz17_2 := blk_frozen BK197.out 2; have hcz18_0 : w15.cell? ⟨gb190, 0, none⟩ = some (.bool false) := (blk_cell BK190.out 0).trans rfl; have hcz18_1 : w15.cell? ⟨gb190, 1, none⟩ = some (.string (⟨#[]⟩ : ByteArray)) := (blk_cell BK190.out 1).trans rfl; have hcz18_2 : w15.cell? ⟨gb190, 2, none⟩ = some (.int .i64 0) := (blk_cell BK190.out 2).trans rfl; have hfz18_0 := blk_frozen BK190.out 0; have hfz18_1 := blk_frozen BK190.out 1; have hfz18_2 := blk_frozen BK190.out 2))
  refine bodyPost_ret (results_ct rfl _ _ gb190 93 #[.bool false, .string (⟨#[]⟩ : ByteArray), .int .i64 0] (0, 0) _ rfl (by (with_reducible repeat (first | refine blk_drewN ?_ _ | refine blk_drew ?_ | refine blk_alloc ?_ _)); refine blk_put (cs := #[.bool false, .string (⟨#[]⟩ : ByteArray), .int .i64 0]) ?_ 2 _ rfl; (with_reducible repeat (first | refine blk_drewN ?_ _ | refine blk_drew ?_ | refine blk_alloc ?_ _)); refine blk_put (cs := #[.bool false, .string (⟨#[]⟩ : ByteArray), .int .i64 0]) ?_ 1 _ rfl; (with_reducible repeat (first | refine blk_drewN ?_ _ | refine blk_drew ?_ | refine blk_alloc ?_ _)); refine blk_put (cs := #[.bool false, .string (⟨#[]⟩ : ByteArray), .int .i64 0]) ?_ 0 _ rfl; (with_reducible repeat (first | refine blk_drewN ?_ _ | refine blk_drew ?_ | refine blk_alloc ?_ _)); refine blk_far ?_ NB190_197.out _; (with_reducible repeat (first | refine blk_drewN ?_ _ | refine blk_drew ?_ | refine blk_alloc ?_ _)); refine blk_far ?_ NB190_197.out _; (with_reducible repeat (first | refine blk_drewN ?_ _ | refine blk_drew ?_ | refine blk_alloc ?_ _)); refine blk_far ?_ NB190_197.out _; (with_reducible repeat (first | refine blk_drewN ?_ _ | refine blk_drew ?_ | refine blk_alloc ?_ _)); exact BK190.out) Tryz.underlying93 rfl (by kernel_rfl)) rfl ?_
  exact ⟨by first | rfl | (simp [errW_none, errW_some] <;> rfl) | (simp [*, errW_none, errW_some] <;> rfl), by repeat (first | (with_reducible first | exact HB.out | apply below_alloc | apply pw_below_drewN | apply below_drew1 | refine below_set ?_ GE190.out | refine below_set ?_ GE197.out) | exact HB.out)⟩
def scan_Whole.f (k : Nat) (a0 : ByteArray) : Option (Bool × ByteArray × Int × Bool) := (scan_Number.f k a0).bind fun bt202 => (if bt202.2.2.2 = 0 then (some (false, (⟨#[]⟩ : ByteArray), 0, false)) else ((scan_blanks.f k a0 bt202.2.2.2).bind fun t207 => (if t207 = (a0.size : Int) then (some (bt202.1, bt202.2.1, bt202.2.2.1, true)) else (some (false, (⟨#[]⟩ : ByteArray), 0, false)))))
theorem scan_Whole.mono : ∀ a0 k, LeO (scan_Whole.f k a0) (scan_Whole.f (k + 1) a0) := by
 intro a0 k
 unfold scan_Whole.f
 repeat' first
   | (with_reducible exact scan_Number.mono _ _)
   | (with_reducible exact scan_blanks.mono _ _ _)
   | (with_reducible exact LeO.refl _)
   | (with_reducible exact LeO.none _)
   | (with_reducible refine LeO.ite ?_ ?_)
   | (with_reducible refine LeO.bind ?_ (fun _ => ?_))
   | exact scan_Number.mono _ _
   | exact scan_blanks.mono _ _ _
   | exact LeO.none _
   | refine LeO.ite ?_ ?_
   | refine LeO.bind ?_ (fun _ => ?_)
set_option maxHeartbeats 8000000 in
set_option maxRecDepth 100000 in
theorem scan_Whole.calls (k : Nat) (a0 : ByteArray) (r1 : Bool) (r2 : ByteArray) (r3 : Int) (r4 : Bool) (w : World) (h : scan_Whole.f k a0 = some (r1, r2, r3, r4)) :
  Calls Tryz.prog 57 #[.string a0] w fun e w' => e = .returned (.tuple #[.agg #[.bool r1, .string r2, .int .i64 r3], .bool r4]) ∧ Below w.heap.size w w' := by
 have hu93 := Tryz.underlying93
 have HB := Aside0.mk (Below.refl w.heap.size w)
 have H : ((scan_Number.f k a0).bind fun bt202 => (if bt202.2.2.2 = 0 then (some (false, (⟨#[]⟩ : ByteArray), 0, false)) else ((scan_blanks.f k a0 bt202.2.2.2).bind fun t207 => (if t207 = (a0.size : Int) then (some (bt202.1, bt202.2.1, bt202.2.2.1, true)) else (some (false, (⟨#[]⟩ : ByteArray), 0, false)))))) = some (r1, r2, r3, r4) := h
 clear h
 replace H := Option.bind_eq_some_iff.mp H
 obtain ⟨⟨t202, t203, t204, t205⟩, A20, H⟩ := H
 replace H : (if t205 = 0 then (some (false, (⟨#[]⟩ : ByteArray), 0, false)) else ((scan_blanks.f k a0 t205).bind fun t207 => (if t207 = (a0.size : Int) then (some (t202, t203, t204, true)) else (some (false, (⟨#[]⟩ : ByteArray), 0, false))))) = some (r1, r2, r3, r4) := H
 have A2 := Aside0.mk A20
 clear A20
 by_cases c3 : t205 = 0
 ·rw [if_pos c3] at H
  have c3b0 : (t205 == 0) = true := beq_iff_eq.mpr c3
  have c3b1 : (t205 != 0) = false := bne_eq_false_iff_eq.mpr c3
  clear c3
  simp only [Option.some.injEq, Prod.mk.injEq] at H
  obtain ⟨rfl, rfl, rfl, rfl⟩ := H
  go_enter Tryz.func57, Tryz.ntmps57
  go_wp2_with (first | ((with_reducible refine gate_dst (N := 2) rfl ?_); (try (refine gate_guard (by rfl) ?_; dsimp only)); refine box_event ?hg (N := 2) ?hd (cs := #[.bool false, .string (⟨#[]⟩ : ByteArray), .int .i64 0]) (t := 93) ?hr ?_; (case hd => rfl); (case hg => rfl); (case hr => first | (go_simp; done) | (go_simp; rfl)); intro gb201 hg w4 hbox hb; have n0_ := Aside0.mk (below_step (by repeat (first | exact HB.out | apply below_alloc | apply pw_below_drewN | apply below_drew1)) hb); have n1_ := Aside0.mk (hbox); have n2_ := Aside0.mk ((by rw [hg]; exact (below_size (by repeat (first | exact HB.out | apply below_alloc | apply pw_below_drewN | apply below_drew1))) : w.heap.size ≤ gb201)); have n3_ := Aside0.mk ((by rw [hg]; exact (below_size (by repeat (first | exact HB.out | apply below_alloc | apply pw_below_drewN | apply below_drew1))) : w.heap.size ≤ gb201)); clear HB; have HB := n0_; have BK201 := n1_; have GW201 := n2_; have GE201 := n3_; clear n0_ n1_ n2_ n3_; clear hb hbox hg) | ((with_reducible refine gate_callee (f := 71) rfl ?_); refine goesL_ (some 8) rfl rfl Tryz.func71 (by kernel_rfl) rfl #[.string a0] rfl (by (try simp only [List.map_toArray, List.map_cons, List.map_nil]); first | done | rfl | (simp only [List.length_drop, List.length_take]; rfl)) ?_; (with_reducible refine (scan_Number.calls k a0 t202 t203 t204 t205 _ A2.out).mono ?_); rintro e w5 ⟨rfl, hb⟩; refine ⟨_, rfl, ?_⟩; have n0_ := Aside0.mk (blk_below (g := gb201) (o := .cells #[.bool false, .string (⟨#[]⟩ : ByteArray), .int .i64 0] 93 (0, 0)) (by (with_reducible repeat (first | refine blk_drewN ?_ _ | refine blk_drew ?_ | refine blk_alloc ?_ _)); exact BK201.out) hb); have n1_ := Aside0.mk (below_step (by repeat (first | (with_reducible first | exact HB.out | apply below_alloc | apply pw_below_drewN | apply below_drew1 | refine below_set ?_ GE201.out) | exact HB.out)) hb); clear BK201; clear HB; have BK201 := n0_; have HB := n1_; clear n0_ n1_; (try clear hb); (try clear hb2); (try clear hk); (try clear hi)) | ((with_reducible refine gate_dst (N := 4) rfl ?_); (try (refine gate_guard (by rfl) ?_; dsimp only)); refine box_event ?hg (N := 4) ?hd (cs := #[.bool false, .string (⟨#[]⟩ : ByteArray), .int .i64 0]) (t := 93) ?hr ?_; (case hd => rfl); (case hg => rfl); (case hr => first | (go_simp; done) | (go_simp; rfl)); intro gb206 hg w6 hbox hb; have n0_ := Aside0.mk (blk_below (g := gb201) (o := .cells #[.bool false, .string (⟨#[]⟩ : ByteArray), .int .i64 0] 93 (0, 0)) (by (with_reducible repeat (first | refine blk_drewN ?_ _ | refine blk_drew ?_ | refine blk_alloc ?_ _)); exact BK201.out) hb); have n1_ := Aside0.mk (below_step (by repeat (first | (with_reducible first | exact HB.out | apply below_alloc | apply pw_below_drewN | apply below_drew1 | refine below_set ?_ GE201.out) | exact HB.out)) hb); have n2_ := Aside0.mk (hbox); have n3_ := Aside0.mk ((by rw [hg]; exact (below_size (by repeat (first | (with_reducible first | exact HB.out | apply below_alloc | apply pw_below_drewN | apply below_drew1 | refine below_set ?_ GE201.out) | exact HB.out))) : w.heap.size ≤ gb206)); have n4_ := Aside0.mk ((by rw [hg]; exact (below_size (by repeat (first | (with_reducible first | exact HB.out | apply below_alloc | apply pw_below_drewN | apply below_drew1 | refine below_set ?_ GE201.out) | exact HB.out))) : w.heap.size ≤ gb206)); have n5_ := Aside0.mk ((by rw [hg]; exact Nat.ne_of_lt (blk_lt (g := gb201) (o := .cells #[.bool false, .string (⟨#[]⟩ : ByteArray), .int .i64 0] 93 (0, 0)) (by (with_reducible repeat (first | refine blk_drewN ?_ _ | refine blk_drew ?_ | refine blk_alloc ?_ _)); exact BK201.out)) : gb201 ≠ gb206)); have n6_ := Aside0.mk ((by rw [hg]; exact Nat.ne_of_gt (blk_lt (g := gb201) (o := .cells #[.bool false, .string (⟨#[]⟩ : ByteArray), .int .i64 0] 93 (0, 0)) (by (with_reducible repeat (first | refine blk_drewN ?_ _ | refine blk_drew ?_ | refine blk_alloc ?_ _)); exact BK201.out)) : gb206 ≠ gb201)); clear BK201; clear HB; have BK201 := n0_; have HB := n1_; have BK206 := n2_; have GW206 := n3_; have GE206 := n4_; have NB201_206 := n5_; have NB206_201 := n6_; clear n0_ n1_ n2_ n3_ n4_ n5_ n6_; clear hb hbox hg; have hnb7 := NB206_201.out; have hnc7 := NB201_206.out; have hcz8_0 : w6.cell? ⟨gb206, 0, none⟩ = some (.bool false) := (blk_cell BK206.out 0).trans rfl; have hcz8_1 : w6.cell? ⟨gb206, 1, none⟩ = some (.string (⟨#[]⟩ : ByteArray)) := (blk_cell BK206.out 1).trans rfl; have hcz8_2 : w6.cell? ⟨gb206, 2, none⟩ = some (.int .i64 0) := (blk_cell BK206.out 2).trans rfl; have hfz8_0 := blk_frozen BK206.out 0; have hfz8_1 := blk_frozen BK206.out 1; have hfz8_2 := blk_frozen BK206.out 2; have hcz9_0 : w6.cell? ⟨gb201, 0, none⟩ = some (.bool false) := (blk_cell BK201.out 0).trans rfl; have hcz9_1 : w6.cell? ⟨gb201, 1, none⟩ = some (.string (⟨#[]⟩ : ByteArray)) := (blk_cell BK201.out 1).trans rfl; have hcz9_2 : w6.cell? ⟨gb201, 2, none⟩ = some (.int .i64 0) := (blk_cell BK201.out 2).trans rfl; have hfz9_0 := blk_frozen BK201.out 0; have hfz9_1 := blk_frozen BK201.out 1; have hfz9_2 := blk_frozen BK201.out 2))
  refine bodyPost_ret (results_ct rfl _ _ gb201 93 #[.bool false, .string (⟨#[]⟩ : ByteArray), .int .i64 0] (0, 0) _ rfl (by (with_reducible repeat (first | refine blk_drewN ?_ _ | refine blk_drew ?_ | refine blk_alloc ?_ _)); refine blk_put (cs := #[.bool false, .string (⟨#[]⟩ : ByteArray), .int .i64 0]) ?_ 2 _ rfl; (with_reducible repeat (first | refine blk_drewN ?_ _ | refine blk_drew ?_ | refine blk_alloc ?_ _)); refine blk_put (cs := #[.bool false, .string (⟨#[]⟩ : ByteArray), .int .i64 0]) ?_ 1 _ rfl; (with_reducible repeat (first | refine blk_drewN ?_ _ | refine blk_drew ?_ | refine blk_alloc ?_ _)); refine blk_put (cs := #[.bool false, .string (⟨#[]⟩ : ByteArray), .int .i64 0]) ?_ 0 _ rfl; (with_reducible repeat (first | refine blk_drewN ?_ _ | refine blk_drew ?_ | refine blk_alloc ?_ _)); refine blk_far ?_ NB201_206.out _; (with_reducible repeat (first | refine blk_drewN ?_ _ | refine blk_drew ?_ | refine blk_alloc ?_ _)); refine blk_far ?_ NB201_206.out _; (with_reducible repeat (first | refine blk_drewN ?_ _ | refine blk_drew ?_ | refine blk_alloc ?_ _)); refine blk_far ?_ NB201_206.out _; (with_reducible repeat (first | refine blk_drewN ?_ _ | refine blk_drew ?_ | refine blk_alloc ?_ _)); exact BK201.out) Tryz.underlying93 rfl (by kernel_rfl)) rfl ?_
  exact ⟨by first | rfl | (simp [errW_none, errW_some] <;> rfl) | (simp [*, errW_none, errW_some] <;> rfl), by repeat (first | (with_reducible first | exact HB.out | apply below_alloc | apply pw_below_drewN | apply below_drew1 | refine below_set ?_ GE201.out | refine below_set ?_ GE206.out) | exact HB.out)⟩
 ·rw [if_neg c3] at H
  have c3b0 : (t205 == 0) = false := beq_eq_false_iff_ne.mpr c3
  have c3b1 : (t205 != 0) = true := bne_iff_ne.mpr c3
  replace H := Option.bind_eq_some_iff.mp H
  obtain ⟨t207, A100, H⟩ := H
  replace H : (if t207 = (a0.size : Int) then (some (t202, t203, t204, true)) else (some (false, (⟨#[]⟩ : ByteArray), 0, false))) = some (r1, r2, r3, r4) := H
  have A10 := Aside0.mk A100
  clear A100
  by_cases c11 : t207 = (a0.size : Int)
  ·rw [if_pos c11] at H
   have c11b0 : (t207 == (a0.size : Int)) = true := beq_iff_eq.mpr c11
   have c11b1 : (t207 != (a0.size : Int)) = false := bne_eq_false_iff_eq.mpr c11
   clear c11
   simp only [Option.some.injEq, Prod.mk.injEq] at H
   obtain ⟨rfl, rfl, rfl, rfl⟩ := H
   go_enter Tryz.func57, Tryz.ntmps57
   go_wp2_with (first | ((with_reducible refine gate_dst (N := 2) rfl ?_); (try (refine gate_guard (by rfl) ?_; dsimp only)); refine box_event ?hg (N := 2) ?hd (cs := #[.bool false, .string (⟨#[]⟩ : ByteArray), .int .i64 0]) (t := 93) ?hr ?_; (case hd => rfl); (case hg => rfl); (case hr => first | (go_simp; done) | (go_simp; rfl)); intro gb201 hg w12 hbox hb; have n0_ := Aside0.mk (below_step (by repeat (first | exact HB.out | apply below_alloc | apply pw_below_drewN | apply below_drew1)) hb); have n1_ := Aside0.mk (hbox); have n2_ := Aside0.mk ((by rw [hg]; exact (below_size (by repeat (first | exact HB.out | apply below_alloc | apply pw_below_drewN | apply below_drew1))) : w.heap.size ≤ gb201)); have n3_ := Aside0.mk ((by rw [hg]; exact (below_size (by repeat (first | exact HB.out | apply below_alloc | apply pw_below_drewN | apply below_drew1))) : w.heap.size ≤ gb201)); clear HB; have HB := n0_; have BK201 := n1_; have GW201 := n2_; have GE201 := n3_; clear n0_ n1_ n2_ n3_; clear hb hbox hg) | ((with_reducible refine gate_callee (f := 71) rfl ?_); refine goesL_ (some 8) rfl rfl Tryz.func71 (by kernel_rfl) rfl #[.string a0] rfl (by (try simp only [List.map_toArray, List.map_cons, List.map_nil]); first | done | rfl | (simp only [List.length_drop, List.length_take]; rfl)) ?_; (with_reducible refine (scan_Number.calls k a0 t202 t203 t204 t205 _ A2.out).mono ?_); rintro e w13 ⟨rfl, hb⟩; refine ⟨_, rfl, ?_⟩; have n0_ := Aside0.mk (blk_below (g := gb201) (o := .cells #[.bool false, .string (⟨#[]⟩ : ByteArray), .int .i64 0] 93 (0, 0)) (by (with_reducible repeat (first | refine blk_drewN ?_ _ | refine blk_drew ?_ | refine blk_alloc ?_ _)); exact BK201.out) hb); have n1_ := Aside0.mk (below_step (by repeat (first | (with_reducible first | exact HB.out | apply below_alloc | apply pw_below_drewN | apply below_drew1 | refine below_set ?_ GE201.out) | exact HB.out)) hb); clear BK201; clear HB; have BK201 := n0_; have HB := n1_; clear n0_ n1_; (try clear hb); (try clear hb2); (try clear hk); (try clear hi)) | ((with_reducible refine gate_dst (N := 4) rfl ?_); (try (refine gate_guard (by rfl) ?_; dsimp only)); refine box_event ?hg (N := 4) ?hd (cs := #[.bool false, .string (⟨#[]⟩ : ByteArray), .int .i64 0]) (t := 93) ?hr ?_; (case hd => rfl); (case hg => rfl); (case hr => first | (go_simp; done) | (go_simp; rfl)); intro gb206 hg w14 hbox hb; have n0_ := Aside0.mk (blk_below (g := gb201) (o := .cells #[.bool false, .string (⟨#[]⟩ : ByteArray), .int .i64 0] 93 (0, 0)) (by (with_reducible repeat (first | refine blk_drewN ?_ _ | refine blk_drew ?_ | refine blk_alloc ?_ _)); exact BK201.out) hb); have n1_ := Aside0.mk (below_step (by repeat (first | (with_reducible first | exact HB.out | apply below_alloc | apply pw_below_drewN | apply below_drew1 | refine below_set ?_ GE201.out) | exact HB.out)) hb); have n2_ := Aside0.mk (hbox); have n3_ := Aside0.mk ((by rw [hg]; exact (below_size (by repeat (first | (with_reducible first | exact HB.out | apply below_alloc | apply pw_below_drewN | apply below_drew1 | refine below_set ?_ GE201.out) | exact HB.out))) : w.heap.size ≤ gb206)); have n4_ := Aside0.mk ((by rw [hg]; exact (below_size (by repeat (first | (with_reducible first | exact HB.out | apply below_alloc | apply pw_below_drewN | apply below_drew1 | refine below_set ?_ GE201.out) | exact HB.out))) : w.heap.size ≤ gb206)); have n5_ := Aside0.mk ((by rw [hg]; exact Nat.ne_of_lt (blk_lt (g := gb201) (o := .cells #[.bool false, .string (⟨#[]⟩ : ByteArray), .int .i64 0] 93 (0, 0)) (by (with_reducible repeat (first | refine blk_drewN ?_ _ | refine blk_drew ?_ | refine blk_alloc ?_ _)); exact BK201.out)) : gb201 ≠ gb206)); have n6_ := Aside0.mk ((by rw [hg]; exact Nat.ne_of_gt (blk_lt (g := gb201) (o := .cells #[.bool false, .string (⟨#[]⟩ : ByteArray), .int .i64 0] 93 (0, 0)) (by (with_reducible repeat (first | refine blk_drewN ?_ _ | refine blk_drew ?_ | refine blk_alloc ?_ _)); exact BK201.out)) : gb206 ≠ gb201)); clear BK201; clear HB; have BK201 := n0_; have HB := n1_; have BK206 := n2_; have GW206 := n3_; have GE206 := n4_; have NB201_206 := n5_; have NB206_201 := n6_; clear n0_ n1_ n2_ n3_ n4_ n5_ n6_; clear hb hbox hg; have hnb15 := NB206_201.out; have hnc15 := NB201_206.out; have hcz16_0 : w14.cell? ⟨gb206, 0, none⟩ = some (.bool false) := (blk_cell BK206.out 0).trans rfl; have hcz16_1 : w14.cell? ⟨gb206, 1, none⟩ = some (.string (⟨#[]⟩ : ByteArray)) := (blk_cell BK206.out 1).trans rfl; have hcz16_2 : w14.cell? ⟨gb206, 2, none⟩ = some (.int .i64 0) := (blk_cell BK206.out 2).trans rfl; have hfz16_0 := blk_frozen BK206.out 0; have hfz16_1 := blk_frozen BK206.out 1; have hfz16_2 := blk_frozen BK206.out 2) | (go_at_call 72; (with_reducible refine (scan_blanks.calls k a0 t205 t207 _ A10.out).mono ?_); rintro e w' ⟨rfl, ⟨nd, rfl⟩⟩; have hcz17_0 : w14.cell? ⟨gb201, 0, none⟩ = some (.bool false) := (blk_cell BK201.out 0).trans rfl; have hcz17_1 : w14.cell? ⟨gb201, 1, none⟩ = some (.string (⟨#[]⟩ : ByteArray)) := (blk_cell BK201.out 1).trans rfl; have hcz17_2 : w14.cell? ⟨gb201, 2, none⟩ = some (.int .i64 0) := (blk_cell BK201.out 2).trans rfl; have hfz17_0 := blk_frozen BK201.out 0; have hfz17_1 := blk_frozen BK201.out 1; have hfz17_2 := blk_frozen BK201.out 2))
   refine bodyPost_ret (results_ct rfl _ _ gb201 93 #[.bool t202, .string t203, .int .i64 t204] (0, 0) _ rfl (by (with_reducible repeat (first | refine blk_drewN ?_ _ | refine blk_drew ?_ | refine blk_alloc ?_ _)); refine blk_put (cs := #[.bool t202, .string t203, .int .i64 0]) ?_ 2 _ rfl; (with_reducible repeat (first | refine blk_drewN ?_ _ | refine blk_drew ?_ | refine blk_alloc ?_ _)); refine blk_put (cs := #[.bool t202, .string (⟨#[]⟩ : ByteArray), .int .i64 0]) ?_ 1 _ rfl; (with_reducible repeat (first | refine blk_drewN ?_ _ | refine blk_drew ?_ | refine blk_alloc ?_ _)); refine blk_put (cs := #[.bool false, .string (⟨#[]⟩ : ByteArray), .int .i64 0]) ?_ 0 _ rfl; (with_reducible repeat (first | refine blk_drewN ?_ _ | refine blk_drew ?_ | refine blk_alloc ?_ _)); refine blk_far ?_ NB201_206.out _; (with_reducible repeat (first | refine blk_drewN ?_ _ | refine blk_drew ?_ | refine blk_alloc ?_ _)); refine blk_far ?_ NB201_206.out _; (with_reducible repeat (first | refine blk_drewN ?_ _ | refine blk_drew ?_ | refine blk_alloc ?_ _)); refine blk_far ?_ NB201_206.out _; (with_reducible repeat (first | refine blk_drewN ?_ _ | refine blk_drew ?_ | refine blk_alloc ?_ _)); exact BK201.out) Tryz.underlying93 rfl (by kernel_rfl)) rfl ?_
   exact ⟨by first | rfl | (simp [errW_none, errW_some] <;> rfl) | (simp [*, errW_none, errW_some] <;> rfl), by repeat (first | (with_reducible first | exact HB.out | apply below_alloc | apply pw_below_drewN | apply below_drew1 | refine below_set ?_ GE201.out | refine below_set ?_ GE206.out) | exact HB.out)⟩
  ·rw [if_neg c11] at H
   have c11b0 : (t207 == (a0.size : Int)) = false := beq_eq_false_iff_ne.mpr c11
   have c11b1 : (t207 != (a0.size : Int)) = true := bne_iff_ne.mpr c11
   simp only [Option.some.injEq, Prod.mk.injEq] at H
   obtain ⟨rfl, rfl, rfl, rfl⟩ := H
   go_enter Tryz.func57, Tryz.ntmps57
   go_wp2_with (first | ((with_reducible refine gate_dst (N := 2) rfl ?_); (try (refine gate_guard (by rfl) ?_; dsimp only)); refine box_event ?hg (N := 2) ?hd (cs := #[.bool false, .string (⟨#[]⟩ : ByteArray), .int .i64 0]) (t := 93) ?hr ?_; (case hd => rfl); (case hg => rfl); (case hr => first | (go_simp; done) | (go_simp; rfl)); intro gb201 hg w18 hbox hb; have n0_ := Aside0.mk (below_step (by repeat (first | exact HB.out | apply below_alloc | apply pw_below_drewN | apply below_drew1)) hb); have n1_ := Aside0.mk (hbox); have n2_ := Aside0.mk ((by rw [hg]; exact (below_size (by repeat (first | exact HB.out | apply below_alloc | apply pw_below_drewN | apply below_drew1))) : w.heap.size ≤ gb201)); have n3_ := Aside0.mk ((by rw [hg]; exact (below_size (by repeat (first | exact HB.out | apply below_alloc | apply pw_below_drewN | apply below_drew1))) : w.heap.size ≤ gb201)); clear HB; have HB := n0_; have BK201 := n1_; have GW201 := n2_; have GE201 := n3_; clear n0_ n1_ n2_ n3_; clear hb hbox hg) | ((with_reducible refine gate_callee (f := 71) rfl ?_); refine goesL_ (some 8) rfl rfl Tryz.func71 (by kernel_rfl) rfl #[.string a0] rfl (by (try simp only [List.map_toArray, List.map_cons, List.map_nil]); first | done | rfl | (simp only [List.length_drop, List.length_take]; rfl)) ?_; (with_reducible refine (scan_Number.calls k a0 t202 t203 t204 t205 _ A2.out).mono ?_); rintro e w19 ⟨rfl, hb⟩; refine ⟨_, rfl, ?_⟩; have n0_ := Aside0.mk (blk_below (g := gb201) (o := .cells #[.bool false, .string (⟨#[]⟩ : ByteArray), .int .i64 0] 93 (0, 0)) (by (with_reducible repeat (first | refine blk_drewN ?_ _ | refine blk_drew ?_ | refine blk_alloc ?_ _)); exact BK201.out) hb); have n1_ := Aside0.mk (below_step (by repeat (first | (with_reducible first | exact HB.out | apply below_alloc | apply pw_below_drewN | apply below_drew1 | refine below_set ?_ GE201.out) | exact HB.out)) hb); clear BK201; clear HB; have BK201 := n0_; have HB := n1_; clear n0_ n1_; (try clear hb); (try clear hb2); (try clear hk); (try clear hi)) | ((with_reducible refine gate_dst (N := 4) rfl ?_); (try (refine gate_guard (by rfl) ?_; dsimp only)); refine box_event ?hg (N := 4) ?hd (cs := #[.bool false, .string (⟨#[]⟩ : ByteArray), .int .i64 0]) (t := 93) ?hr ?_; (case hd => rfl); (case hg => rfl); (case hr => first | (go_simp; done) | (go_simp; rfl)); intro gb206 hg w20 hbox hb; have n0_ := Aside0.mk (blk_below (g := gb201) (o := .cells #[.bool false, .string (⟨#[]⟩ : ByteArray), .int .i64 0] 93 (0, 0)) (by (with_reducible repeat (first | refine blk_drewN ?_ _ | refine blk_drew ?_ | refine blk_alloc ?_ _)); exact BK201.out) hb); have n1_ := Aside0.mk (below_step (by repeat (first | (with_reducible first | exact HB.out | apply below_alloc | apply pw_below_drewN | apply below_drew1 | refine below_set ?_ GE201.out) | exact HB.out)) hb); have n2_ := Aside0.mk (hbox); have n3_ := Aside0.mk ((by rw [hg]; exact (below_size (by repeat (first | (with_reducible first | exact HB.out | apply below_alloc | apply pw_below_drewN | apply below_drew1 | refine below_set ?_ GE201.out) | exact HB.out))) : w.heap.size ≤ gb206)); have n4_ := Aside0.mk ((by rw [hg]; exact (below_size (by repeat (first | (with_reducible first | exact HB.out | apply below_alloc | apply pw_below_drewN | apply below_drew1 | refine below_set ?_ GE201.out) | exact HB.out))) : w.heap.size ≤ gb206)); have n5_ := Aside0.mk ((by rw [hg]; exact Nat.ne_of_lt (blk_lt (g := gb201) (o := .cells #[.bool false, .string (⟨#[]⟩ : ByteArray), .int .i64 0] 93 (0, 0)) (by (with_reducible repeat (first | refine blk_drewN ?_ _ | refine blk_drew ?_ | refine blk_alloc ?_ _)); exact BK201.out)) : gb201 ≠ gb206)); have n6_ := Aside0.mk ((by rw [hg]; exact Nat.ne_of_gt (blk_lt (g := gb201) (o := .cells #[.bool false, .string (⟨#[]⟩ : ByteArray), .int .i64 0] 93 (0, 0)) (by (with_reducible repeat (first | refine blk_drewN ?_ _ | refine blk_drew ?_ | refine blk_alloc ?_ _)); exact BK201.out)) : gb206 ≠ gb201)); clear BK201; clear HB; have BK201 := n0_; have HB := n1_; have BK206 := n2_; have GW206 := n3_; have GE206 := n4_; have NB201_206 := n5_; have NB206_201 := n6_; clear n0_ n1_ n2_ n3_ n4_ n5_ n6_; clear hb hbox hg; have hnb21 := NB206_201.out; have hnc21 := NB201_206.out; have hcz22_0 : w20.cell? ⟨gb206, 0, none⟩ = some (.bool false) := (blk_cell BK206.out 0).trans rfl; have hcz22_1 : w20.cell? ⟨gb206, 1, none⟩ = some (.string (⟨#[]⟩ : ByteArray)) := (blk_cell BK206.out 1).trans rfl; have hcz22_2 : w20.cell? ⟨gb206, 2, none⟩ = some (.int .i64 0) := (blk_cell BK206.out 2).trans rfl; have hfz22_0 := blk_frozen BK206.out 0; have hfz22_1 := blk_frozen BK206.out 1; have hfz22_2 := blk_frozen BK206.out 2) | (go_at_call 72; (with_reducible refine (scan_blanks.calls k a0 t205 t207 _ A10.out).mono ?_); rintro e w' ⟨rfl, ⟨nd, rfl⟩⟩; have hcz23_0 : w20.cell? ⟨gb201, 0, none⟩ = some (.bool false) := (blk_cell BK201.out 0).trans rfl; have hcz23_1 : w20.cell? ⟨gb201, 1, none⟩ = some (.string (⟨#[]⟩ : ByteArray)) := (blk_cell BK201.out 1).trans rfl; have hcz23_2 : w20.cell? ⟨gb201, 2, none⟩ = some (.int .i64 0) := (blk_cell BK201.out 2).trans rfl; have hfz23_0 := blk_frozen BK201.out 0; have hfz23_1 := blk_frozen BK201.out 1; have hfz23_2 := blk_frozen BK201.out 2))
   refine bodyPost_ret (results_ct rfl _ _ gb201 93 #[.bool false, .string (⟨#[]⟩ : ByteArray), .int .i64 0] (0, 0) _ rfl (by (with_reducible repeat (first | refine blk_drewN ?_ _ | refine blk_drew ?_ | refine blk_alloc ?_ _)); refine blk_put (cs := #[.bool false, .string (⟨#[]⟩ : ByteArray), .int .i64 0]) ?_ 2 _ rfl; (with_reducible repeat (first | refine blk_drewN ?_ _ | refine blk_drew ?_ | refine blk_alloc ?_ _)); refine blk_put (cs := #[.bool false, .string (⟨#[]⟩ : ByteArray), .int .i64 0]) ?_ 1 _ rfl; (with_reducible repeat (first | refine blk_drewN ?_ _ | refine blk_drew ?_ | refine blk_alloc ?_ _)); refine blk_put (cs := #[.bool false, .string (⟨#[]⟩ : ByteArray), .int .i64 0]) ?_ 0 _ rfl; (with_reducible repeat (first | refine blk_drewN ?_ _ | refine blk_drew ?_ | refine blk_alloc ?_ _)); refine blk_far ?_ NB201_206.out _; (with_reducible repeat (first | refine blk_drewN ?_ _ | refine blk_drew ?_ | refine blk_alloc ?_ _)); refine blk_far ?_ NB201_206.out _; (with_reducible repeat (first | refine blk_drewN ?_ _ | refine blk_drew ?_ | refine blk_alloc ?_ _)); refine blk_far ?_ NB201_206.out _; (with_reducible repeat (first | refine blk_drewN ?_ _ | refine blk_drew ?_ | refine blk_alloc ?_ _)); exact BK201.out) Tryz.underlying93 rfl (by kernel_rfl)) rfl ?_
   exact ⟨by first | rfl | (simp [errW_none, errW_some] <;> rfl) | (simp [*, errW_none, errW_some] <;> rfl), by repeat (first | (with_reducible first | exact HB.out | apply below_alloc | apply pw_below_drewN | apply below_drew1 | refine below_set ?_ GE201.out | refine below_set ?_ GE206.out) | exact HB.out)⟩
end Go.Proofs.YtahdkpoihpcfnaaGreatDoor.PB
end

section
set_option linter.unusedVariables false
set_option linter.unusedSimpArgs false
namespace Go.Proofs.YtahdkpoihpcfnaaGreatDoor.Stub
open Go Go.RowKit Go.Shelf Go.Proofs.YtahdkpoihpcfnaaGreatDoorW.PrintWords Go.Proofs.YtahdkpoihpcfnaaGreatDoorW.PrintLast Go.Proofs.YtahdkpoihpcfnaaGreatDoorW.PrintMore Go.Proofs.YtahdkpoihpcfnaaGreatDoor.PA Go.Proofs.YtahdkpoihpcfnaaGreatDoor.PB
attribute [local go_sem] cell_isSome_setCell
set_option maxRecDepth 100000 in
theorem nearest_calls (k : Nat) (b : Bool) (s : ByteArray) (e : Int) (r : Int) (ok : Bool) (w : World) (hT : Tabs w) (h : quick_Try.f k b s e = some (r, ok)) :
    Calls Tryz.prog 205 #[.agg #[], .agg #[.bool b, .string s, .int .i64 e]] w fun e' w' => e' = .returned (.tuple #[.int .u64 r, .bool ok]) ∧ Below w.heap.size w w' := by
  go_enter Tryz.func205, Tryz.ntmps205
  have hB0 : Below w.heap.size w ((w.alloc (.cells #[] 113)).alloc (.cells #[.bool b, .string s, .int .i64 e] 93)) := ((Below.refl _ _).alloc (Nat.le_refl _) _).alloc (by simp) _
  go_wp2_with (go_at_call 206; refine (quick_Try.calls k b s e r ok _ (Tabs.below hT hB0) h).mono ?_; rintro e' w1 ⟨rfl, hb⟩)
  go_ret2
  exact ⟨rfl, hB0.trans (hb.mono (by simp; omega))⟩
theorem meth_near (v : Value) (w : World) : (method 404 113 v "abacus/strtod.nearest").run Tryz.prog w = .ok (205, v) w := by kernel_rfl
def roadsV (n : Nat) : Value := .slice (some ⟨n, 0, none⟩) 2 2
set_option maxRecDepth 100000 in
theorem along_calls (k : Nat) (b : Bool) (s : ByteArray) (e : Int) (n1 : Bool) (n2 : ByteArray) (n3 ne r : Int) (w : World) (B : Nat) (hT : Tabs w)
    (hn : scan_Norm.f k b s e = some (n1, n2, n3, ne)) (h0 : (ne != 0) = false) (h : quick_Try.f k n1 n2 n3 = some (r, true))
    (hBw : B < w.heap.size) (hc0 : w.cell? ⟨B, 0, none⟩ = some (.iface 113 (.agg #[]))) :
    Calls Tryz.prog 73 #[.agg #[.bool b, .string s, .int .i64 e], roadsV B] w fun e' w' => e' = .returned (.tuple #[.int .u64 r, .int .i64 0]) ∧ Below w.heap.size w w' := by
  have hm := meth_near
  unfold roadsV
  go_enter Tryz.func73, Tryz.ntmps73
  have hB0 : Below w.heap.size w (w.alloc (.cells #[.bool b, .string s, .int .i64 e] 93)) := (Below.refl _ _).alloc (Nat.le_refl _) _
  go_wp2_with (go_at_call 96; refine (scan_Norm.calls k b s e n1 n2 n3 ne _ hn).mono ?_; rintro e' w1 ⟨rfl, hb⟩; have hB1 := hB0.trans (hb.mono (by simp)); have hc1 := (hB1.cell (p := ⟨B, 0, none⟩) hBw).trans hc0; have hz1 : w.heap.size < w1.heap.size := by have := hb.size; simp at this; omega)
  have hB2 : Below w.heap.size w (w1.alloc (.cells #[.bool n1, .string n2, .int .i64 n3] 93)) := hB1.alloc (by omega) _
  have hBw1 : B < w1.heap.size := by omega
  have hc2 : (w1.alloc (.cells #[.bool n1, .string n2, .int .i64 n3] 93)).cell? ⟨B, 0, none⟩ = some (.iface 113 (.agg #[])) := (hB2.cell (p := ⟨B, 0, none⟩) hBw).trans hc0
  refine wp_loop_once ?_
  go_wp2_with (go_at_call 205; refine (nearest_calls k n1 n2 n3 r true _ (Tabs.below hT hB2) h).mono ?_; rintro e' w2 ⟨rfl, hb2⟩)
  go_ret2
  exact ⟨rfl, hB2.trans (hb2.mono (by simp; omega))⟩
def strtod_Double.f (k : Nat) (b : Bool) (s : ByteArray) (e : Int) : Option (Int × Int) :=
  (scan_Norm.f k b s e).bind fun n => if (n.2.2.2 != 0) = true then none else (quick_Try.f k n.1 n.2.1 n.2.2.1).bind fun r => if r.2 = true then some (r.1, 0) else none
theorem strtod_Double.mono (b : Bool) (s : ByteArray) (e : Int) (k : Nat) : LeO (strtod_Double.f k b s e) (strtod_Double.f (k + 1) b s e) := by
  unfold strtod_Double.f
  refine LeO.bind (scan_Norm.mono _ _ _ _) (fun n => ?_)
  refine LeO.ite (LeO.refl _) (LeO.bind (quick_Try.mono _ _ _ _) (fun r => LeO.refl _))
set_option maxRecDepth 100000 in
theorem strtod_Double.calls (k : Nat) (b : Bool) (s : ByteArray) (e r1 r2 : Int) (w : World) (hT : Tabs w) (h : strtod_Double.f k b s e = some (r1, r2)) :
    Calls Tryz.prog 58 #[.agg #[.bool b, .string s, .int .i64 e]] w fun e' w' => e' = .returned (.tuple #[.int .u64 r1, .int .i64 r2]) ∧ Below w.heap.size w w' := by
  unfold strtod_Double.f at h
  obtain ⟨⟨n1, n2, n3, ne⟩, hn, h⟩ := Option.bind_eq_some_iff.1 h
  simp only at h
  split at h
  · cases h
  · rename_i h0
    obtain ⟨⟨r, ok⟩, hr, h⟩ := Option.bind_eq_some_iff.1 h
    simp only at h
    split at h
    · rename_i hok
      subst hok
      cases h
      go_enter Tryz.func58, Tryz.ntmps58
      have hB0 : Below w.heap.size w ((w.alloc (.cells #[.bool b, .string s, .int .i64 e] 93)).alloc (.cells #[.iface 113 (.agg #[]), .iface 114 (.agg #[])] 159)) := ((Below.refl _ _).alloc (Nat.le_refl _) _).alloc (by simp) _
      have h0' : (ne != 0) = false := by
        cases hh : (ne != 0) with
        | false => rfl
        | true => exact absurd hh h0
      have hcell : ((w.alloc (.cells #[.bool b, .string s, .int .i64 e] 93)).alloc (.cells #[.iface 113 (.agg #[]), .iface 114 (.agg #[])] 159)).cell? ⟨w.heap.size + 1, 0, none⟩ = some (.iface 113 (.agg #[])) := by
        have h1 := heap_alloc_last (w.alloc (.cells #[.bool b, .string s, .int .i64 e] 93)) (.cells #[.iface 113 (.agg #[]), .iface 114 (.agg #[])] 159)
        rw [World.size_alloc] at h1
        simp only [World.cell?, h1]
        rfl
      have key := along_calls k b s e n1 n2 n3 ne r1 _ (w.heap.size + 1) (Tabs.below hT hB0) hn h0' hr (by rw [World.size_alloc, World.size_alloc]; omega) hcell
      clear hn hr h0 h0' hcell
      go_wp2_with (go_at_call 73; refine key.mono ?_; rintro e' w1 ⟨rfl, hb⟩)
      go_ret2
      exact ⟨rfl, hB0.trans (hb.mono (by simp; omega))⟩
    · cases h
end Go.Proofs.YtahdkpoihpcfnaaGreatDoor.Stub
end

section
namespace Go.Proofs.YtahdkpoihpcfnaaGreatDoor.PC
open Go.Proofs.YtahdkpoihpcfnaaGreatDoor.Stub Go.Proofs.YtahdkpoihpcfnaaGreatDoor.PA Go.Proofs.YtahdkpoihpcfnaaGreatDoor.PB
open Go.RowKit Go.Proofs.YtahdkpoihpcfnaaGreatDoorW.PrintWords Go.Proofs.YtahdkpoihpcfnaaGreatDoorW.PrintLast Go.Proofs.YtahdkpoihpcfnaaGreatDoorW.PrintMore
attribute [local go_sem] cell_isSome_setCell max2_int min2_int max_two min_two max_three min_three max_four min_four   -- for this text's walks alone
set_option linter.unusedVariables false
set_option linter.unusedSimpArgs false
def errW : Option Int → Value
 | none => .nilIface
 | some c => .iface 0 (.int .i64 c)
theorem errW_none : errW none = .nilIface := rfl
theorem errW_some (c : Int) : errW (some c) = .iface 0 (.int .i64 c) := rfl
end Go.Proofs.YtahdkpoihpcfnaaGreatDoor.PC
end

section
namespace Go.Proofs.YtahdkpoihpcfnaaGreatDoor.PC
open Go.Proofs.YtahdkpoihpcfnaaGreatDoor.Stub Go.Proofs.YtahdkpoihpcfnaaGreatDoor.PA Go.Proofs.YtahdkpoihpcfnaaGreatDoor.PB
open Go.RowKit Go.Proofs.YtahdkpoihpcfnaaGreatDoorW.PrintWords Go.Proofs.YtahdkpoihpcfnaaGreatDoorW.PrintLast Go.Proofs.YtahdkpoihpcfnaaGreatDoorW.PrintMore
attribute [local go_sem] cell_isSome_setCell max2_int min2_int max_two min_two max_three min_three max_four min_four   -- for this text's walks alone
set_option linter.unusedVariables false
set_option linter.unusedSimpArgs false
def strtod_Whole.f (k : Nat) (a0 : ByteArray) : Option (Int × Bool) := (scan_Whole.f k a0).bind fun bt101 => (if bt101.2.2.2 = true then ((strtod_Double.f k bt101.1 bt101.2.1 bt101.2.2.1).bind fun bt106 => (some (bt106.1, true))) else (some (0, false)))
theorem strtod_Whole.mono : ∀ a0 k, LeO (strtod_Whole.f k a0) (strtod_Whole.f (k + 1) a0) := by
 intro a0 k
 unfold strtod_Whole.f
 repeat' first
   | (with_reducible exact scan_Whole.mono _ _)
   | (with_reducible exact strtod_Double.mono _ _ _ _)
   | (with_reducible exact LeO.refl _)
   | (with_reducible exact LeO.none _)
   | (with_reducible refine LeO.ite ?_ ?_)
   | (with_reducible refine LeO.bind ?_ (fun _ => ?_))
   | exact scan_Whole.mono _ _
   | exact strtod_Double.mono _ _ _ _
   | exact LeO.none _
   | refine LeO.ite ?_ ?_
   | refine LeO.bind ?_ (fun _ => ?_)
set_option maxHeartbeats 8000000 in
set_option maxRecDepth 100000 in
theorem strtod_Whole.calls (k : Nat) (a0 : ByteArray) (r1 : Int) (r2 : Bool) (w : World) (hT : Tabs w) (h : strtod_Whole.f k a0 = some (r1, r2)) :
  Calls Tryz.prog 47 #[.string a0] w fun e w' => e = .returned (.tuple #[.int .u64 r1, .bool r2]) ∧ Below w.heap.size w w' := by
 have hu93 := Tryz.underlying93
 have HB := Aside0.mk (Below.refl w.heap.size w)
 have H : ((scan_Whole.f k a0).bind fun bt101 => (if bt101.2.2.2 = true then ((strtod_Double.f k bt101.1 bt101.2.1 bt101.2.2.1).bind fun bt106 => (some (bt106.1, true))) else (some (0, false)))) = some (r1, r2) := h
 clear h
 replace H := Option.bind_eq_some_iff.mp H
 obtain ⟨⟨t101, t102, t103, t104⟩, A20, H⟩ := H
 replace H : (if t104 = true then ((strtod_Double.f k t101 t102 t103).bind fun bt106 => (some (bt106.1, true))) else (some (0, false))) = some (r1, r2) := H
 have A2 := Aside0.mk A20
 clear A20
 by_cases c3 : t104 = true
 ·subst c3
  have H1 : ((strtod_Double.f k t101 t102 t103).bind fun bt106 => (some (bt106.1, true))) = some (r1, r2) := by rw [if_pos rfl] at H; exact H
  clear H
  have H := H1
  clear H1
  replace H := Option.bind_eq_some_iff.mp H
  obtain ⟨⟨t106, t107⟩, A40, H⟩ := H
  replace H : (some (t106, true)) = some (r1, r2) := H
  have A4 := Aside0.mk A40
  clear A40
  simp only [Option.some.injEq, Prod.mk.injEq] at H
  obtain ⟨rfl, rfl⟩ := H
  go_enter Tryz.func47, Tryz.ntmps47
  go_wp2_with (first | ((with_reducible refine gate_callee (f := 57) rfl ?_); refine goesL_ (some 10) rfl rfl Tryz.func57 (by kernel_rfl) rfl #[.string a0] rfl (by (try simp only [List.map_toArray, List.map_cons, List.map_nil]); first | done | rfl | (simp only [List.length_drop, List.length_take]; rfl)) ?_; (with_reducible refine (scan_Whole.calls k a0 t101 t102 t103 true _ A2.out).mono ?_); rintro e w5 ⟨rfl, hb⟩; refine ⟨_, rfl, ?_⟩; have n0_ := Aside0.mk (below_step (by repeat (first | exact HB.out | apply below_alloc | apply pw_below_drewN | apply below_drew1)) hb); clear HB; have HB := n0_; clear n0_; (try clear hb); (try clear hb2); (try clear hk); (try clear hi)) | ((with_reducible refine gate_dst (N := 4) rfl ?_); refine box_event ?hg (N := 4) ?hd (cs := #[.bool false, .string (⟨#[]⟩ : ByteArray), .int .i64 0]) (t := 93) ?hr ?_; (case hd => rfl); (case hg => rfl); (case hr => first | (go_simp; done) | (go_simp; rfl)); intro gb105 hg w6 hbox hb; have n0_ := Aside0.mk (below_step (by repeat (first | exact HB.out | apply below_alloc | apply pw_below_drewN | apply below_drew1)) hb); have n1_ := Aside0.mk (hbox); have n2_ := Aside0.mk ((by rw [hg]; exact (below_size (by repeat (first | exact HB.out | apply below_alloc | apply pw_below_drewN | apply below_drew1))) : w.heap.size ≤ gb105)); have n3_ := Aside0.mk ((by rw [hg]; exact (below_size (by repeat (first | exact HB.out | apply below_alloc | apply pw_below_drewN | apply below_drew1))) : w.heap.size ≤ gb105)); clear HB; have HB := n0_; have BK105 := n1_; have GW105 := n2_; have GE105 := n3_; clear n0_ n1_ n2_ n3_; clear hb hbox hg; have hcz7_0 : w6.cell? ⟨gb105, 0, none⟩ = some (.bool false) := (blk_cell BK105.out 0).trans rfl; have hcz7_1 : w6.cell? ⟨gb105, 1, none⟩ = some (.string (⟨#[]⟩ : ByteArray)) := (blk_cell BK105.out 1).trans rfl; have hcz7_2 : w6.cell? ⟨gb105, 2, none⟩ = some (.int .i64 0) := (blk_cell BK105.out 2).trans rfl; have hfz7_0 := blk_frozen BK105.out 0; have hfz7_1 := blk_frozen BK105.out 1; have hfz7_2 := blk_frozen BK105.out 2) | ((with_reducible refine gate_callee (f := 58) rfl ?_); refine goesL_ (some 17) rfl rfl Tryz.func58 (by kernel_rfl) rfl #[.agg #[.bool t101, .string t102, .int .i64 t103]] rfl (by (try simp only [List.map_toArray, List.map_cons, List.map_nil]); first | done | rfl | (simp only [List.length_drop, List.length_take]; rfl)) ?_; (with_reducible refine (strtod_Double.calls k t101 t102 t103 t106 t107 _ ?side1 A4.out).mono ?_); (case side1 => first | exact hT | exact Tabs.below hT (by repeat (first | (with_reducible first | exact HB.out | apply below_alloc | apply pw_below_drewN | apply below_drew1 | refine below_set ?_ GE105.out) | exact HB.out)) | (repeat (first | exact hT | apply Tabs.drewN | apply Tabs.drew))); rintro e w8 ⟨rfl, hb⟩; refine ⟨_, rfl, ?_⟩; have n0_ := Aside0.mk (blk_below (g := gb105) (o := .cells #[.bool t101, .string t102, .int .i64 t103] 93 (0, 0)) (by (with_reducible repeat (first | refine blk_drewN ?_ _ | refine blk_drew ?_ | refine blk_alloc ?_ _)); refine blk_put (cs := #[.bool t101, .string t102, .int .i64 0]) ?_ 2 _ rfl; (with_reducible repeat (first | refine blk_drewN ?_ _ | refine blk_drew ?_ | refine blk_alloc ?_ _)); refine blk_put (cs := #[.bool t101, .string (⟨#[]⟩ : ByteArray), .int .i64 0]) ?_ 1 _ rfl; (with_reducible repeat (first | refine blk_drewN ?_ _ | refine blk_drew ?_ | refine blk_alloc ?_ _)); refine blk_put (cs := #[.bool false, .string (⟨#[]⟩ : ByteArray), .int .i64 0]) ?_ 0 _ rfl; (with_reducible repeat (first | refine blk_drewN ?_ _ | refine blk_drew ?_ | refine blk_alloc ?_ _)); exact BK105.out) hb); have n1_ := Aside0.mk (below_step (by repeat (first | (with_reducible first | exact HB.out | apply below_alloc | apply pw_below_drewN | apply below_drew1 | refine below_set ?_ GE105.out) | exact HB.out)) hb); clear BK105; clear HB; have BK105 := n0_; have HB := n1_; clear n0_ n1_; (try clear hb); (try clear hb2); (try clear hk); (try clear hi)))
  go_ret2
  exact ⟨by first | rfl | (simp [errW_none, errW_some] <;> rfl) | (simp [*, errW_none, errW_some] <;> rfl), by repeat (first | (with_reducible first | exact HB.out | apply below_alloc | apply pw_below_drewN | apply below_drew1 | refine below_set ?_ GE105.out) | exact HB.out)⟩
 ·replace c3 := Bool.eq_false_iff.mpr c3
  subst c3
  have H1 : (some (0, false)) = some (r1, r2) := by rw [if_neg (show ¬ (false = true) by decide)] at H; exact H
  clear H
  have H := H1
  clear H1
  simp only [Option.some.injEq, Prod.mk.injEq] at H
  obtain ⟨rfl, rfl⟩ := H
  go_enter Tryz.func47, Tryz.ntmps47
  go_wp2_with (first | ((with_reducible refine gate_callee (f := 57) rfl ?_); refine goesL_ (some 10) rfl rfl Tryz.func57 (by kernel_rfl) rfl #[.string a0] rfl (by (try simp only [List.map_toArray, List.map_cons, List.map_nil]); first | done | rfl | (simp only [List.length_drop, List.length_take]; rfl)) ?_; (with_reducible refine (scan_Whole.calls k a0 t101 t102 t103 false _ A2.out).mono ?_); rintro e w9 ⟨rfl, hb⟩; refine ⟨_, rfl, ?_⟩; have n0_ := Aside0.mk (below_step (by repeat (first | exact HB.out | apply below_alloc | apply pw_below_drewN | apply below_drew1)) hb); clear HB; have HB := n0_; clear n0_; (try clear hb); (try clear hb2); (try clear hk); (try clear hi)) | ((with_reducible refine gate_dst (N := 4) rfl ?_); refine box_event ?hg (N := 4) ?hd (cs := #[.bool false, .string (⟨#[]⟩ : ByteArray), .int .i64 0]) (t := 93) ?hr ?_; (case hd => rfl); (case hg => rfl); (case hr => first | (go_simp; done) | (go_simp; rfl)); intro gb105 hg w10 hbox hb; have n0_ := Aside0.mk (below_step (by repeat (first | exact HB.out | apply below_alloc | apply pw_below_drewN | apply below_drew1)) hb); have n1_ := Aside0.mk (hbox); have n2_ := Aside0.mk ((by rw [hg]; exact (below_size (by repeat (first | exact HB.out | apply below_alloc | apply pw_below_drewN | apply below_drew1))) : w.heap.size ≤ gb105)); have n3_ := Aside0.mk ((by rw [hg]; exact (below_size (by repeat (first | exact HB.out | apply below_alloc | apply pw_below_drewN | apply below_drew1))) : w.heap.size ≤ gb105)); clear HB; have HB := n0_; have BK105 := n1_; have GW105 := n2_; have GE105 := n3_; clear n0_ n1_ n2_ n3_; clear hb hbox hg; have hcz11_0 : w10.cell? ⟨gb105, 0, none⟩ = some (.bool false) := (blk_cell BK105.out 0).trans rfl; have hcz11_1 : w10.cell? ⟨gb105, 1, none⟩ = some (.string (⟨#[]⟩ : ByteArray)) := (blk_cell BK105.out 1).trans rfl; have hcz11_2 : w10.cell? ⟨gb105, 2, none⟩ = some (.int .i64 0) := (blk_cell BK105.out 2).trans rfl; have hfz11_0 := blk_frozen BK105.out 0; have hfz11_1 := blk_frozen BK105.out 1; have hfz11_2 := blk_frozen BK105.out 2))
  go_ret2
  exact ⟨by first | rfl | (simp [errW_none, errW_some] <;> rfl) | (simp [*, errW_none, errW_some] <;> rfl), by repeat (first | (with_reducible first | exact HB.out | apply below_alloc | apply pw_below_drewN | apply below_drew1 | refine below_set ?_ GE105.out) | exact HB.out)⟩
def value_Input.f (k : Nat) (a0 : ByteArray) : Option (Int × Int × ByteArray) := (strtod_Whole.f k a0).bind fun bt109 => (if bt109.2 = true then ((value_looks_plain.f bt109.1 a0).bind fun bt111 => (some (bt111.1, bt111.2.1, bt111.2.2))) else ((value_Str.f a0).bind fun bt114 => (some (bt114.1, bt114.2.1, bt114.2.2))))
theorem value_Input.mono : ∀ a0 k, LeO (value_Input.f k a0) (value_Input.f (k + 1) a0) := by
 intro a0 k
 unfold value_Input.f
 repeat' first
   | (with_reducible exact strtod_Whole.mono _ _)
   | (with_reducible exact LeO.refl _)
   | (with_reducible exact LeO.none _)
   | (with_reducible refine LeO.ite ?_ ?_)
   | (with_reducible refine LeO.bind ?_ (fun _ => ?_))
   | exact strtod_Whole.mono _ _
   | exact LeO.none _
   | refine LeO.ite ?_ ?_
   | refine LeO.bind ?_ (fun _ => ?_)
set_option maxHeartbeats 8000000 in
set_option maxRecDepth 100000 in
theorem value_Input.calls (k : Nat) (a0 : ByteArray) (r1 : Int) (r2 : Int) (r3 : ByteArray) (w : World) (hT : Tabs w) (h : value_Input.f k a0 = some (r1, r2, r3)) :
  Calls Tryz.prog 29 #[.string a0] w fun e w' => e = .returned (.agg #[.int .i64 r1, .int .u64 r2, .string r3]) ∧ Below w.heap.size w w' := by
 have hu32 := Tryz.underlying32
 have hu80 := Tryz.underlying80
 have HB := Aside0.mk (Below.refl w.heap.size w)
 have H : ((strtod_Whole.f k a0).bind fun bt109 => (if bt109.2 = true then ((value_looks_plain.f bt109.1 a0).bind fun bt111 => (some (bt111.1, bt111.2.1, bt111.2.2))) else ((value_Str.f a0).bind fun bt114 => (some (bt114.1, bt114.2.1, bt114.2.2))))) = some (r1, r2, r3) := h
 clear h
 replace H := Option.bind_eq_some_iff.mp H
 obtain ⟨⟨t109, t110⟩, A20, H⟩ := H
 replace H : (if t110 = true then ((value_looks_plain.f t109 a0).bind fun bt111 => (some (bt111.1, bt111.2.1, bt111.2.2))) else ((value_Str.f a0).bind fun bt114 => (some (bt114.1, bt114.2.1, bt114.2.2)))) = some (r1, r2, r3) := H
 have A2 := Aside0.mk A20
 clear A20
 by_cases c3 : t110 = true
 ·subst c3
  have H1 : ((value_looks_plain.f t109 a0).bind fun bt111 => (some (bt111.1, bt111.2.1, bt111.2.2))) = some (r1, r2, r3) := by rw [if_pos rfl] at H; exact H
  clear H
  have H := H1
  clear H1
  replace H := Option.bind_eq_some_iff.mp H
  obtain ⟨⟨t111, t112, t113⟩, A40, H⟩ := H
  replace H : (some (t111, t112, t113)) = some (r1, r2, r3) := H
  have A4 := Aside0.mk A40
  clear A40
  simp only [Option.some.injEq, Prod.mk.injEq] at H
  obtain ⟨rfl, rfl, rfl⟩ := H
  go_enter Tryz.func29, Tryz.ntmps29
  go_wp2_with (first | ((with_reducible refine gate_dst (N := 2) rfl ?_); refine box_event ?hg (N := 2) ?hd (cs := #[.int .i64 0, .int .u64 0, .string (⟨#[]⟩ : ByteArray)]) (t := 32) ?hr ?_; (case hd => rfl); (case hg => rfl); (case hr => first | (go_simp; done) | (go_simp; rfl)); intro gb108 hg w5 hbox hb; have n0_ := Aside0.mk (below_step (by repeat (first | exact HB.out | apply below_alloc | apply pw_below_drewN | apply below_drew1)) hb); have n1_ := Aside0.mk (hbox); have n2_ := Aside0.mk ((by rw [hg]; exact (below_size (by repeat (first | exact HB.out | apply below_alloc | apply pw_below_drewN | apply below_drew1))) : w.heap.size ≤ gb108)); have n3_ := Aside0.mk ((by rw [hg]; exact (below_size (by repeat (first | exact HB.out | apply below_alloc | apply pw_below_drewN | apply below_drew1))) : w.heap.size ≤ gb108)); clear HB; have HB := n0_; have BK108 := n1_; have GW108 := n2_; have GE108 := n3_; clear n0_ n1_ n2_ n3_; clear hb hbox hg) | ((with_reducible refine gate_callee (f := 47) rfl ?_); refine goesL_ (some 7) rfl rfl Tryz.func47 (by kernel_rfl) rfl #[.string a0] rfl (by (try simp only [List.map_toArray, List.map_cons, List.map_nil]); first | done | rfl | (simp only [List.length_drop, List.length_take]; rfl)) ?_; (with_reducible refine (strtod_Whole.calls k a0 t109 true _ ?side1 A2.out).mono ?_); (case side1 => first | exact hT | exact Tabs.below hT (by repeat (first | (with_reducible first | exact HB.out | apply below_alloc | apply pw_below_drewN | apply below_drew1 | refine below_set ?_ GE108.out) | exact HB.out)) | (repeat (first | exact hT | apply Tabs.drewN | apply Tabs.drew))); rintro e w6 ⟨rfl, hb⟩; refine ⟨_, rfl, ?_⟩; have n0_ := Aside0.mk (blk_below (g := gb108) (o := .cells #[.int .i64 0, .int .u64 0, .string (⟨#[]⟩ : ByteArray)] 32 (0, 0)) (by (with_reducible repeat (first | refine blk_drewN ?_ _ | refine blk_drew ?_ | refine blk_alloc ?_ _)); exact BK108.out) hb); have n1_ := Aside0.mk (below_step (by repeat (first | (with_reducible first | exact HB.out | apply below_alloc | apply pw_below_drewN | apply below_drew1 | refine below_set ?_ GE108.out) | exact HB.out)) hb); clear BK108; clear HB; have BK108 := n0_; have HB := n1_; clear n0_ n1_; (try clear hb); (try clear hb2); (try clear hk); (try clear hi)) | ((with_reducible refine gate_callee (f := 48) rfl ?_); refine goesL_ (some 14) rfl rfl Tryz.func48 (by kernel_rfl) rfl #[.agg #[.int .u64 t109, .string a0]] rfl (by (try simp only [List.map_toArray, List.map_cons, List.map_nil]); first | done | rfl | (simp only [List.length_drop, List.length_take]; rfl)) ?_; (with_reducible refine (value_looks_plain.calls t109 a0 t111 t112 t113 _ A4.out).mono ?_); rintro e w7 ⟨rfl, hb⟩; refine ⟨_, rfl, ?_⟩; have n0_ := Aside0.mk (blk_below (g := gb108) (o := .cells #[.int .i64 0, .int .u64 0, .string (⟨#[]⟩ : ByteArray)] 32 (0, 0)) (by (with_reducible repeat (first | refine blk_drewN ?_ _ | refine blk_drew ?_ | refine blk_alloc ?_ _)); exact BK108.out) hb); have n1_ := Aside0.mk (below_step (by repeat (first | (with_reducible first | exact HB.out | apply below_alloc | apply pw_below_drewN | apply below_drew1 | refine below_set ?_ GE108.out) | exact HB.out)) hb); clear BK108; clear HB; have BK108 := n0_; have HB := n1_; clear n0_ n1_; (try clear hb); (try clear hb2); (try clear hk); (try clear hi); have hcz8_0 : w7.cell? ⟨gb108, 0, none⟩ = some (.int .i64 0) := (blk_cell BK108.out 0).trans rfl; have hcz8_1 : w7.cell? ⟨gb108, 1, none⟩ = some (.int .u64 0) := (blk_cell BK108.out 1).trans rfl; have hcz8_2 : w7.cell? ⟨gb108, 2, none⟩ = some (.string (⟨#[]⟩ : ByteArray)) := (blk_cell BK108.out 2).trans rfl; have hfz8_0 := blk_frozen BK108.out 0; have hfz8_1 := blk_frozen BK108.out 1; have hfz8_2 := blk_frozen BK108.out 2))
  refine bodyPost_ret (results_cell_row rfl _ _ gb108 32 #[.int .i64 t111, .int .u64 t112, .string t113] (0, 0) _ rfl (by (with_reducible repeat (first | refine blk_drewN ?_ _ | refine blk_drew ?_ | refine blk_alloc ?_ _)); refine blk_put (cs := #[.int .i64 t111, .int .u64 t112, .string (⟨#[]⟩ : ByteArray)]) ?_ 2 _ rfl; (with_reducible repeat (first | refine blk_drewN ?_ _ | refine blk_drew ?_ | refine blk_alloc ?_ _)); refine blk_put (cs := #[.int .i64 t111, .int .u64 0, .string (⟨#[]⟩ : ByteArray)]) ?_ 1 _ rfl; (with_reducible repeat (first | refine blk_drewN ?_ _ | refine blk_drew ?_ | refine blk_alloc ?_ _)); refine blk_put (cs := #[.int .i64 0, .int .u64 0, .string (⟨#[]⟩ : ByteArray)]) ?_ 0 _ rfl; (with_reducible repeat (first | refine blk_drewN ?_ _ | refine blk_drew ?_ | refine blk_alloc ?_ _)); exact BK108.out) Tryz.underlying32 rfl (by kernel_rfl)) rfl ?_
  exact ⟨by first | rfl | (simp [errW_none, errW_some] <;> rfl) | (simp [*, errW_none, errW_some] <;> rfl), by repeat (first | (with_reducible first | exact HB.out | apply below_alloc | apply pw_below_drewN | apply below_drew1 | refine below_set ?_ GE108.out) | exact HB.out)⟩
 ·replace c3 := Bool.eq_false_iff.mpr c3
  subst c3
  have H1 : ((value_Str.f a0).bind fun bt114 => (some (bt114.1, bt114.2.1, bt114.2.2))) = some (r1, r2, r3) := by rw [if_neg (show ¬ (false = true) by decide)] at H; exact H
  clear H
  have H := H1
  clear H1
  replace H := Option.bind_eq_some_iff.mp H
  obtain ⟨⟨t114, t115, t116⟩, A90, H⟩ := H
  replace H : (some (t114, t115, t116)) = some (r1, r2, r3) := H
  have A9 := Aside0.mk A90
  clear A90
  simp only [Option.some.injEq, Prod.mk.injEq] at H
  obtain ⟨rfl, rfl, rfl⟩ := H
  go_enter Tryz.func29, Tryz.ntmps29
  go_wp2_with (first | ((with_reducible refine gate_dst (N := 2) rfl ?_); refine box_event ?hg (N := 2) ?hd (cs := #[.int .i64 0, .int .u64 0, .string (⟨#[]⟩ : ByteArray)]) (t := 32) ?hr ?_; (case hd => rfl); (case hg => rfl); (case hr => first | (go_simp; done) | (go_simp; rfl)); intro gb108 hg w10 hbox hb; have n0_ := Aside0.mk (below_step (by repeat (first | exact HB.out | apply below_alloc | apply pw_below_drewN | apply below_drew1)) hb); have n1_ := Aside0.mk (hbox); have n2_ := Aside0.mk ((by rw [hg]; exact (below_size (by repeat (first | exact HB.out | apply below_alloc | apply pw_below_drewN | apply below_drew1))) : w.heap.size ≤ gb108)); have n3_ := Aside0.mk ((by rw [hg]; exact (below_size (by repeat (first | exact HB.out | apply below_alloc | apply pw_below_drewN | apply below_drew1))) : w.heap.size ≤ gb108)); clear HB; have HB := n0_; have BK108 := n1_; have GW108 := n2_; have GE108 := n3_; clear n0_ n1_ n2_ n3_; clear hb hbox hg) | ((with_reducible refine gate_callee (f := 47) rfl ?_); refine goesL_ (some 7) rfl rfl Tryz.func47 (by kernel_rfl) rfl #[.string a0] rfl (by (try simp only [List.map_toArray, List.map_cons, List.map_nil]); first | done | rfl | (simp only [List.length_drop, List.length_take]; rfl)) ?_; (with_reducible refine (strtod_Whole.calls k a0 t109 false _ ?side1 A2.out).mono ?_); (case side1 => first | exact hT | exact Tabs.below hT (by repeat (first | (with_reducible first | exact HB.out | apply below_alloc | apply pw_below_drewN | apply below_drew1 | refine below_set ?_ GE108.out) | exact HB.out)) | (repeat (first | exact hT | apply Tabs.drewN | apply Tabs.drew))); rintro e w11 ⟨rfl, hb⟩; refine ⟨_, rfl, ?_⟩; have n0_ := Aside0.mk (blk_below (g := gb108) (o := .cells #[.int .i64 0, .int .u64 0, .string (⟨#[]⟩ : ByteArray)] 32 (0, 0)) (by (with_reducible repeat (first | refine blk_drewN ?_ _ | refine blk_drew ?_ | refine blk_alloc ?_ _)); exact BK108.out) hb); have n1_ := Aside0.mk (below_step (by repeat (first | (with_reducible first | exact HB.out | apply below_alloc | apply pw_below_drewN | apply below_drew1 | refine below_set ?_ GE108.out) | exact HB.out)) hb); clear BK108; clear HB; have BK108 := n0_; have HB := n1_; clear n0_ n1_; (try clear hb); (try clear hb2); (try clear hk); (try clear hi)) | ((with_reducible refine gate_callee (f := 49) rfl ?_); refine goesL_ (some 16) rfl rfl Tryz.func49 (by kernel_rfl) rfl #[.string a0] rfl (by (try simp only [List.map_toArray, List.map_cons, List.map_nil]); first | done | rfl | (simp only [List.length_drop, List.length_take]; rfl)) ?_; (with_reducible refine (value_Str.calls a0 t114 t115 t116 _ A9.out).mono ?_); rintro e w12 ⟨rfl, hb⟩; refine ⟨_, rfl, ?_⟩; have n0_ := Aside0.mk (blk_below (g := gb108) (o := .cells #[.int .i64 0, .int .u64 0, .string (⟨#[]⟩ : ByteArray)] 32 (0, 0)) (by (with_reducible repeat (first | refine blk_drewN ?_ _ | refine blk_drew ?_ | refine blk_alloc ?_ _)); exact BK108.out) hb); have n1_ := Aside0.mk (below_step (by repeat (first | (with_reducible first | exact HB.out | apply below_alloc | apply pw_below_drewN | apply below_drew1 | refine below_set ?_ GE108.out) | exact HB.out)) hb); clear BK108; clear HB; have BK108 := n0_; have HB := n1_; clear n0_ n1_; (try clear hb); (try clear hb2); (try clear hk); (try clear hi); have hcz13_0 : w12.cell? ⟨gb108, 0, none⟩ = some (.int .i64 0) := (blk_cell BK108.out 0).trans rfl; have hcz13_1 : w12.cell? ⟨gb108, 1, none⟩ = some (.int .u64 0) := (blk_cell BK108.out 1).trans rfl; have hcz13_2 : w12.cell? ⟨gb108, 2, none⟩ = some (.string (⟨#[]⟩ : ByteArray)) := (blk_cell BK108.out 2).trans rfl; have hfz13_0 := blk_frozen BK108.out 0; have hfz13_1 := blk_frozen BK108.out 1; have hfz13_2 := blk_frozen BK108.out 2))
  refine bodyPost_ret (results_cell_row rfl _ _ gb108 32 #[.int .i64 t114, .int .u64 t115, .string t116] (0, 0) _ rfl (by (with_reducible repeat (first | refine blk_drewN ?_ _ | refine blk_drew ?_ | refine blk_alloc ?_ _)); refine blk_put (cs := #[.int .i64 t114, .int .u64 t115, .string (⟨#[]⟩ : ByteArray)]) ?_ 2 _ rfl; (with_reducible repeat (first | refine blk_drewN ?_ _ | refine blk_drew ?_ | refine blk_alloc ?_ _)); refine blk_put (cs := #[.int .i64 t114, .int .u64 0, .string (⟨#[]⟩ : ByteArray)]) ?_ 1 _ rfl; (with_reducible repeat (first | refine blk_drewN ?_ _ | refine blk_drew ?_ | refine blk_alloc ?_ _)); refine blk_put (cs := #[.int .i64 0, .int .u64 0, .string (⟨#[]⟩ : ByteArray)]) ?_ 0 _ rfl; (with_reducible repeat (first | refine blk_drewN ?_ _ | refine blk_drew ?_ | refine blk_alloc ?_ _)); exact BK108.out) Tryz.underlying32 rfl (by kernel_rfl)) rfl ?_
  exact ⟨by first | rfl | (simp [errW_none, errW_some] <;> rfl) | (simp [*, errW_none, errW_some] <;> rfl), by repeat (first | (with_reducible first | exact HB.out | apply below_alloc | apply pw_below_drewN | apply below_drew1 | refine below_set ?_ GE108.out) | exact HB.out)⟩
end Go.Proofs.YtahdkpoihpcfnaaGreatDoor.PC
end
