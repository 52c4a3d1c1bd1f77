/- Part 6 of what Nothing rests on: contracts and plain laws. -/
import Derived.Deep.QuietTactic
import Derived.BigQuiet
import Derived.Test.YtahdkpoihpcfnaaGreatDoorC5
section
set_option linter.unusedVariables false
set_option linter.unusedSimpArgs false
namespace Go.Proofs.YtahdkpoihpcfnaaGreatDoor.Rec
open Go Go.RowKit Go.Shelf Go.Proofs.YtahdkpoihpcfnaaGreatDoorW.PrintWords Go.Proofs.YtahdkpoihpcfnaaGreatDoorW.PrintLast Go.Proofs.YtahdkpoihpcfnaaGreatDoorW.PrintMore Go.Proofs.YtahdkpoihpcfnaaGreatDoor.Stub Go.Proofs.YtahdkpoihpcfnaaGreatDoor.PD Go.Proofs.YtahdkpoihpcfnaaGreatDoor.Flat
def plainV (x : S32) : S32 := if x.f0 = 1 then ⟨1, x.f1, ⟨#[]⟩⟩ else if x.f0 = 2 then ⟨2, 0, x.f2⟩ else if x.f0 = 3 then ⟨3, x.f1, x.f2⟩ else ⟨0, 0, ⟨#[]⟩⟩
theorem plainV_eq (x : S32) : value_Plain.f x.f0 x.f1 x.f2 = some ((plainV x).f0, (plainV x).f1, (plainV x).f2) := by
  unfold value_Plain.f plainV
  split
  · rfl
  · split
    · rfl
    · split <;> rfl
set_option maxRecDepth 100000 in
theorem Load_many (A : Option Addr) (n c : Nat) (s fs ofs : ByteArray) (w : World) (hn : 32768 < n) (hm : n ≤ 9223372036854775807) :
    Calls Tryz.prog 13 #[.string s, .slice A n c, .string fs, .string ofs] w fun e w' => e = .returned (.pointer none) ∧ w = w' := by
  go_enter Tryz.func13, Tryz.ntmps13
  go_wp2
  go_ret
  exact ⟨rfl, rfl⟩
set_option maxRecDepth 100000 in
set_option maxHeartbeats 4000000 in
theorem Load_calls (A : Option Addr) (c : Nat) (vals : List S32) (s fs ofs : ByteArray) (w : World) (hC : Kd.C k32 w A vals.length vals) (hn : vals.length ≤ 32768) :
    Calls Tryz.prog 13 #[.string s, .slice A vals.length c, .string fs, .string ofs] w fun e w' => ∃ g, e = .returned (.pointer (some ⟨g, 0, none⟩)) ∧ w.heap.size ≤ g ∧ RecAt w' g s (vals.map plainV) fs ofs ∧ Below w.heap.size w w' := by
  have HC := Aside0.mk hC
  clear hC
  have HT_ : Aside0 (Tryz.prog.follows .mixedOrders = true) := ⟨by kernel_rfl⟩
  go_enter Tryz.func13, Tryz.ntmps13
  go_wp2
  go_loopw [22] (fun v22 wr => ∃ (i : Nat) (v : Value), i ≤ vals.length ∧ v22 = .int .i64 i ∧ wr.heap[w.heap.size]? = some (.cells #[.string s, v, .string fs, .string ofs] 56 (0, 0)) ∧ Kd.R k32 32 wr w.heap.size (fun _ => True) v ((vals.take i).map plainV) ∧ Below w.heap.size w wr) (fun v22 _ => vals.length - (intOf v22).toNat)
  case atStart =>
    exact ⟨0, _, Nat.zero_le _, rfl, heap_alloc_last w _, Kd.R_nil _ _ _ _ _, (Below.refl _ _).alloc (Nat.le_refl _) _⟩
  case round =>
    obtain ⟨i, v, hi, rfl, hg, hr, hb⟩ := hrel
    by_cases hlt : i < vals.length
    · have p1 : (0 : Int) ≤ (i : Int) := by omega
      have q1 : (i : Int) < (vals.length : Int) := by omega
      obtain ⟨ad, eA, hx0, hx1, hx2⟩ := at_T32 HC.out (i : Int) p1 q1
      cases eA
      replace hx0 := (hb.cell (World.block_lt_of_cell? w _ hx0)).trans hx0
      replace hx1 := (hb.cell (World.block_lt_of_cell? w _ hx1)).trans hx1
      replace hx2 := (hb.cell (World.block_lt_of_cell? w _ hx2)).trans hx2
      rw [Int.toNat_natCast] at hx0 hx1 hx2
      generalize hxe : rd_T32 vals (i : Int) = x at hx0 hx1 hx2
      have HG := Aside0.mk hg
      have HR := Aside0.mk hr
      have HB := Aside0.mk hb
      have hI := Aside0.mk hi
      clear hg hr hb hi
      go_wp2
      have hglt : w.heap.size < wr.heap.size := (Array.getElem?_eq_some_iff.1 HG.out).1
      have HX := Aside0.mk hxe
      clear hxe
      refine start_ (n := 12) (S := fun w' => w'.cell? ⟨w.heap.size, 1, none⟩ = some v ∧ w'.cell? ⟨wr.heap.size, 0, none⟩ = some (.int .i64 x.f0) ∧ w'.cell? ⟨wr.heap.size, 1, none⟩ = some (.int .u64 x.f1) ∧ w'.cell? ⟨wr.heap.size, 2, none⟩ = some (.string x.f2)) (ds := [8, 11]) #[false, false, false, false, false, false, false, false, false, false, false, false] (by kernel_rfl) rfl rfl ⟨?_, ?_, ?_, ?_⟩ ?_
      · exact pw_cell_below (below_drew (below_alloc (Below.refl _ wr) _)) (by simp [World.cell?, HG.out])
      · go_simp
      · go_simp
      · go_simp
      intro hHeld
      have HG9 : Aside0 (((wr.alloc (.cells #[.int .i64 x.f0, .int .u64 x.f1, .string x.f2] 32)).drew).heap[w.heap.size]? = some (.cells #[.string s, v, .string fs, .string ofs] 56 (0, 0))) := ⟨((below_drew (below_alloc (Below.refl _ wr) (.cells #[.int .i64 x.f0, .int .u64 x.f1, .string x.f2] 32))).block _ hglt).trans HG.out⟩
      have HR9 := Aside0.mk (Kd.R_drew (Kd.R_alloc HR.out (.cells #[.int .i64 x.f0, .int .u64 x.f1, .string x.f2] 32)))
      have HB9 := Aside0.mk (below_drew1 (below_alloc HB.out (.cells #[.int .i64 x.f0, .int .u64 x.f1, .string x.f2] 32)))
      generalize (wr.alloc (.cells #[.int .i64 x.f0, .int .u64 x.f1, .string x.f2] 32)).drew = w9 at HG9 HR9 HB9 hHeld ⊢
      refine pure_ (i := 0) (N := some 26) (v := ?_) (a' := ?_) #[true, false, false, false, false, false, false, false, false, false, false, false] rfl rfl (by kernel_rfl) (fun _ _ _ h => h) (Or.inl ⟨by rfl, ?_⟩) ?_ ?_
      rotate_left
      · intro w'
        go_simp
        with_reducible rfl
      rotate_left
      · simp only [Act.put, List.setIfInBounds_toArray, List.set_cons_zero, List.set_cons_succ, i64_w, i32_w]
        rfl
      refine pure_ (i := 1) (N := some 27) (v := ?_) (a' := ?_) #[true, true, false, false, false, false, false, false, false, false, false, false] rfl rfl (by kernel_rfl) (fun _ _ _ h => h) (Or.inl ⟨by rfl, ?_⟩) ?_ ?_
      rotate_left
      · intro w'
        go_simp
        with_reducible rfl
      rotate_left
      · simp only [Act.put, List.setIfInBounds_toArray, List.set_cons_zero, List.set_cons_succ, i64_w, i32_w]
        rfl
      refine pure_ (i := 2) (N := some 28) (v := ?_) (a' := ?_) #[true, true, true, false, false, false, false, false, false, false, false, false] rfl rfl (by kernel_rfl) (fun _ _ _ h => h) (Or.inl ⟨by rfl, ?_⟩) ?_ ?_
      rotate_left
      · intro w'
        go_simp
        with_reducible rfl
      rotate_left
      · simp only [Act.put, List.setIfInBounds_toArray, List.set_cons_zero, List.set_cons_succ, i64_w, i32_w]
        rfl
      refine pure_ (i := 3) (N := some 29) (v := ?_) (a' := ?_) #[true, true, true, true, false, false, false, false, false, false, false, false] rfl rfl (by kernel_rfl) (fun _ _ _ h => h) (Or.inl ⟨by rfl, ?_⟩) ?_ ?_
      rotate_left
      · intro w'
        go_simp
        with_reducible rfl
      rotate_left
      · simp only [Act.put, List.setIfInBounds_toArray, List.set_cons_zero, List.set_cons_succ, i64_w, i32_w]
        rfl
      refine take_ (i := 4) (N := some 30) (v := ?_) (a' := ?_) #[true, true, true, true, true, false, false, false, false, false, false, false] rfl rfl (by kernel_rfl) (fun _ _ _ h => h) (Or.inl ⟨by rfl, ?_⟩) hHeld ?_ ?_
      rotate_left
      · rintro w' ⟨s0, s1, s2, s3⟩
        go_simp
        with_reducible rfl
      rotate_left
      · simp only [Act.put, List.setIfInBounds_toArray, List.set_cons_zero, List.set_cons_succ, i64_w, i32_w]
        rfl
      refine take_ (i := 5) (N := some 31) (v := ?_) (a' := ?_) #[true, true, true, true, true, true, false, false, false, false, false, false] rfl rfl (by kernel_rfl) (fun _ _ _ h => h) (Or.inl ⟨by rfl, ?_⟩) hHeld ?_ ?_
      rotate_left
      · rintro w' ⟨s0, s1, s2, s3⟩
        go_simp
        with_reducible rfl
      rotate_left
      · simp only [Act.put, List.setIfInBounds_toArray, List.set_cons_zero, List.set_cons_succ, i64_w, i32_w]
        rfl
      refine one_ (i := 6) (N := some 32) #[true, true, true, true, true, true, true, false, false, false, false, false] rfl rfl (by kernel_rfl) (by decide) (fun K hK => ?_)
      refine goes_ Tryz.func28 (by kernel_rfl) rfl #[.agg #[.int .i64 x.f0, .int .u64 x.f1, .string x.f2]] (by rfl) rfl rfl (by (try simp only [List.map_toArray, List.map_cons, List.map_nil]); first | done | rfl) ?_
      refine (value_Plain.calls x.f0 x.f1 x.f2 _ _ _ _ (plainV_eq x)).mono ?_
      rintro e w10 ⟨rfl, hb10⟩
      refine ⟨_, rfl, ?_⟩
      have HG10 : Aside0 (w10.heap[w.heap.size]? = some (.cells #[.string s, v, .string fs, .string ofs] 56 (0, 0))) := ⟨(hb10.block _ (Array.getElem?_eq_some_iff.1 HG9.out).1).trans HG9.out⟩
      have HR10 := Aside0.mk (Kd.R_below HR9.out hb10)
      have HB10 := Aside0.mk (below_step HB9.out hb10)
      have hH := hHeld
      refine hK.out _ _ ⟨pw_cell_below hb10 hH.1, pw_cell_below hb10 hH.2.1, pw_cell_below hb10 hH.2.2.1, pw_cell_below hb10 hH.2.2.2⟩ (fun hHeld => ?_)
      clear hb10 hH
      clear hK K
      refine norm_ (a' := ?_) ?_ ?_
      rotate_left
      · show Act.put _ (some 32) _ = _
        rfl
      refine one_ (i := 7) (N := some 33) #[true, true, true, true, true, true, true, true, false, false, false, false] rfl rfl (by kernel_rfl) (by decide) (fun K hK => ?_)
      refine value_ rfl rfl (v := .slice (some ⟨w10.heap.size, 0, none⟩) 1 1) (w1 := w10.alloc (.cells #[.int .i64 (plainV x).f0, .int .u64 (plainV x).f1, .string (plainV x).f2] 32)) (by go_simp) ?_
      refine hK.out _ _ ⟨pw_cell_below (below_alloc (Below.refl _ w10) _) hHeld.1, pw_cell_below (below_alloc (Below.refl _ w10) _) hHeld.2.1, pw_cell_below (below_alloc (Below.refl _ w10) _) hHeld.2.2.1, pw_cell_below (below_alloc (Below.refl _ w10) _) hHeld.2.2.2⟩ (fun hHeld => ?_)
      clear hK K
      refine norm_ (a' := ?_) ?_ ?_
      rotate_left
      · show Act.put _ (some 33) _ = _
        rfl
      refine last_ (i := 8) (N := some 34) #[true, true, true, true, true, true, true, true, true, false, false, false] rfl rfl (by kernel_rfl) (by decide) (fun K hK => ?_)
      refine Kd.R_append_step k32 (w0 := w) w.heap.size rfl (.tmp 30) (.tmp 33) 35 32 (.agg #[(.int .i64 0), (.int .u64 0), (.string ⟨#[]⟩)]) 32 rfl Tryz.underlying35 info32 rfl (by decide) (by omega) v ((vals.take i).map plainV) (plainV x) [.int .i64 (plainV x).f0, .int .u64 (plainV x).f1, .string (plainV x).f2] (fun _ => True) (fun _ => False) rfl rfl (k32_mkM _ _ _ _) (fun _ hk => hk.elim) (fun _ _ => trivial) HR10.out HB10.out HB10.out.size ?hl ?_
      case hl =>
        have : ((vals.take i).map plainV).length ≤ 32768 := by rw [List.length_map, List.length_take]; omega
        omega
      intro v1 w11 hr11 hb11 hg11 _
      obtain ⟨A1, c1, rfl⟩ := Kd.R_slice hr11
      have hg : w11.heap[w.heap.size]? = _ := (hg11.block _ (Array.getElem?_eq_some_iff.1 HG10.out).1 (Kd.R_ne HR10.out HG10.out (by decide))).trans HG10.out
      have hcg : w11.cell? ⟨w.heap.size, 1, none⟩ = some v := by simp [World.cell?, hg]
      have hfg : w11.frozen? ⟨w.heap.size, 1, none⟩ = false := by simp [World.frozen?, hg]
      have HG11 := Aside0.mk hg
      have HR11 := Aside0.mk hr11
      have HB11 := Aside0.mk hb11
      clear hg hr11 hb11 hg11
      refine hK.out _ _ ?_
      clear hK K
      refine norm_ (a' := ?_) ?_ ?_
      rotate_left
      · show Act.put _ (some 34) _ = _
        rfl
      refine pure_ (i := 9) (N := some 35) (v := ?_) (a' := ?_) #[true, true, true, true, true, true, true, true, true, true, false, false] rfl rfl (by kernel_rfl) (fun _ _ _ h => h) (Or.inl ⟨by rfl, ?_⟩) ?_ ?_
      rotate_left
      · intro w'
        go_simp
        with_reducible rfl
      rotate_left
      · simp only [Act.put, List.setIfInBounds_toArray, List.set_cons_zero, List.set_cons_succ, i64_w, i32_w]
        rfl
      refine pure_ (i := 10) (N := some 36) (v := ?_) (a' := ?_) #[true, true, true, true, true, true, true, true, true, true, true, false] rfl rfl (by kernel_rfl) (fun _ _ _ h => h) (Or.inl ⟨by rfl, ?_⟩) ?_ ?_
      rotate_left
      · intro w'
        go_simp
        with_reducible rfl
      rotate_left
      · simp only [Act.put, List.setIfInBounds_toArray, List.set_cons_zero, List.set_cons_succ, i64_w, i32_w]
        rfl
      refine last_ (i := 11) (N := none) #[true, true, true, true, true, true, true, true, true, true, true, true] rfl rfl (by kernel_rfl) (by decide) (fun K hK => ?_)
      refine skip_ rfl rfl (w1 := w11.setCell ⟨w.heap.size, 1, none⟩ (.slice A1 ((vals.take i).map plainV ++ [plainV x]).length c1)) (by go_simp) ?_
      refine hK.out _ _ ?_
      clear hK K
      refine done_ (by kernel_rfl) ?_
      have hl : (vals.take (i + 1)).map plainV = (vals.take i).map plainV ++ [plainV x] := by
        rw [List.take_succ_eq_append_getElem hlt, List.map_append, ← HX.out]
        simp [rd_T32, List.getD_eq_getElem?_getD, List.getElem?_eq_getElem hlt]
      have HL := Lib.hid hl
      clear hl
      go_wp2
      go_roundw
      case rel =>
        refine ⟨i + 1, _, by omega, by go_num, heap_setCell_cells HG11.out 1 _, ?_, HB11.out.setCell (Nat.le_refl _) _⟩
        rw [HL.out]
        have h := Kd.R_set HR11.out HG11.out (by decide) 1 (.slice A1 ((vals.take i).map plainV ++ [plainV x]).length c1)
        simpa only [List.length_append, List.length_map, List.length_take, List.length_cons, List.length_nil, Nat.zero_add] using h
      case measure => simp [intOf]; omega
    · go_wp2
      go_ret
      obtain rfl : i = vals.length := by omega
      rw [List.take_length] at hr
      exact ⟨w.heap.size, rfl, Nat.le_refl _, ⟨v, hg, Kd.R_lower hr (Nat.zero_le _)⟩, hb⟩
theorem Seps_nil (fs ofs : ByteArray) (w : World) : Calls Tryz.prog 15 #[.pointer none, .string fs, .string ofs] w fun e w' => e = .returned (.tuple #[]) ∧ w = w' := by
  go_enter Tryz.func15, Tryz.ntmps15
  go_wp2
  go_end0
  exact ⟨rfl, rfl⟩
theorem Field_nil (i : Int) (w : World) : Calls Tryz.prog 16 #[.pointer none, .int .i64 i] w fun e w' => e = .returned (.tuple #[.agg #[.int .i64 0, .int .u64 0, .string ⟨#[]⟩], .int .i64 222]) ∧ Below w.heap.size w w' := by
  go_enter Tryz.func16, Tryz.ntmps16
  go_wp2
  refine bodyPost_ret (v := .tuple #[.agg #[.int .i64 0, .int .u64 0, .string ⟨#[]⟩], .int .i64 222]) (by simp [results, Tryz.results16, go_sem]) rfl ⟨rfl, ?_⟩
  exact (Below.refl _ _).alloc (Nat.le_refl _) _
theorem Set_nil (i x0 x1 : Int) (x2 fmt : ByteArray) (w : World) : Calls Tryz.prog 17 #[.pointer none, .int .i64 i, .agg #[.int .i64 x0, .int .u64 x1, .string x2], .string fmt] w fun e w' => e = .returned (.int .i64 222) ∧ Below w.heap.size w w' := by
  go_enter Tryz.func17, Tryz.ntmps17
  go_wp2
  go_ret
  exact ⟨rfl, (Below.refl _ _).alloc (Nat.le_refl _) _⟩
theorem SetCount_nil (i : Int) (fmt : ByteArray) (w : World) : Calls Tryz.prog 18 #[.pointer none, .int .i64 i, .string fmt] w fun e w' => e = .returned (.int .i64 222) ∧ w = w' := by
  go_enter Tryz.func18, Tryz.ntmps18
  go_wp2
  go_ret
  exact ⟨rfl, rfl⟩
theorem All_nil (w : World) : Calls Tryz.prog 20 #[.pointer none] w fun e w' => e = .returned (.slice none 0 0) ∧ w = w' := by
  go_enter Tryz.func20, Tryz.ntmps20
  go_wp2
  go_ret
  exact ⟨rfl, rfl⟩
end Go.Proofs.YtahdkpoihpcfnaaGreatDoor.Rec
end

section
set_option linter.unusedVariables false
set_option linter.unusedSimpArgs false
namespace Go.Proofs.YtahdkpoihpcfnaaGreatDoor.Stub
open Go Go.RowKit Go.Shelf Go.Proofs.YtahdkpoihpcfnaaGreatDoorW.PrintWords Go.Proofs.YtahdkpoihpcfnaaGreatDoor.PC Go.Proofs.YtahdkpoihpcfnaaGreatDoor.PD Go.Proofs.YtahdkpoihpcfnaaGreatDoor.Flat Go.Proofs.YtahdkpoihpcfnaaGreatDoor.Rec Go.Proofs.YtahdkpoihpcfnaaGreatDoor.CutsP
theorem lines_closed : record_Lines.f ⟨#[97, 10, 98, 10]⟩ ⟨#[10]⟩ = some [⟨#[97]⟩, ⟨#[98]⟩] := by
 unfold record_Lines.f
 rw [if_pos ⟨by decide, by decide, by rw [Lib.toList_data]; decide⟩]
 rfl
theorem fields_closed : record_Fields.f ⟨#[97, 44, 98]⟩ ⟨#[44]⟩ = some [⟨#[97]⟩, ⟨#[98]⟩] := by
 unfold record_Fields.f
 rw [if_pos ⟨by decide, by decide, by rw [Lib.toList_data]; decide⟩, if_neg (by rw [Lib.toList_data]; decide), if_pos ⟨by rw [Lib.toList_data]; decide, by decide⟩]
 rfl
theorem fields_open : record_Fields.f ⟨#[49, 48, 32, 120]⟩ ⟨#[32]⟩ = some [⟨#[49, 48]⟩, ⟨#[120]⟩] := by
 unfold record_Fields.f
 rw [if_pos ⟨by decide, by decide, by rw [Lib.toList_data]; decide⟩, if_pos (by rw [Lib.toList_data]), if_pos (by decide)]
 rfl
theorem inputs_closed : record_inputs.f 100 [⟨#[49, 48]⟩, ⟨#[120]⟩] = some [⟨3, 4621819117588971520, ⟨#[49, 48]⟩⟩, ⟨2, 0, ⟨#[120]⟩⟩] := by
 kernel_rfl
theorem build_closed : record_build.f 100 (setL [⟨3, 4621819117588971520, ⟨#[49, 48]⟩⟩, ⟨2, 0, ⟨#[120]⟩⟩] 4 ⟨2, 0, ⟨#[121]⟩⟩) ⟨#[45]⟩ ⟨#[37, 46, 54, 103]⟩ = some (⟨#[49, 48, 45, 120, 45, 45, 121]⟩, 0) := by
 kernel_rfl
theorem row_cell {w : World} {base : Nat} {v : Value} {xs : List ByteArray} {e : Nat} {ok : Nat → Prop} (h : Kd.R Kd.string e w base ok v xs) (hp : 0 < xs.length) : ∃ (g cap : Nat), v = .slice (some ⟨g, 0, none⟩) xs.length cap ∧ base ≤ g ∧ g < w.heap.size ∧ ∀ (j : Nat) x, xs[j]? = some x → w.cell? ⟨g, j, none⟩ = some (.string x) := by
 obtain ⟨g, cap, rfl, hb, hlt, _⟩ := Kd.R_form h hp
 refine ⟨g, cap, rfl, hb, hlt, fun j x hx => ?_⟩
 have hj : j < xs.length := by
  rcases Nat.lt_or_ge j xs.length with h | h
  ·exact h
  ·rw [List.getElem?_eq_none h] at hx; cases hx
 have := (Kd.R_cell ByteArray.empty h (j : Int) (by omega) (by omega)).1
 simpa [rdOf, List.getD_eq_getElem?_getD, hx] using this
def abacuslaw21_awake.f : Option Bool := some true
set_option maxRecDepth 100000 in
set_option maxHeartbeats 4000000 in
theorem abacuslaw21_awake.calls (r : Bool) (w : World) (hT : Tabs w) (h : abacuslaw21_awake.f = some r) :
  Calls Tryz.prog 6 #[] w fun e w' => e = .returned (.bool r) ∧ Below w.heap.size w w' := by
 cases h
 have HT := Aside0.mk hT
 clear hT
 go_enter Tryz.func6, Tryz.ntmps6
 go_wp2_with (first
  | (go_at_call 7; refine (record_Lines.calls _ _ _ _ HT.out lines_closed).mono ?_; rintro e w1 ⟨v1, rfl, hr1, hb1⟩; obtain ⟨g1, cp1, rfl, _, hl1, hc1⟩ := row_cell hr1 (by decide); have HC1 := Aside0.mk hc1; have HB1 := Aside0.mk hb1; clear hr1 hb1 hc1)
  | (go_at_call 10; refine (record_Fields.calls _ _ _ _ (Tabs.below HT.out HB1.out) fields_closed).mono ?_; rintro e w2 ⟨v2, rfl, hr2, hb2⟩; obtain ⟨g2, cp2, rfl, _, hl2, hc2⟩ := row_cell hr2 (by decide); have a0 : w2.cell? ⟨g1, 0, none⟩ = some (.string ⟨#[97]⟩) := (hb2.cell (p := ⟨g1, 0, none⟩) hl1).trans (HC1.out 0 _ rfl); have a1 : w2.cell? ⟨g1, 1, none⟩ = some (.string ⟨#[98]⟩) := (hb2.cell (p := ⟨g1, 1, none⟩) hl1).trans (HC1.out 1 _ rfl); have b1 : w2.cell? ⟨g2, 1, none⟩ = some (.string ⟨#[98]⟩) := hc2 1 _ rfl; have HB2 := Aside0.mk (HB1.out.trans (hb2.mono HB1.out.size)); clear hr2 hb2 hc2)
  | (go_at_call 21; refine (New_calls 100 _ (Tabs.below HT.out HB2.out) fields_open inputs_closed).mono ?_; rintro e w3 ⟨g3, rfl, hg3, hr3, hb3⟩; have HR3 := Aside0.mk hr3; have HB3 := Aside0.mk (HB2.out.trans (hb3.mono HB2.out.size)); have HG3 := Aside0.mk (Nat.le_trans HB2.out.size hg3); clear hr3 hb3 hg3)
  | (go_at_call 17; refine (Set_ok 100 4 _ _ _ ⟨2, 0, ⟨#[121]⟩⟩ _ _ HR3.out (Tabs.below HT.out HB3.out) (by omega) (by omega) (by decide) rfl build_closed).mono ?_; rintro e w4 ⟨rfl, hr4, hg4⟩; have HR4 := Aside0.mk hr4; have HB4 := Aside0.mk (HB3.out.grown hg4 HB3.out.size (fun k hk => by injection hk with hk; rw [← hk]; exact HG3.out)); clear hr4 hg4)
  | (go_at_call 19; refine (Text_at HR4.out).mono ?_; rintro e w5 ⟨rfl, rfl⟩)
  | (go_at_call 14; refine (Count_at HR4.out).mono ?_; rintro e w5 ⟨rfl, rfl⟩))
 go_ret
 exact ⟨rfl, HB4.out⟩
end Go.Proofs.YtahdkpoihpcfnaaGreatDoor.Stub
end

section
set_option linter.unusedVariables false
set_option linter.unusedSimpArgs false
namespace Go.Proofs.YtahdkpoihpcfnaaGreatDoor.Nothing
open Go Go.RowKit Go.Shelf Go.Proofs.YtahdkpoihpcfnaaGreatDoorW.PrintWords Go.Proofs.YtahdkpoihpcfnaaGreatDoorW.PrintLast Go.Proofs.YtahdkpoihpcfnaaGreatDoorW.PrintMore Go.Proofs.YtahdkpoihpcfnaaGreatDoor.Stub Go.Proofs.YtahdkpoihpcfnaaGreatDoor.PD Go.Proofs.YtahdkpoihpcfnaaGreatDoor.Flat Go.Proofs.YtahdkpoihpcfnaaGreatDoor.Rec
theorem big_make (n : Nat) (hn : n ≤ 32769) : (n : Int).toNat * 32 ≤ 281474976710656 := by omega
theorem Load_len (A : Option Addr) (n c : Nat) (vals : List S32) (s fs ofs : ByteArray) (w : World) (hl : vals.length = n) (hC : Kd.C k32 w A n vals) (hn : n ≤ 32768) :
    Calls Tryz.prog 13 #[.string s, .slice A n c, .string fs, .string ofs] w fun e w' => ∃ g, e = .returned (.pointer (some ⟨g, 0, none⟩)) ∧ w.heap.size ≤ g ∧ RecAt w' g s (vals.map plainV) fs ofs ∧ Below w.heap.size w w' := by
  subst hl
  exact Load_calls A c vals s fs ofs w hC hn
theorem Count_len (g n : Nat) (xs : List S32) (s fs ofs : ByteArray) (w : World) (hl : xs.length = n) (h : RecAt w g s xs fs ofs) : Calls Tryz.prog 14 #[.pointer (some ⟨g, 0, none⟩)] w fun e w' => e = .returned (.int .i64 (n : Int)) ∧ w = w' := by
  subst hl
  exact Count_at h
set_option maxRecDepth 100000 in
set_option maxHeartbeats 4000000 in
theorem walk (i x0 x1 : Int) (x2 s : ByteArray) (w : World) (hT : Tabs w) :
    Calls Tryz.prog 5 #[.int .i64 i, .agg #[.int .i64 x0, .int .u64 x1, .string x2], .string s] w fun e w' => e = .returned (.bool true) ∧ Below w.heap.size w w' := by
  have HT := Aside0.mk hT
  clear hT
  go_enter Tryz.func5, Tryz.ntmps5
  have HB0 : Aside0 (Below w.heap.size w (w.alloc (.cells #[.int .i64 x0, .int .u64 x1, .string x2] 32))) := ⟨(Below.refl _ _).alloc (Nat.le_refl _) _⟩
  go_wp2_with (first
    | (go_at_call 6; refine (abacuslaw21_awake.calls true _ (Tabs.below HT.out HB0.out) rfl).mono ?_; rintro e w1 ⟨rfl, hb1⟩; have hx0 : w1.cell? ⟨w.heap.size, 0, none⟩ = some (.int .i64 x0) := (hb1.cell (p := ⟨w.heap.size, 0, none⟩) (by simp)).trans (by go_simp); have hx1 : w1.cell? ⟨w.heap.size, 1, none⟩ = some (.int .u64 x1) := (hb1.cell (p := ⟨w.heap.size, 1, none⟩) (by simp)).trans (by go_simp); have hx2 : w1.cell? ⟨w.heap.size, 2, none⟩ = some (.string x2) := (hb1.cell (p := ⟨w.heap.size, 2, none⟩) (by simp)).trans (by go_simp); have HB1 := Aside0.mk (HB0.out.trans (hb1.mono HB0.out.size)); clear hb1)
    | ((with_reducible refine gate_dst (N := 17) rfl ?_); refine Kd.R_make k32 _ 32 rfl (N := 17) rfl 35 _ _ rfl ((32769 : Nat) : Int) rfl rfl Tryz.underlying35 (.agg #[(.int .i64 0), (.int .u64 0), (.string ⟨#[]⟩)]) 32 info32 rfl (by decide) (by omega) z32 (ok := fun _ => True) (okp := fun _ => True) (k32_mkM _ _ _ z32) (fun _ hk => hk) trivial (by omega) (big_make _ (Nat.le_refl _)) (Below.refl _ _) (Nat.le_refl _) ?_; intro v2 w2 hr2 hb2 _ _; obtain ⟨A2, c2, hv2⟩ := Kd.R_slice hr2; rw [List.length_replicate] at hv2; cases hv2; have HB2 := Aside0.mk (HB1.out.trans (hb2.mono HB1.out.size)); replace hx0 := pw_cell_below hb2 hx0; replace hx1 := pw_cell_below hb2 hx1; replace hx2 := pw_cell_below hb2 hx2; clear hr2 hb2)
    | ((with_reducible refine gate_dst (N := 21) rfl ?_); refine Kd.R_make k32 _ 32 rfl (N := 21) rfl 35 _ _ rfl ((32768 : Nat) : Int) rfl rfl Tryz.underlying35 (.agg #[(.int .i64 0), (.int .u64 0), (.string ⟨#[]⟩)]) 32 info32 rfl (by decide) (by omega) z32 (ok := fun _ => True) (okp := fun _ => True) (k32_mkM _ _ _ z32) (fun _ hk => hk) trivial (by omega) (big_make _ (by omega)) (Below.refl _ _) (Nat.le_refl _) ?_; intro v3 w3 hr3 hb3 _ _; obtain ⟨A3, c3, hv3⟩ := Kd.R_slice hr3; rw [List.length_replicate] at hv3; cases hv3; have HR3 := Aside0.mk hr3; have HB3 := Aside0.mk (HB2.out.trans (hb3.mono HB2.out.size)); replace hx0 := pw_cell_below hb3 hx0; replace hx1 := pw_cell_below hb3 hx1; replace hx2 := pw_cell_below hb3 hx2; clear hr3 hb3)
    | (go_at_call 13; ((with_reducible refine (Load_many A2 32769 c2 _ _ _ _ (by omega) (by omega)).mono ?_); rintro e w' ⟨rfl, rfl⟩))
    | (go_at_call 13; ((with_reducible refine (Load_len A3 32768 c3 (List.replicate 32768 z32) _ _ _ _ (List.length_replicate ..) (Kd.R_reads' HR3.out).2.2 (Nat.le_refl _)).mono ?_); rintro e w4 ⟨g4, rfl, hg4, hr4, hb4⟩; have HR4 := Aside0.mk hr4; have HB4 := Aside0.mk (HB3.out.trans (hb4.mono HB3.out.size)); replace hx0 := pw_cell_below hb4 hx0; replace hx1 := pw_cell_below hb4 hx1; replace hx2 := pw_cell_below hb4 hx2; clear hr4 hb4 hg4))
    | (go_at_call 14; ((with_reducible refine (Count_nil _).mono ?_); rintro e w' ⟨rfl, rfl⟩))
    | (go_at_call 14; ((with_reducible refine (Count_len g4 32768 _ _ _ _ _ (by rw [List.length_map, List.length_replicate]) HR4.out).mono ?_); rintro e w' ⟨rfl, rfl⟩))
    | (go_at_call 15; refine (Seps_nil _ _ _).mono ?_; rintro e w' ⟨rfl, rfl⟩)
    | (go_at_call 16; refine (Field_nil _ _).mono ?_; rintro e w5 ⟨rfl, hb5⟩; have HB5 := Aside0.mk (HB4.out.trans (hb5.mono HB4.out.size)); replace hx0 := pw_cell_below hb5 hx0; replace hx1 := pw_cell_below hb5 hx1; replace hx2 := pw_cell_below hb5 hx2; have hz5 : w.heap.size < w5.heap.size := World.block_lt_of_cell? w5 _ hx0; clear hb5)
    | (go_at_call 17; refine (Set_nil _ _ _ _ _ _).mono ?_; rintro e w6 ⟨rfl, hb6⟩; have HB6 := Aside0.mk ((HB5.out.alloc HB5.out.size _).trans (hb6.mono (by have := HB5.out.size; simp; omega))); have hz0 : w6.cell? ⟨w5.heap.size, 0, none⟩ = some (.int .i64 0) := (hb6.cell (p := ⟨w5.heap.size, 0, none⟩) (by simp)).trans (by go_simp); have hz1 : w6.cell? ⟨w5.heap.size, 1, none⟩ = some (.int .u64 0) := (hb6.cell (p := ⟨w5.heap.size, 1, none⟩) (by simp)).trans (by go_simp); have hz2 : w6.cell? ⟨w5.heap.size, 2, none⟩ = some (.string ⟨#[]⟩) := (hb6.cell (p := ⟨w5.heap.size, 2, none⟩) (by simp)).trans (by go_simp); clear hb6)
    | (go_at_call 18; refine (SetCount_nil _ _ _).mono ?_; rintro e w' ⟨rfl, rfl⟩)
    | (go_at_call 19; refine (Text_nil _).mono ?_; rintro e w' ⟨rfl, rfl⟩)
    | (go_at_call 20; refine (All_nil _).mono ?_; rintro e w' ⟨rfl, rfl⟩))
  go_ret
  exact ⟨rfl, HB6.out⟩
end Go.Proofs.YtahdkpoihpcfnaaGreatDoor.Nothing
end
