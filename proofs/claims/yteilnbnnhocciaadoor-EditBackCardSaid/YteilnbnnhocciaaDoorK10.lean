-- Written by a turned copy of the printer of the kit (wip/tools/patch_print.py).
import Derived.Test.YteilnbnnhocciaaDoorK0
import Derived.Test.YteilnbnnhocciaaDoorK6
import Derived.Test.YteilnbnnhocciaaDoorK8
import Derived.Test.YteilnbnnhocciaaDoorK9
namespace Go.Proofs.YteilnbnnhocciaaDoor.K
open Go.RowKit Go.Proofs.YteilnbnnhocciaaDoorW.PrintWords Go.Proofs.YteilnbnnhocciaaDoorW.PrintLast Go.Proofs.YteilnbnnhocciaaDoorW.PrintMore Go.Proofs.YteilnbnnhocciaaDoorM
attribute [local go_sem] max2_int min2_int max_two min_two max_three min_three max_four min_four   -- for this text's walks alone
set_option linter.unusedVariables false
set_option linter.unusedSimpArgs false

/-! ### edit_Edit_Bytes: function 15 -/
mutual
def edit_Edit_Bytes.l0 : Nat → ByteArray → List (S107) → Int → Int → Int → Int → Int → List (S107) → List (S111) → Option (ByteArray × Int)
  | 0, _, _, _, _, _, _, _, _, _ => none
  | k + 1, x5, x29, x30, x31, x102000, x102001, x102002, x102003, x102004 => if x31 < x30 then (if 0 ≤ x31 then (if x31 < (x29.length : Int) then ((edit_nums.f k (([IntKind.u64.wrap ((rd_T107 x29 x31).f0), (rd_T107 x29 x31).f1.f0, (rd_T107 x29 x31).f1.f1, (rd_T107 x29 x31).f1.f2] : List Int))).bind fun t113 => ((varint_Text.f k ((rd_T107 x29 x31).f1.f3)).bind fun t114 => (if t113.size + t114.size ≤ 9223372036854775807 then ((varint_Text.f k ((rd_T107 x29 x31).f1.f4)).bind fun t115 => (if (t113 ++ t114).size + t115.size ≤ 9223372036854775807 then (if x5.size + ((t113 ++ t114) ++ t115).size ≤ 9223372036854775807 then (edit_Edit_Bytes.l0 k (x5 ++ ((t113 ++ t114) ++ t115)) x29 x30 (wrap64 (x31 + 1)) x102000 x102001 x102002 x102003 x102004) else (none)) else (none))) else (none)))) else (none)) else (none)) else ((edit_nums.f k (([IntKind.u64.wrap ((x102004.length : Int))] : List Int))).bind fun t119 => (if x5.size + t119.size ≤ 9223372036854775807 then (edit_Edit_Bytes.l1 k (x5 ++ t119) x102004 (x102004.length : Int) 0) else (none)))
def edit_Edit_Bytes.l1 : Nat → ByteArray → List (S111) → Int → Int → Option (ByteArray × Int)
  | 0, _, _, _, _ => none
  | k + 1, x5, x68, x69, x70 => if x70 < x69 then (if 0 ≤ x70 then (if x70 < (x68.length : Int) then ((edit_nums.f k (([IntKind.u64.wrap ((rd_T111 x68 x70).f0), (rd_T111 x68 x70).f1] : List Int))).bind fun t125 => (if x5.size + t125.size ≤ 9223372036854775807 then (edit_Edit_Bytes.l1 k (x5 ++ t125) x68 x69 (wrap64 (x70 + 1))) else (none))) else (none)) else (none)) else (some (x5, 0))
end
def edit_Edit_Bytes.f (k : Nat) (a0_0 : Int) (a0_1 : Int) (a0_2 : Int) (l0_3 : List (S107)) (l0_4 : List (S111)) : Option (ByteArray × Int) := (edit_Edit_Check.f a0_0 a0_1 a0_2 l0_3 l0_4).bind fun t102 => (if t102 = 0 then ((edit_nums.f k (([a0_0, a0_1, a0_2, IntKind.u64.wrap ((l0_3.length : Int))] : List Int))).bind fun t106 => (edit_Edit_Bytes.l0 k t106 l0_3 (l0_3.length : Int) 0 a0_0 a0_1 a0_2 l0_3 l0_4)) else (some ((⟨#[]⟩ : ByteArray), t102)))
theorem edit_Edit_Bytes.mono_l : ∀ k, (∀ y0 y1 y2 y3 y4 y5 y6 y7 y8, LeO (edit_Edit_Bytes.l0 k y0 y1 y2 y3 y4 y5 y6 y7 y8) (edit_Edit_Bytes.l0 (k + 1) y0 y1 y2 y3 y4 y5 y6 y7 y8)) ∧ (∀ y0 y1 y2 y3, LeO (edit_Edit_Bytes.l1 k y0 y1 y2 y3) (edit_Edit_Bytes.l1 (k + 1) y0 y1 y2 y3))
  | 0 => ⟨fun _ _ _ _ _ _ _ _ _ r h => by simp [edit_Edit_Bytes.l0] at h, fun _ _ _ _ r h => by simp [edit_Edit_Bytes.l1] at h⟩
  | k + 1 => by
    obtain ⟨ih0, ih1⟩ := edit_Edit_Bytes.mono_l k
    refine ⟨?_, ?_⟩
    · intro y0 y1 y2 y3 y4 y5 y6 y7 y8
      unfold edit_Edit_Bytes.l0
      repeat' first
      | (with_reducible exact ih0 _ _ _ _ _ _ _ _ _)
      | (with_reducible exact ih1 _ _ _ _)
      | (with_reducible exact edit_nums.mono _ _)
      | (with_reducible exact varint_Text.mono _ _)
      | (with_reducible exact LeO.refl _)
      | (with_reducible exact LeO.none _)
      | (with_reducible refine LeO.ite ?_ ?_)
      | (with_reducible refine LeO.bind ?_ (fun _ => ?_))
      | exact ih0 _ _ _ _ _ _ _ _ _
      | exact ih1 _ _ _ _
      | exact edit_nums.mono _ _
      | exact varint_Text.mono _ _
      | exact LeO.none _
      | refine LeO.ite ?_ ?_
      | refine LeO.bind ?_ (fun _ => ?_)
    · intro y0 y1 y2 y3
      unfold edit_Edit_Bytes.l1
      repeat' first
      | (with_reducible exact ih0 _ _ _ _ _ _ _ _ _)
      | (with_reducible exact ih1 _ _ _ _)
      | (with_reducible exact edit_nums.mono _ _)
      | (with_reducible exact varint_Text.mono _ _)
      | (with_reducible exact LeO.refl _)
      | (with_reducible exact LeO.none _)
      | (with_reducible refine LeO.ite ?_ ?_)
      | (with_reducible refine LeO.bind ?_ (fun _ => ?_))
      | exact ih0 _ _ _ _ _ _ _ _ _
      | exact ih1 _ _ _ _
      | exact edit_nums.mono _ _
      | exact varint_Text.mono _ _
      | exact LeO.none _
      | refine LeO.ite ?_ ?_
      | refine LeO.bind ?_ (fun _ => ?_)
theorem edit_Edit_Bytes.mono : ∀ a0 a1 a2 a3 a4 k, LeO (edit_Edit_Bytes.f k a0 a1 a2 a3 a4) (edit_Edit_Bytes.f (k + 1) a0 a1 a2 a3 a4) := by
  intro a0 a1 a2 a3 a4 k
  obtain ⟨ih0, ih1⟩ := edit_Edit_Bytes.mono_l k
  unfold edit_Edit_Bytes.f
  repeat' first
      | (with_reducible exact ih0 _ _ _ _ _ _ _ _ _)
      | (with_reducible exact ih1 _ _ _ _)
      | (with_reducible exact edit_nums.mono _ _)
      | (with_reducible exact varint_Text.mono _ _)
      | (with_reducible exact LeO.refl _)
      | (with_reducible exact LeO.none _)
      | (with_reducible refine LeO.ite ?_ ?_)
      | (with_reducible refine LeO.bind ?_ (fun _ => ?_))
      | exact ih0 _ _ _ _ _ _ _ _ _
      | exact ih1 _ _ _ _
      | exact edit_nums.mono _ _
      | exact varint_Text.mono _ _
      | exact LeO.none _
      | refine LeO.ite ?_ ?_
      | refine LeO.bind ?_ (fun _ => ?_)
def edit_Edit_Bytes.T9 : Bool × List (List Nat × List Nat) := (true, [([], []), ([], []), ([1], [1]), ([2], [2]), ([], []), ([4], [4]), ([], []), ([6], [6]), ([], []), ([8], [8]), ([3, 5, 7, 9], [3, 5, 7, 9]), ([10], [10]), ([], []), ([12], [12]), ([13, 11], [13]), ([11, 14], [11, 14]), ([], []), ([16], [16]), ([17, 14], [17]), ([15, 18], [15, 18]), ([0, 19], [0, 19]), ([20, 18, 0, 1, 2, 3, 4, 5, 6, 7, 8, 9, 10, 11, 12, 13, 14, 15, 16, 17, 18, 19, 20], [0, 20])])
def edit_Edit_Bytes.B9 : List Nat := [0, 0, 2, 6, 0, 16, 0, 64, 0, 256, 1022, 2046, 0, 4096, 16382, 32766, 0, 65536, 229374, 524286, 1048575, 2097151]
theorem edit_Edit_Bytes.tab9 : rtab .any (opsOf Tryd.f15 9) = edit_Edit_Bytes.T9 := by kernel_rfl
theorem edit_Edit_Bytes.bits9 : waitsOk edit_Edit_Bytes.T9.2 edit_Edit_Bytes.B9 = true := by kernel_rfl
set_option maxHeartbeats 8000000 in
set_option maxRecDepth 100000 in
theorem edit_Edit_Bytes.calls (k : Nat) (a0_0 : Int) (a0_1 : Int) (a0_2 : Int) (A0_3 : Option Addr) (c0_3 : Nat) (l0_3 : List (S107)) (A0_4 : Option Addr) (c0_4 : Nat) (l0_4 : List (S111)) (r1 : ByteArray) (r2 : Int) (w : World) (hr0_3 : Kd.C k107 w A0_3 l0_3.length l0_3) (hc0_3 : l0_3.length ≤ c0_3) (hr0_4 : Kd.C k111 w A0_4 l0_4.length l0_4) (hc0_4 : l0_4.length ≤ c0_4) (h : edit_Edit_Bytes.f k a0_0 a0_1 a0_2 l0_3 l0_4 = some (r1, r2)) :
    Calls Tryd.prog 15 #[.agg #[.int .u64 a0_0, .int .u64 a0_1, .int .u64 a0_2, .slice A0_3 l0_3.length c0_3, .slice A0_4 l0_4.length c0_4]] w fun e w' => e = .returned (.tuple #[.string r1, .int .i64 r2]) ∧ Below w.heap.size w w' := by
  have hu26 := Tryd.underlying26
  have hu107 := Tryd.underlying107
  have hu97 := Tryd.underlying97
  have hu111 := Tryd.underlying111
  have HR0_3 := Aside0.mk hr0_3
  have HC0_3 := Aside0.mk hc0_3
  clear hr0_3 hc0_3
  have HR0_4 := Aside0.mk hr0_4
  have HC0_4 := Aside0.mk hc0_4
  clear hr0_4 hc0_4
  have HB := Aside0.mk (Below.refl w.heap.size w)
  have H : ((edit_Edit_Check.f a0_0 a0_1 a0_2 l0_3 l0_4).bind fun t102 => (if t102 = 0 then ((edit_nums.f k (([a0_0, a0_1, a0_2, IntKind.u64.wrap ((l0_3.length : Int))] : List Int))).bind fun t106 => (edit_Edit_Bytes.l0 k t106 l0_3 (l0_3.length : Int) 0 a0_0 a0_1 a0_2 l0_3 l0_4)) else (some ((⟨#[]⟩ : ByteArray), t102)))) = some (r1, r2) := h
  clear h
  replace H := Option.bind_eq_some_iff.mp H
  obtain ⟨t102, A20, H⟩ := H
  replace H : (if t102 = 0 then ((edit_nums.f k (([a0_0, a0_1, a0_2, IntKind.u64.wrap ((l0_3.length : Int))] : List Int))).bind fun t106 => (edit_Edit_Bytes.l0 k t106 l0_3 (l0_3.length : Int) 0 a0_0 a0_1 a0_2 l0_3 l0_4)) else (some ((⟨#[]⟩ : ByteArray), t102))) = some (r1, r2) := H
  have A2 := Aside0.mk A20
  clear A20
  by_cases c3 : t102 = 0
  · rw [if_pos c3] at H
    have c3b0 : (t102 == 0) = true := beq_iff_eq.mpr c3
    have c3b1 : (t102 != 0) = false := bne_eq_false_iff_eq.mpr c3
    clear c3
    obtain ⟨y103, hy103⟩ : ∃ y_ : List Int, y_ = (([a0_0, a0_1, a0_2, IntKind.u64.wrap ((l0_3.length : Int))] : List Int)) := ⟨_, rfl⟩
    replace H : ((edit_nums.f k y103).bind fun t106 => (edit_Edit_Bytes.l0 k t106 l0_3 (l0_3.length : Int) 0 a0_0 a0_1 a0_2 l0_3 l0_4)) = some (r1, r2) := by first | (rw [hy103]; with_reducible exact H) | (have H2_ := (Option.bind_some _ _).symm.trans H; rw [hy103]; with_reducible exact H2_) | (have H2_ := (Option.bind_some _ _).symm.trans H; with_reducible exact H2_) | with_reducible exact H | (rw [hy103]; exact H) | exact H
    have Ny103 := Aside0.mk hy103
    clear hy103
    replace H := Option.bind_eq_some_iff.mp H
    obtain ⟨t106, A40, H⟩ := H
    replace H : (edit_Edit_Bytes.l0 k t106 l0_3 (l0_3.length : Int) 0 a0_0 a0_1 a0_2 l0_3 l0_4) = some (r1, r2) := H
    have A4 := Aside0.mk A40
    clear A40
    have H' := Aside0.mk H
    clear H
    go_enter Tryd.func15, Tryd.ntmps15
    go_wp2_with (first | ((with_reducible refine gate_dst (N := 1) rfl ?_); refine box_event ?hg (N := 1) ?hd (cs := #[.int .u64 a0_0, .int .u64 a0_1, .int .u64 a0_2, .slice A0_3 l0_3.length c0_3, .slice A0_4 l0_4.length c0_4]) (t := 26) ?hr ?_; (case hd => rfl); (case hg => rfl); (case hr => first | (go_simp; done) | (go_simp; rfl)); intro gb101 hg w5 hbox hb; have n0_ := Aside0.mk (below_step (by repeat (first | (with_reducible first | exact HB.out | apply below_alloc | apply pw_below_drewN | apply below_drew1) | exact HB.out)) hb); have n1_ := Aside0.mk (hbox); have n2_ := Aside0.mk ((by rw [hg]; exact (below_size (by repeat (first | (with_reducible first | exact HB.out | apply below_alloc | apply pw_below_drewN | apply below_drew1) | exact HB.out))) : w.heap.size ≤ gb101)); have n3_ := Aside0.mk ((by rw [hg]; exact (below_size (by repeat (first | (with_reducible first | exact HB.out | apply below_alloc | apply pw_below_drewN | apply below_drew1) | exact HB.out))) : w.heap.size ≤ gb101)); clear HB; have HB := n0_; have BK101 := n1_; have GW101 := n2_; have GE101 := n3_; clear n0_ n1_ n2_ n3_; clear hb hbox hg; have hcz6_0 : w5.cell? ⟨gb101, 0, none⟩ = some (.int .u64 a0_0) := (blk_cell BK101.out 0).trans rfl; have hcz6_1 : w5.cell? ⟨gb101, 1, none⟩ = some (.int .u64 a0_1) := (blk_cell BK101.out 1).trans rfl; have hcz6_2 : w5.cell? ⟨gb101, 2, none⟩ = some (.int .u64 a0_2) := (blk_cell BK101.out 2).trans rfl; have hcz6_3 : w5.cell? ⟨gb101, 3, none⟩ = some (.slice A0_3 l0_3.length c0_3) := (blk_cell BK101.out 3).trans rfl; have hcz6_4 : w5.cell? ⟨gb101, 4, none⟩ = some (.slice A0_4 l0_4.length c0_4) := (blk_cell BK101.out 4).trans rfl; have hfz6_0 := blk_frozen BK101.out 0; have hfz6_1 := blk_frozen BK101.out 1; have hfz6_2 := blk_frozen BK101.out 2; have hfz6_3 := blk_frozen BK101.out 3; have hfz6_4 := blk_frozen BK101.out 4) | ((with_reducible refine gate_callee (f := 20) rfl ?_); refine goesL_ (some 12) rfl rfl Tryd.func20 (by kernel_rfl) rfl #[.agg #[.int .u64 a0_0, .int .u64 a0_1, .int .u64 a0_2, .slice A0_3 l0_3.length c0_3, .slice A0_4 l0_4.length c0_4]] rfl (by (try simp only [List.map_toArray, List.map_cons, List.map_nil]); first | done | rfl | (simp only [List.length_drop, List.length_take]; rfl)) ?_; (with_reducible refine (edit_Edit_Check.calls a0_0 a0_1 a0_2 _ _ l0_3 _ _ l0_4 t102 _ ?side1 ?side2 ?side3 ?side4 A2.out).mono ?_); (case side1 => repeat (first | exact (Kd.C_below HR0_3.out HB.out) | (with_reducible refine Kd.C_alloc ?_ _) | (with_reducible refine Kd.C_drewN ?_ _) | (with_reducible refine Kd.C_drew ?_))); (case side2 => exact HC0_3.out); (case side3 => repeat (first | exact (Kd.C_below HR0_4.out HB.out) | (with_reducible refine Kd.C_alloc ?_ _) | (with_reducible refine Kd.C_drewN ?_ _) | (with_reducible refine Kd.C_drew ?_))); (case side4 => exact HC0_4.out); rintro e w7 ⟨rfl, hb⟩; refine ⟨_, rfl, ?_⟩; have n0_ := Aside0.mk (blk_below (g := gb101) (o := .cells #[.int .u64 a0_0, .int .u64 a0_1, .int .u64 a0_2, .slice A0_3 l0_3.length c0_3, .slice A0_4 l0_4.length c0_4] 26 (0, 0)) (by (with_reducible repeat (first | refine blk_drewN ?_ _ | refine blk_drew ?_ | refine blk_alloc ?_ _)); exact BK101.out) hb); have n1_ := Aside0.mk (below_step (by repeat (first | (with_reducible first | exact HB.out | apply below_alloc | apply pw_below_drewN | apply below_drew1 | refine below_set ?_ GE101.out) | exact HB.out)) hb); clear BK101; clear HB; have BK101 := n0_; have HB := n1_; clear n0_ n1_; (try clear hb); (try clear hb2); (try clear hk); (try clear hi); have hcz8_0 : w7.cell? ⟨gb101, 0, none⟩ = some (.int .u64 a0_0) := (blk_cell BK101.out 0).trans rfl; have hcz8_1 : w7.cell? ⟨gb101, 1, none⟩ = some (.int .u64 a0_1) := (blk_cell BK101.out 1).trans rfl; have hcz8_2 : w7.cell? ⟨gb101, 2, none⟩ = some (.int .u64 a0_2) := (blk_cell BK101.out 2).trans rfl; have hcz8_3 : w7.cell? ⟨gb101, 3, none⟩ = some (.slice A0_3 l0_3.length c0_3) := (blk_cell BK101.out 3).trans rfl; have hcz8_4 : w7.cell? ⟨gb101, 4, none⟩ = some (.slice A0_4 l0_4.length c0_4) := (blk_cell BK101.out 4).trans rfl; have hfz8_0 := blk_frozen BK101.out 0; have hfz8_1 := blk_frozen BK101.out 1; have hfz8_2 := blk_frozen BK101.out 2; have hfz8_3 := blk_frozen BK101.out 3; have hfz8_4 := blk_frozen BK101.out 4) | ((with_reducible refine gate_dst (N := 26) rfl ?_); refine Kd.R_lit (Kd.int .u64) _ 22 ?hg (N := 26) ?hd (xs := ([a0_0, a0_1, a0_2, IntKind.u64.wrap ((l0_3.length : Int))] : List Int)) (inner := [.int .u64 a0_0, .int .u64 a0_1, .int .u64 a0_2, .int .u64 (IntKind.u64.wrap ((l0_3.length : Int)))]) (ok := fun _ => True) (okp := fun _ => True) ?hr ?hp (fun _ hk => hk) trivial (Below.refl _ _) (Nat.le_refl _) (by simp) ?_; (case hd => rfl); (case hg => rfl); (case hr => first | (go_simp; done) | (go_simp; rfl)); (case hp => exact (Reps.one (show Kd.M (Kd.int .u64) _ _ _ a0_0 [.int .u64 a0_0] from rfl) (Reps.one (show Kd.M (Kd.int .u64) _ _ _ a0_1 [.int .u64 a0_1] from rfl) (Reps.one (show Kd.M (Kd.int .u64) _ _ _ a0_2 [.int .u64 a0_2] from rfl) (Reps.one (show Kd.M (Kd.int .u64) _ _ _ (IntKind.u64.wrap ((l0_3.length : Int))) [.int .u64 (IntKind.u64.wrap ((l0_3.length : Int)))] from rfl) (Reps.none _ _)))))); intro v104 w9 ho10 hb hg_ hnew_; clear hg_ hnew_; (first | rw [← Ny103.out] at ho10 | (simp only [Int.reduceToNat] at ho10; rw [← Ny103.out] at ho10)); have n0_ := Aside0.mk (Kd.R_lower ho10 (below_size (by repeat (first | (with_reducible first | exact HB.out | apply below_alloc | apply pw_below_drewN | apply below_drew1 | refine below_set ?_ GE101.out) | exact HB.out)))); have n1_ := Aside0.mk (blk_below (g := gb101) (o := .cells #[.int .u64 a0_0, .int .u64 a0_1, .int .u64 a0_2, .slice A0_3 l0_3.length c0_3, .slice A0_4 l0_4.length c0_4] 26 (0, 0)) (by (with_reducible repeat (first | refine blk_drewN ?_ _ | refine blk_drew ?_ | refine blk_alloc ?_ _)); exact BK101.out) hb); have n2_ := Aside0.mk (below_step (by repeat (first | (with_reducible first | exact HB.out | apply below_alloc | apply pw_below_drewN | apply below_drew1 | refine below_set ?_ GE101.out) | exact HB.out)) hb); clear BK101; clear HB; have HO105 := n0_; have BK101 := n1_; have HB := n2_; clear n0_ n1_ n2_; clear hb ho10; obtain ⟨Ao11, co11, eo11⟩ := Kd.R_slice HO105.out; subst eo11) | ((with_reducible refine gate_callee (f := 51) rfl ?_); refine goesL_ (some 27) rfl rfl Tryd.func51 (by kernel_rfl) rfl #[.slice Ao11 y103.length co11] rfl (by (try simp only [List.map_toArray, List.map_cons, List.map_nil]); first | done | rfl | (simp only [List.length_drop, List.length_take]; rfl)) ?_; (with_reducible refine (edit_nums.calls k _ _ y103 t106 _ ?side1 ?side2 A4.out).mono ?_); (case side1 => repeat (first | exact (Kd.R_reads' HO105.out).2.2 | (with_reducible refine Kd.C_alloc ?_ _) | (with_reducible refine Kd.C_drewN ?_ _) | (with_reducible refine Kd.C_drew ?_))); (case side2 => exact (Kd.R_reads' HO105.out).2.1); rintro e w12 ⟨rfl, hb⟩; refine ⟨_, rfl, ?_⟩; have n0_ := Aside0.mk (Kd.R_below (by (with_reducible repeat (first | apply Kd.R_alloc | apply Kd.R_drewN | apply Kd.R_drew)); exact HO105.out) hb); have n1_ := Aside0.mk (blk_below (g := gb101) (o := .cells #[.int .u64 a0_0, .int .u64 a0_1, .int .u64 a0_2, .slice A0_3 l0_3.length c0_3, .slice A0_4 l0_4.length c0_4] 26 (0, 0)) (by (with_reducible repeat (first | refine blk_drewN ?_ _ | refine blk_drew ?_ | refine blk_alloc ?_ _)); exact BK101.out) hb); have n2_ := Aside0.mk (below_step (by repeat (first | (with_reducible first | exact HB.out | apply below_alloc | apply pw_below_drewN | apply below_drew1 | refine below_set ?_ GE101.out) | exact HB.out)) hb); clear HO105; clear BK101; clear HB; have HO105 := n0_; have BK101 := n1_; have HB := n2_; clear n0_ n1_ n2_; (try clear hb); (try clear hb2); (try clear hk); (try clear hi); have hcz13_0 : w12.cell? ⟨gb101, 0, none⟩ = some (.int .u64 a0_0) := (blk_cell BK101.out 0).trans rfl; have hcz13_1 : w12.cell? ⟨gb101, 1, none⟩ = some (.int .u64 a0_1) := (blk_cell BK101.out 1).trans rfl; have hcz13_2 : w12.cell? ⟨gb101, 2, none⟩ = some (.int .u64 a0_2) := (blk_cell BK101.out 2).trans rfl; have hcz13_3 : w12.cell? ⟨gb101, 3, none⟩ = some (.slice A0_3 l0_3.length c0_3) := (blk_cell BK101.out 3).trans rfl; have hcz13_4 : w12.cell? ⟨gb101, 4, none⟩ = some (.slice A0_4 l0_4.length c0_4) := (blk_cell BK101.out 4).trans rfl; have hfz13_0 := blk_frozen BK101.out 0; have hfz13_1 := blk_frozen BK101.out 1; have hfz13_2 := blk_frozen BK101.out 2; have hfz13_3 := blk_frozen BK101.out 3; have hfz13_4 := blk_frozen BK101.out 4))
    go_loopg [5, 31] k (fun kq v5 v31 w' => ∃ (x5_1 : ByteArray) (x31_1 : Int), v5 = .string x5_1 ∧ v31 = .int .i64 x31_1 ∧ Aside0 (edit_Edit_Bytes.l0 kq x5_1 l0_3 (l0_3.length : Int) x31_1 a0_0 a0_1 a0_2 l0_3 l0_4 = some (r1, r2)) ∧ Aside0 (kq ≤ k) ∧ Aside0 (w'.heap[gb101]? = some (.cells #[.int .u64 a0_0, .int .u64 a0_1, .int .u64 a0_2, (.slice A0_3 l0_3.length c0_3), (.slice A0_4 l0_4.length c0_4)] 26 (0, 0))) ∧ Aside0 (Below w.heap.size w w'))
    case atStart => exact ⟨(t106), (0), (by first | rfl | (simp; done) | (simp [*]; done)), (by first | rfl | (simp; done) | (simp [*]; done)), H', ⟨Nat.le_refl _⟩, ⟨by (with_reducible repeat (first | refine blk_drewN ?_ _ | refine blk_drew ?_ | refine blk_alloc ?_ _)); exact BK101.out⟩, ⟨by repeat (first | (with_reducible first | exact HB.out | apply below_alloc | apply pw_below_drewN | apply below_drew1 | refine below_set ?_ GE101.out) | exact HB.out)⟩⟩
    case round =>
      clear H'
      try clear c1
      try clear c2
      try clear p2
      try clear c3
      try clear c3b0
      try clear c3b1
      try clear c5
      try clear hcz13_0
      try clear hcz13_1
      try clear hcz13_2
      try clear hcz13_3
      try clear hcz13_4
      try clear hcz6_0
      try clear hcz6_1
      try clear hcz6_2
      try clear hcz6_3
      try clear hcz6_4
      try clear hcz8_0
      try clear hcz8_1
      try clear hcz8_2
      try clear hcz8_3
      try clear hcz8_4
      try clear hfz13_0
      try clear hfz13_1
      try clear hfz13_2
      try clear hfz13_3
      try clear hfz13_4
      try clear hfz6_0
      try clear hfz6_1
      try clear hfz6_2
      try clear hfz6_3
      try clear hfz6_4
      try clear hfz8_0
      try clear hfz8_1
      try clear hfz8_2
      try clear hfz8_3
      try clear hfz8_4
      obtain ⟨x5_1, x31_1, rfl, rfl, HA, HK1, BK101, HB⟩ := hrel
      cases gk with
      | zero => exact absurd HA.out (by simp [edit_Edit_Bytes.l0])
      | succ k1 =>
        have H := HA.out
        clear HA
        simp only [edit_Edit_Bytes.l0] at H
        by_cases c14 : x31_1 < (l0_3.length : Int)
        · rw [if_pos c14] at H
          have c14b0 : decide (x31_1 < (l0_3.length : Int)) = true := decide_eq_true c14
          clear c14
          by_cases c15 : 0 ≤ x31_1
          · rw [if_pos c15] at H
            have c15b0 : decide (0 ≤ x31_1) = true := decide_eq_true c15
            clear c15
            by_cases c16 : x31_1 < (l0_3.length : Int)
            · rw [if_pos c16] at H
              have c16b0 : decide (x31_1 < (l0_3.length : Int)) = true := decide_eq_true c16
              clear c16
              obtain ⟨y110, hy110⟩ : ∃ y_ : List Int, y_ = (([IntKind.u64.wrap ((rd_T107 l0_3 x31_1).f0), (rd_T107 l0_3 x31_1).f1.f0, (rd_T107 l0_3 x31_1).f1.f1, (rd_T107 l0_3 x31_1).f1.f2] : List Int)) := ⟨_, rfl⟩
              replace H : ((edit_nums.f k1 y110).bind fun t113 => ((varint_Text.f k1 ((rd_T107 l0_3 x31_1).f1.f3)).bind fun t114 => (if t113.size + t114.size ≤ 9223372036854775807 then ((varint_Text.f k1 ((rd_T107 l0_3 x31_1).f1.f4)).bind fun t115 => (if (t113 ++ t114).size + t115.size ≤ 9223372036854775807 then (if x5_1.size + ((t113 ++ t114) ++ t115).size ≤ 9223372036854775807 then (edit_Edit_Bytes.l0 k1 (x5_1 ++ ((t113 ++ t114) ++ t115)) l0_3 (l0_3.length : Int) (wrap64 (x31_1 + 1)) a0_0 a0_1 a0_2 l0_3 l0_4) else (none)) else (none))) else (none)))) = some (r1, r2) := by first | (rw [hy110]; with_reducible exact H) | (have H2_ := (Option.bind_some _ _).symm.trans H; rw [hy110]; with_reducible exact H2_) | (have H2_ := (Option.bind_some _ _).symm.trans H; with_reducible exact H2_) | with_reducible exact H | (rw [hy110]; exact H) | exact H
              have Ny110 := Aside0.mk hy110
              clear hy110
              replace H := Option.bind_eq_some_iff.mp H
              obtain ⟨t113, A170, H⟩ := H
              replace H : ((varint_Text.f k1 ((rd_T107 l0_3 x31_1).f1.f3)).bind fun t114 => (if t113.size + t114.size ≤ 9223372036854775807 then ((varint_Text.f k1 ((rd_T107 l0_3 x31_1).f1.f4)).bind fun t115 => (if (t113 ++ t114).size + t115.size ≤ 9223372036854775807 then (if x5_1.size + ((t113 ++ t114) ++ t115).size ≤ 9223372036854775807 then (edit_Edit_Bytes.l0 k1 (x5_1 ++ ((t113 ++ t114) ++ t115)) l0_3 (l0_3.length : Int) (wrap64 (x31_1 + 1)) a0_0 a0_1 a0_2 l0_3 l0_4) else (none)) else (none))) else (none))) = some (r1, r2) := H
              have A17 := Aside0.mk A170
              clear A170
              replace H := Option.bind_eq_some_iff.mp H
              obtain ⟨t114, A180, H⟩ := H
              replace H : (if t113.size + t114.size ≤ 9223372036854775807 then ((varint_Text.f k1 ((rd_T107 l0_3 x31_1).f1.f4)).bind fun t115 => (if (t113 ++ t114).size + t115.size ≤ 9223372036854775807 then (if x5_1.size + ((t113 ++ t114) ++ t115).size ≤ 9223372036854775807 then (edit_Edit_Bytes.l0 k1 (x5_1 ++ ((t113 ++ t114) ++ t115)) l0_3 (l0_3.length : Int) (wrap64 (x31_1 + 1)) a0_0 a0_1 a0_2 l0_3 l0_4) else (none)) else (none))) else (none)) = some (r1, r2) := H
              have A18 := Aside0.mk A180
              clear A180
              by_cases c19 : t113.size + t114.size ≤ 9223372036854775807
              · rw [if_pos c19] at H
                have c19b0 := eq_true c19
                have c19b1 : decide (t113.size + t114.size ≤ 9223372036854775807) = true := decide_eq_true c19
                try have c19b2 : (9223372036854775807 < t113.size + t114.size) = False := eq_false (Nat.not_lt.2 c19)
                replace H := Option.bind_eq_some_iff.mp H
                obtain ⟨t115, A200, H⟩ := H
                replace H : (if (t113 ++ t114).size + t115.size ≤ 9223372036854775807 then (if x5_1.size + ((t113 ++ t114) ++ t115).size ≤ 9223372036854775807 then (edit_Edit_Bytes.l0 k1 (x5_1 ++ ((t113 ++ t114) ++ t115)) l0_3 (l0_3.length : Int) (wrap64 (x31_1 + 1)) a0_0 a0_1 a0_2 l0_3 l0_4) else (none)) else (none)) = some (r1, r2) := H
                have A20 := Aside0.mk A200
                clear A200
                by_cases c21 : (t113 ++ t114).size + t115.size ≤ 9223372036854775807
                · rw [if_pos c21] at H
                  have c21b0 := eq_true c21
                  have c21b1 : decide ((t113 ++ t114).size + t115.size ≤ 9223372036854775807) = true := decide_eq_true c21
                  try have c21b2 : (9223372036854775807 < (t113 ++ t114).size + t115.size) = False := eq_false (Nat.not_lt.2 c21)
                  try (have c21b3 := c21b2; simp only [ByteArray.size_append'] at c21b3)
                  by_cases c22 : x5_1.size + ((t113 ++ t114) ++ t115).size ≤ 9223372036854775807
                  · rw [if_pos c22] at H
                    have c22b0 := eq_true c22
                    have c22b1 : decide (x5_1.size + ((t113 ++ t114) ++ t115).size ≤ 9223372036854775807) = true := decide_eq_true c22
                    try have c22b2 : (9223372036854775807 < x5_1.size + ((t113 ++ t114) ++ t115).size) = False := eq_false (Nat.not_lt.2 c22)
                    try (have c22b3 := c22b2; simp only [ByteArray.size_append'] at c22b3)
                    have H' := Aside0.mk H
                    clear H
                    have p107 : 0 ≤ (x31_1 : Int) := of_decide_eq_true (by first | (with_reducible assumption) | assumption)
                    have q107 : x31_1 < (l0_3.length : Int) := of_decide_eq_true (by first | (with_reducible assumption) | assumption)
                    obtain ⟨ad107, e107, hx107_0, hx107_1, hx107_2, hx107_3, hx107_4, hx107_5⟩ := at_T107 HR0_3.out x31_1 p107 q107
                    cases e107
                    replace hx107_0 := (HB.out.cell (World.block_lt_of_cell? w _ hx107_0)).trans hx107_0
                    replace hx107_1 := (HB.out.cell (World.block_lt_of_cell? w _ hx107_1)).trans hx107_1
                    replace hx107_2 := (HB.out.cell (World.block_lt_of_cell? w _ hx107_2)).trans hx107_2
                    replace hx107_3 := (HB.out.cell (World.block_lt_of_cell? w _ hx107_3)).trans hx107_3
                    replace hx107_4 := (HB.out.cell (World.block_lt_of_cell? w _ hx107_4)).trans hx107_4
                    replace hx107_5 := (HB.out.cell (World.block_lt_of_cell? w _ hx107_5)).trans hx107_5
                    replace p107 := eq_true p107
                    replace q107 := eq_true q107
                    try go_wp2_with (first | ((with_reducible refine gate_dst (N := 7) rfl ?_); refine box_event ?hg (N := 7) ?hd (cs := #[.int .i64 0, .int .u64 0, .int .u64 0, .int .u64 0, .string (⟨#[]⟩ : ByteArray), .string (⟨#[]⟩ : ByteArray)]) (t := 107) ?hr ?_; (case hd => rfl); (case hg => rfl); (case hr => first | (go_simp; done) | (go_simp; rfl)); intro gb108 hg w23 hbox hb; have n0_ := Aside0.mk (blk_below (g := gb101) (o := .cells #[.int .u64 a0_0, .int .u64 a0_1, .int .u64 a0_2, .slice (some ad107) l0_3.length c0_3, .slice A0_4 l0_4.length c0_4] 26 (0, 0)) (by (with_reducible repeat (first | refine blk_drewN ?_ _ | refine blk_drew ?_ | refine blk_alloc ?_ _)); exact BK101.out) hb); have n1_ := Aside0.mk (below_step (by repeat (first | (with_reducible first | exact HB.out | apply below_alloc | apply pw_below_drewN | apply below_drew1 | refine below_set ?_ GE101.out) | exact HB.out)) hb); have n2_ := Aside0.mk (hbox); have n3_ := Aside0.mk ((by rw [hg]; exact (below_size (by repeat (first | (with_reducible first | exact HB.out | apply below_alloc | apply pw_below_drewN | apply below_drew1 | refine below_set ?_ GE101.out) | exact HB.out))) : w.heap.size ≤ gb108)); have n4_ := Aside0.mk ((by rw [hg]; exact (below_size (by repeat (first | (with_reducible first | exact HB.out | apply below_alloc | apply pw_below_drewN | apply below_drew1 | refine below_set ?_ GE101.out) | exact HB.out))) : w.heap.size ≤ gb108)); have n5_ := Aside0.mk ((by rw [hg]; exact Nat.ne_of_lt (blk_lt (g := gb101) (o := .cells #[.int .u64 a0_0, .int .u64 a0_1, .int .u64 a0_2, .slice (some ad107) l0_3.length c0_3, .slice A0_4 l0_4.length c0_4] 26 (0, 0)) (by (with_reducible repeat (first | refine blk_drewN ?_ _ | refine blk_drew ?_ | refine blk_alloc ?_ _)); exact BK101.out)) : gb101 ≠ gb108)); have n6_ := Aside0.mk ((by rw [hg]; exact Nat.ne_of_gt (blk_lt (g := gb101) (o := .cells #[.int .u64 a0_0, .int .u64 a0_1, .int .u64 a0_2, .slice (some ad107) l0_3.length c0_3, .slice A0_4 l0_4.length c0_4] 26 (0, 0)) (by (with_reducible repeat (first | refine blk_drewN ?_ _ | refine blk_drew ?_ | refine blk_alloc ?_ _)); exact BK101.out)) : gb108 ≠ gb101)); clear BK101; clear HB; have BK101 := n0_; have HB := n1_; have BK108 := n2_; have GW108 := n3_; have GE108 := n4_; have NB101_108 := n5_; have NB108_101 := n6_; clear n0_ n1_ n2_ n3_ n4_ n5_ n6_; clear hb hbox hg; have hnb24 := NB108_101.out; have hnc24 := NB101_108.out; have hcz25_0 : w23.cell? ⟨gb108, 0, none⟩ = some (.int .i64 0) := (blk_cell BK108.out 0).trans rfl; have hcz25_1 : w23.cell? ⟨gb108, 1, none⟩ = some (.int .u64 0) := (blk_cell BK108.out 1).trans rfl; have hcz25_2 : w23.cell? ⟨gb108, 2, none⟩ = some (.int .u64 0) := (blk_cell BK108.out 2).trans rfl; have hcz25_3 : w23.cell? ⟨gb108, 3, none⟩ = some (.int .u64 0) := (blk_cell BK108.out 3).trans rfl; have hcz25_4 : w23.cell? ⟨gb108, 4, none⟩ = some (.string (⟨#[]⟩ : ByteArray)) := (blk_cell BK108.out 4).trans rfl; have hcz25_5 : w23.cell? ⟨gb108, 5, none⟩ = some (.string (⟨#[]⟩ : ByteArray)) := (blk_cell BK108.out 5).trans rfl; have hfz25_0 := blk_frozen BK108.out 0; have hfz25_1 := blk_frozen BK108.out 1; have hfz25_2 := blk_frozen BK108.out 2; have hfz25_3 := blk_frozen BK108.out 3; have hfz25_4 := blk_frozen BK108.out 4; have hfz25_5 := blk_frozen BK108.out 5) | ((with_reducible refine gate_dst (N := 8) rfl ?_); refine box_event ?hg (N := 8) ?hd (cs := #[.int .u64 0, .int .u64 0, .int .u64 0, .string (⟨#[]⟩ : ByteArray), .string (⟨#[]⟩ : ByteArray)]) (t := 97) ?hr ?_; (case hd => rfl); (case hg => rfl); (case hr => first | (go_simp; done) | (go_simp; rfl)); intro gb109 hg w26 hbox hb; have n0_ := Aside0.mk (blk_below (g := gb101) (o := .cells #[.int .u64 a0_0, .int .u64 a0_1, .int .u64 a0_2, .slice (some ad107) l0_3.length c0_3, .slice A0_4 l0_4.length c0_4] 26 (0, 0)) (by (with_reducible repeat (first | refine blk_drewN ?_ _ | refine blk_drew ?_ | refine blk_alloc ?_ _)); refine blk_far ?_ NB101_108.out _; (with_reducible repeat (first | refine blk_drewN ?_ _ | refine blk_drew ?_ | refine blk_alloc ?_ _)); refine blk_far ?_ NB101_108.out _; (with_reducible repeat (first | refine blk_drewN ?_ _ | refine blk_drew ?_ | refine blk_alloc ?_ _)); refine blk_far ?_ NB101_108.out _; (with_reducible repeat (first | refine blk_drewN ?_ _ | refine blk_drew ?_ | refine blk_alloc ?_ _)); refine blk_far ?_ NB101_108.out _; (with_reducible repeat (first | refine blk_drewN ?_ _ | refine blk_drew ?_ | refine blk_alloc ?_ _)); refine blk_far ?_ NB101_108.out _; (with_reducible repeat (first | refine blk_drewN ?_ _ | refine blk_drew ?_ | refine blk_alloc ?_ _)); refine blk_far ?_ NB101_108.out _; (with_reducible repeat (first | refine blk_drewN ?_ _ | refine blk_drew ?_ | refine blk_alloc ?_ _)); exact BK101.out) hb); have n1_ := Aside0.mk (blk_below (g := gb108) (o := .cells #[.int .i64 ((rd_T107 l0_3 x31_1).f0), .int .u64 ((rd_T107 l0_3 x31_1).f1.f0), .int .u64 ((rd_T107 l0_3 x31_1).f1.f1), .int .u64 ((rd_T107 l0_3 x31_1).f1.f2), .string ((rd_T107 l0_3 x31_1).f1.f3), .string ((rd_T107 l0_3 x31_1).f1.f4)] 107 (0, 0)) (by (with_reducible repeat (first | refine blk_drewN ?_ _ | refine blk_drew ?_ | refine blk_alloc ?_ _)); refine blk_put (cs := #[.int .i64 ((rd_T107 l0_3 x31_1).f0), .int .u64 ((rd_T107 l0_3 x31_1).f1.f0), .int .u64 ((rd_T107 l0_3 x31_1).f1.f1), .int .u64 ((rd_T107 l0_3 x31_1).f1.f2), .string ((rd_T107 l0_3 x31_1).f1.f3), .string (⟨#[]⟩ : ByteArray)]) ?_ 5 _ rfl; (with_reducible repeat (first | refine blk_drewN ?_ _ | refine blk_drew ?_ | refine blk_alloc ?_ _)); refine blk_put (cs := #[.int .i64 ((rd_T107 l0_3 x31_1).f0), .int .u64 ((rd_T107 l0_3 x31_1).f1.f0), .int .u64 ((rd_T107 l0_3 x31_1).f1.f1), .int .u64 ((rd_T107 l0_3 x31_1).f1.f2), .string (⟨#[]⟩ : ByteArray), .string (⟨#[]⟩ : ByteArray)]) ?_ 4 _ rfl; (with_reducible repeat (first | refine blk_drewN ?_ _ | refine blk_drew ?_ | refine blk_alloc ?_ _)); refine blk_put (cs := #[.int .i64 ((rd_T107 l0_3 x31_1).f0), .int .u64 ((rd_T107 l0_3 x31_1).f1.f0), .int .u64 ((rd_T107 l0_3 x31_1).f1.f1), .int .u64 0, .string (⟨#[]⟩ : ByteArray), .string (⟨#[]⟩ : ByteArray)]) ?_ 3 _ rfl; (with_reducible repeat (first | refine blk_drewN ?_ _ | refine blk_drew ?_ | refine blk_alloc ?_ _)); refine blk_put (cs := #[.int .i64 ((rd_T107 l0_3 x31_1).f0), .int .u64 ((rd_T107 l0_3 x31_1).f1.f0), .int .u64 0, .int .u64 0, .string (⟨#[]⟩ : ByteArray), .string (⟨#[]⟩ : ByteArray)]) ?_ 2 _ rfl; (with_reducible repeat (first | refine blk_drewN ?_ _ | refine blk_drew ?_ | refine blk_alloc ?_ _)); refine blk_put (cs := #[.int .i64 ((rd_T107 l0_3 x31_1).f0), .int .u64 0, .int .u64 0, .int .u64 0, .string (⟨#[]⟩ : ByteArray), .string (⟨#[]⟩ : ByteArray)]) ?_ 1 _ rfl; (with_reducible repeat (first | refine blk_drewN ?_ _ | refine blk_drew ?_ | refine blk_alloc ?_ _)); refine blk_put (cs := #[.int .i64 0, .int .u64 0, .int .u64 0, .int .u64 0, .string (⟨#[]⟩ : ByteArray), .string (⟨#[]⟩ : ByteArray)]) ?_ 0 _ rfl; (with_reducible repeat (first | refine blk_drewN ?_ _ | refine blk_drew ?_ | refine blk_alloc ?_ _)); exact BK108.out) hb); have n2_ := Aside0.mk (below_step (by repeat (first | (with_reducible first | exact HB.out | apply below_alloc | apply pw_below_drewN | apply below_drew1 | refine below_set ?_ GE101.out | refine below_set ?_ GE108.out) | exact HB.out)) hb); have n3_ := Aside0.mk (hbox); have n4_ := Aside0.mk ((by rw [hg]; exact (below_size (by repeat (first | (with_reducible first | exact HB.out | apply below_alloc | apply pw_below_drewN | apply below_drew1 | refine below_set ?_ GE101.out | refine below_set ?_ GE108.out) | exact HB.out))) : w.heap.size ≤ gb109)); have n5_ := Aside0.mk ((by rw [hg]; exact (below_size (by repeat (first | (with_reducible first | exact HB.out | apply below_alloc | apply pw_below_drewN | apply below_drew1 | refine below_set ?_ GE101.out | refine below_set ?_ GE108.out) | exact HB.out))) : w.heap.size ≤ gb109)); have n6_ := Aside0.mk ((by rw [hg]; exact Nat.ne_of_lt (blk_lt (g := gb101) (o := .cells #[.int .u64 a0_0, .int .u64 a0_1, .int .u64 a0_2, .slice (some ad107) l0_3.length c0_3, .slice A0_4 l0_4.length c0_4] 26 (0, 0)) (by (with_reducible repeat (first | refine blk_drewN ?_ _ | refine blk_drew ?_ | refine blk_alloc ?_ _)); refine blk_far ?_ NB101_108.out _; (with_reducible repeat (first | refine blk_drewN ?_ _ | refine blk_drew ?_ | refine blk_alloc ?_ _)); refine blk_far ?_ NB101_108.out _; (with_reducible repeat (first | refine blk_drewN ?_ _ | refine blk_drew ?_ | refine blk_alloc ?_ _)); refine blk_far ?_ NB101_108.out _; (with_reducible repeat (first | refine blk_drewN ?_ _ | refine blk_drew ?_ | refine blk_alloc ?_ _)); refine blk_far ?_ NB101_108.out _; (with_reducible repeat (first | refine blk_drewN ?_ _ | refine blk_drew ?_ | refine blk_alloc ?_ _)); refine blk_far ?_ NB101_108.out _; (with_reducible repeat (first | refine blk_drewN ?_ _ | refine blk_drew ?_ | refine blk_alloc ?_ _)); refine blk_far ?_ NB101_108.out _; (with_reducible repeat (first | refine blk_drewN ?_ _ | refine blk_drew ?_ | refine blk_alloc ?_ _)); exact BK101.out)) : gb101 ≠ gb109)); have n7_ := Aside0.mk ((by rw [hg]; exact Nat.ne_of_gt (blk_lt (g := gb101) (o := .cells #[.int .u64 a0_0, .int .u64 a0_1, .int .u64 a0_2, .slice (some ad107) l0_3.length c0_3, .slice A0_4 l0_4.length c0_4] 26 (0, 0)) (by (with_reducible repeat (first | refine blk_drewN ?_ _ | refine blk_drew ?_ | refine blk_alloc ?_ _)); refine blk_far ?_ NB101_108.out _; (with_reducible repeat (first | refine blk_drewN ?_ _ | refine blk_drew ?_ | refine blk_alloc ?_ _)); refine blk_far ?_ NB101_108.out _; (with_reducible repeat (first | refine blk_drewN ?_ _ | refine blk_drew ?_ | refine blk_alloc ?_ _)); refine blk_far ?_ NB101_108.out _; (with_reducible repeat (first | refine blk_drewN ?_ _ | refine blk_drew ?_ | refine blk_alloc ?_ _)); refine blk_far ?_ NB101_108.out _; (with_reducible repeat (first | refine blk_drewN ?_ _ | refine blk_drew ?_ | refine blk_alloc ?_ _)); refine blk_far ?_ NB101_108.out _; (with_reducible repeat (first | refine blk_drewN ?_ _ | refine blk_drew ?_ | refine blk_alloc ?_ _)); refine blk_far ?_ NB101_108.out _; (with_reducible repeat (first | refine blk_drewN ?_ _ | refine blk_drew ?_ | refine blk_alloc ?_ _)); exact BK101.out)) : gb109 ≠ gb101)); have n8_ := Aside0.mk ((by rw [hg]; exact Nat.ne_of_lt (blk_lt (g := gb108) (o := .cells #[.int .i64 ((rd_T107 l0_3 x31_1).f0), .int .u64 ((rd_T107 l0_3 x31_1).f1.f0), .int .u64 ((rd_T107 l0_3 x31_1).f1.f1), .int .u64 ((rd_T107 l0_3 x31_1).f1.f2), .string ((rd_T107 l0_3 x31_1).f1.f3), .string ((rd_T107 l0_3 x31_1).f1.f4)] 107 (0, 0)) (by (with_reducible repeat (first | refine blk_drewN ?_ _ | refine blk_drew ?_ | refine blk_alloc ?_ _)); refine blk_put (cs := #[.int .i64 ((rd_T107 l0_3 x31_1).f0), .int .u64 ((rd_T107 l0_3 x31_1).f1.f0), .int .u64 ((rd_T107 l0_3 x31_1).f1.f1), .int .u64 ((rd_T107 l0_3 x31_1).f1.f2), .string ((rd_T107 l0_3 x31_1).f1.f3), .string (⟨#[]⟩ : ByteArray)]) ?_ 5 _ rfl; (with_reducible repeat (first | refine blk_drewN ?_ _ | refine blk_drew ?_ | refine blk_alloc ?_ _)); refine blk_put (cs := #[.int .i64 ((rd_T107 l0_3 x31_1).f0), .int .u64 ((rd_T107 l0_3 x31_1).f1.f0), .int .u64 ((rd_T107 l0_3 x31_1).f1.f1), .int .u64 ((rd_T107 l0_3 x31_1).f1.f2), .string (⟨#[]⟩ : ByteArray), .string (⟨#[]⟩ : ByteArray)]) ?_ 4 _ rfl; (with_reducible repeat (first | refine blk_drewN ?_ _ | refine blk_drew ?_ | refine blk_alloc ?_ _)); refine blk_put (cs := #[.int .i64 ((rd_T107 l0_3 x31_1).f0), .int .u64 ((rd_T107 l0_3 x31_1).f1.f0), .int .u64 ((rd_T107 l0_3 x31_1).f1.f1), .int .u64 0, .string (⟨#[]⟩ : ByteArray), .string (⟨#[]⟩ : ByteArray)]) ?_ 3 _ rfl; (with_reducible repeat (first | refine blk_drewN ?_ _ | refine blk_drew ?_ | refine blk_alloc ?_ _)); refine blk_put (cs := #[.int .i64 ((rd_T107 l0_3 x31_1).f0), .int .u64 ((rd_T107 l0_3 x31_1).f1.f0), .int .u64 0, .int .u64 0, .string (⟨#[]⟩ : ByteArray), .string (⟨#[]⟩ : ByteArray)]) ?_ 2 _ rfl; (with_reducible repeat (first | refine blk_drewN ?_ _ | refine blk_drew ?_ | refine blk_alloc ?_ _)); refine blk_put (cs := #[.int .i64 ((rd_T107 l0_3 x31_1).f0), .int .u64 0, .int .u64 0, .int .u64 0, .string (⟨#[]⟩ : ByteArray), .string (⟨#[]⟩ : ByteArray)]) ?_ 1 _ rfl; (with_reducible repeat (first | refine blk_drewN ?_ _ | refine blk_drew ?_ | refine blk_alloc ?_ _)); refine blk_put (cs := #[.int .i64 0, .int .u64 0, .int .u64 0, .int .u64 0, .string (⟨#[]⟩ : ByteArray), .string (⟨#[]⟩ : ByteArray)]) ?_ 0 _ rfl; (with_reducible repeat (first | refine blk_drewN ?_ _ | refine blk_drew ?_ | refine blk_alloc ?_ _)); exact BK108.out)) : gb108 ≠ gb109)); have n9_ := Aside0.mk ((by rw [hg]; exact Nat.ne_of_gt (blk_lt (g := gb108) (o := .cells #[.int .i64 ((rd_T107 l0_3 x31_1).f0), .int .u64 ((rd_T107 l0_3 x31_1).f1.f0), .int .u64 ((rd_T107 l0_3 x31_1).f1.f1), .int .u64 ((rd_T107 l0_3 x31_1).f1.f2), .string ((rd_T107 l0_3 x31_1).f1.f3), .string ((rd_T107 l0_3 x31_1).f1.f4)] 107 (0, 0)) (by (with_reducible repeat (first | refine blk_drewN ?_ _ | refine blk_drew ?_ | refine blk_alloc ?_ _)); refine blk_put (cs := #[.int .i64 ((rd_T107 l0_3 x31_1).f0), .int .u64 ((rd_T107 l0_3 x31_1).f1.f0), .int .u64 ((rd_T107 l0_3 x31_1).f1.f1), .int .u64 ((rd_T107 l0_3 x31_1).f1.f2), .string ((rd_T107 l0_3 x31_1).f1.f3), .string (⟨#[]⟩ : ByteArray)]) ?_ 5 _ rfl; (with_reducible repeat (first | refine blk_drewN ?_ _ | refine blk_drew ?_ | refine blk_alloc ?_ _)); refine blk_put (cs := #[.int .i64 ((rd_T107 l0_3 x31_1).f0), .int .u64 ((rd_T107 l0_3 x31_1).f1.f0), .int .u64 ((rd_T107 l0_3 x31_1).f1.f1), .int .u64 ((rd_T107 l0_3 x31_1).f1.f2), .string (⟨#[]⟩ : ByteArray), .string (⟨#[]⟩ : ByteArray)]) ?_ 4 _ rfl; (with_reducible repeat (first | refine blk_drewN ?_ _ | refine blk_drew ?_ | refine blk_alloc ?_ _)); refine blk_put (cs := #[.int .i64 ((rd_T107 l0_3 x31_1).f0), .int .u64 ((rd_T107 l0_3 x31_1).f1.f0), .int .u64 ((rd_T107 l0_3 x31_1).f1.f1), .int .u64 0, .string (⟨#[]⟩ : ByteArray), .string (⟨#[]⟩ : ByteArray)]) ?_ 3 _ rfl; (with_reducible repeat (first | refine blk_drewN ?_ _ | refine blk_drew ?_ | refine blk_alloc ?_ _)); refine blk_put (cs := #[.int .i64 ((rd_T107 l0_3 x31_1).f0), .int .u64 ((rd_T107 l0_3 x31_1).f1.f0), .int .u64 0, .int .u64 0, .string (⟨#[]⟩ : ByteArray), .string (⟨#[]⟩ : ByteArray)]) ?_ 2 _ rfl; (with_reducible repeat (first | refine blk_drewN ?_ _ | refine blk_drew ?_ | refine blk_alloc ?_ _)); refine blk_put (cs := #[.int .i64 ((rd_T107 l0_3 x31_1).f0), .int .u64 0, .int .u64 0, .int .u64 0, .string (⟨#[]⟩ : ByteArray), .string (⟨#[]⟩ : ByteArray)]) ?_ 1 _ rfl; (with_reducible repeat (first | refine blk_drewN ?_ _ | refine blk_drew ?_ | refine blk_alloc ?_ _)); refine blk_put (cs := #[.int .i64 0, .int .u64 0, .int .u64 0, .int .u64 0, .string (⟨#[]⟩ : ByteArray), .string (⟨#[]⟩ : ByteArray)]) ?_ 0 _ rfl; (with_reducible repeat (first | refine blk_drewN ?_ _ | refine blk_drew ?_ | refine blk_alloc ?_ _)); exact BK108.out)) : gb109 ≠ gb108)); clear BK101; clear BK108; clear HB; have BK101 := n0_; have BK108 := n1_; have HB := n2_; have BK109 := n3_; have GW109 := n4_; have GE109 := n5_; have NB101_109 := n6_; have NB109_101 := n7_; have NB108_109 := n8_; have NB109_108 := n9_; clear n0_ n1_ n2_ n3_ n4_ n5_ n6_ n7_ n8_ n9_; clear hb hbox hg; have hnb27 := NB109_101.out; have hnc27 := NB101_109.out; have hnb28 := NB109_108.out; have hnc28 := NB108_109.out; have hcz29_0 : w26.cell? ⟨gb109, 0, none⟩ = some (.int .u64 0) := (blk_cell BK109.out 0).trans rfl; have hcz29_1 : w26.cell? ⟨gb109, 1, none⟩ = some (.int .u64 0) := (blk_cell BK109.out 1).trans rfl; have hcz29_2 : w26.cell? ⟨gb109, 2, none⟩ = some (.int .u64 0) := (blk_cell BK109.out 2).trans rfl; have hcz29_3 : w26.cell? ⟨gb109, 3, none⟩ = some (.string (⟨#[]⟩ : ByteArray)) := (blk_cell BK109.out 3).trans rfl; have hcz29_4 : w26.cell? ⟨gb109, 4, none⟩ = some (.string (⟨#[]⟩ : ByteArray)) := (blk_cell BK109.out 4).trans rfl; have hfz29_0 := blk_frozen BK109.out 0; have hfz29_1 := blk_frozen BK109.out 1; have hfz29_2 := blk_frozen BK109.out 2; have hfz29_3 := blk_frozen BK109.out 3; have hfz29_4 := blk_frozen BK109.out 4))
                    have n0_ : Aside0 ((((((w26.setCell ⟨gb109, 0, none⟩ (.int .u64 ((rd_T107 l0_3 x31_1).f1.f0))).setCell ⟨gb109, 1, none⟩ (.int .u64 ((rd_T107 l0_3 x31_1).f1.f1))).setCell ⟨gb109, 2, none⟩ (.int .u64 ((rd_T107 l0_3 x31_1).f1.f2))).setCell ⟨gb109, 3, none⟩ (.string ((rd_T107 l0_3 x31_1).f1.f3))).setCell ⟨gb109, 4, none⟩ (.string ((rd_T107 l0_3 x31_1).f1.f4))).heap[gb101]? = some (.cells #[.int .u64 a0_0, .int .u64 a0_1, .int .u64 a0_2, .slice (some ad107) l0_3.length c0_3, .slice A0_4 l0_4.length c0_4] 26 (0, 0))) := ⟨by (with_reducible repeat (first | refine blk_drewN ?_ _ | refine blk_drew ?_ | refine blk_alloc ?_ _)); refine blk_far ?_ NB101_109.out _; (with_reducible repeat (first | refine blk_drewN ?_ _ | refine blk_drew ?_ | refine blk_alloc ?_ _)); refine blk_far ?_ NB101_109.out _; (with_reducible repeat (first | refine blk_drewN ?_ _ | refine blk_drew ?_ | refine blk_alloc ?_ _)); refine blk_far ?_ NB101_109.out _; (with_reducible repeat (first | refine blk_drewN ?_ _ | refine blk_drew ?_ | refine blk_alloc ?_ _)); refine blk_far ?_ NB101_109.out _; (with_reducible repeat (first | refine blk_drewN ?_ _ | refine blk_drew ?_ | refine blk_alloc ?_ _)); refine blk_far ?_ NB101_109.out _; (with_reducible repeat (first | refine blk_drewN ?_ _ | refine blk_drew ?_ | refine blk_alloc ?_ _)); exact BK101.out⟩
                    have n1_ : Aside0 ((((((w26.setCell ⟨gb109, 0, none⟩ (.int .u64 ((rd_T107 l0_3 x31_1).f1.f0))).setCell ⟨gb109, 1, none⟩ (.int .u64 ((rd_T107 l0_3 x31_1).f1.f1))).setCell ⟨gb109, 2, none⟩ (.int .u64 ((rd_T107 l0_3 x31_1).f1.f2))).setCell ⟨gb109, 3, none⟩ (.string ((rd_T107 l0_3 x31_1).f1.f3))).setCell ⟨gb109, 4, none⟩ (.string ((rd_T107 l0_3 x31_1).f1.f4))).heap[gb108]? = some (.cells #[.int .i64 ((rd_T107 l0_3 x31_1).f0), .int .u64 ((rd_T107 l0_3 x31_1).f1.f0), .int .u64 ((rd_T107 l0_3 x31_1).f1.f1), .int .u64 ((rd_T107 l0_3 x31_1).f1.f2), .string ((rd_T107 l0_3 x31_1).f1.f3), .string ((rd_T107 l0_3 x31_1).f1.f4)] 107 (0, 0))) := ⟨by (with_reducible repeat (first | refine blk_drewN ?_ _ | refine blk_drew ?_ | refine blk_alloc ?_ _)); refine blk_far ?_ NB108_109.out _; (with_reducible repeat (first | refine blk_drewN ?_ _ | refine blk_drew ?_ | refine blk_alloc ?_ _)); refine blk_far ?_ NB108_109.out _; (with_reducible repeat (first | refine blk_drewN ?_ _ | refine blk_drew ?_ | refine blk_alloc ?_ _)); refine blk_far ?_ NB108_109.out _; (with_reducible repeat (first | refine blk_drewN ?_ _ | refine blk_drew ?_ | refine blk_alloc ?_ _)); refine blk_far ?_ NB108_109.out _; (with_reducible repeat (first | refine blk_drewN ?_ _ | refine blk_drew ?_ | refine blk_alloc ?_ _)); refine blk_far ?_ NB108_109.out _; (with_reducible repeat (first | refine blk_drewN ?_ _ | refine blk_drew ?_ | refine blk_alloc ?_ _)); exact BK108.out⟩
                    have n2_ : Aside0 ((((((w26.setCell ⟨gb109, 0, none⟩ (.int .u64 ((rd_T107 l0_3 x31_1).f1.f0))).setCell ⟨gb109, 1, none⟩ (.int .u64 ((rd_T107 l0_3 x31_1).f1.f1))).setCell ⟨gb109, 2, none⟩ (.int .u64 ((rd_T107 l0_3 x31_1).f1.f2))).setCell ⟨gb109, 3, none⟩ (.string ((rd_T107 l0_3 x31_1).f1.f3))).setCell ⟨gb109, 4, none⟩ (.string ((rd_T107 l0_3 x31_1).f1.f4))).heap[gb109]? = some (.cells #[.int .u64 ((rd_T107 l0_3 x31_1).f1.f0), .int .u64 ((rd_T107 l0_3 x31_1).f1.f1), .int .u64 ((rd_T107 l0_3 x31_1).f1.f2), .string ((rd_T107 l0_3 x31_1).f1.f3), .string ((rd_T107 l0_3 x31_1).f1.f4)] 97 (0, 0))) := ⟨by (with_reducible repeat (first | refine blk_drewN ?_ _ | refine blk_drew ?_ | refine blk_alloc ?_ _)); refine blk_put (cs := #[.int .u64 ((rd_T107 l0_3 x31_1).f1.f0), .int .u64 ((rd_T107 l0_3 x31_1).f1.f1), .int .u64 ((rd_T107 l0_3 x31_1).f1.f2), .string ((rd_T107 l0_3 x31_1).f1.f3), .string (⟨#[]⟩ : ByteArray)]) ?_ 4 _ rfl; (with_reducible repeat (first | refine blk_drewN ?_ _ | refine blk_drew ?_ | refine blk_alloc ?_ _)); refine blk_put (cs := #[.int .u64 ((rd_T107 l0_3 x31_1).f1.f0), .int .u64 ((rd_T107 l0_3 x31_1).f1.f1), .int .u64 ((rd_T107 l0_3 x31_1).f1.f2), .string (⟨#[]⟩ : ByteArray), .string (⟨#[]⟩ : ByteArray)]) ?_ 3 _ rfl; (with_reducible repeat (first | refine blk_drewN ?_ _ | refine blk_drew ?_ | refine blk_alloc ?_ _)); refine blk_put (cs := #[.int .u64 ((rd_T107 l0_3 x31_1).f1.f0), .int .u64 ((rd_T107 l0_3 x31_1).f1.f1), .int .u64 0, .string (⟨#[]⟩ : ByteArray), .string (⟨#[]⟩ : ByteArray)]) ?_ 2 _ rfl; (with_reducible repeat (first | refine blk_drewN ?_ _ | refine blk_drew ?_ | refine blk_alloc ?_ _)); refine blk_put (cs := #[.int .u64 ((rd_T107 l0_3 x31_1).f1.f0), .int .u64 0, .int .u64 0, .string (⟨#[]⟩ : ByteArray), .string (⟨#[]⟩ : ByteArray)]) ?_ 1 _ rfl; (with_reducible repeat (first | refine blk_drewN ?_ _ | refine blk_drew ?_ | refine blk_alloc ?_ _)); refine blk_put (cs := #[.int .u64 0, .int .u64 0, .int .u64 0, .string (⟨#[]⟩ : ByteArray), .string (⟨#[]⟩ : ByteArray)]) ?_ 0 _ rfl; (with_reducible repeat (first | refine blk_drewN ?_ _ | refine blk_drew ?_ | refine blk_alloc ?_ _)); exact BK109.out⟩
                    have n3_ : Aside0 (Below w.heap.size w (((((w26.setCell ⟨gb109, 0, none⟩ (.int .u64 ((rd_T107 l0_3 x31_1).f1.f0))).setCell ⟨gb109, 1, none⟩ (.int .u64 ((rd_T107 l0_3 x31_1).f1.f1))).setCell ⟨gb109, 2, none⟩ (.int .u64 ((rd_T107 l0_3 x31_1).f1.f2))).setCell ⟨gb109, 3, none⟩ (.string ((rd_T107 l0_3 x31_1).f1.f3))).setCell ⟨gb109, 4, none⟩ (.string ((rd_T107 l0_3 x31_1).f1.f4)))) := ⟨by repeat (first | (with_reducible first | exact HB.out | apply below_alloc | apply pw_below_drewN | apply below_drew1 | refine below_set ?_ GE101.out | refine below_set ?_ GE108.out | refine below_set ?_ GE109.out) | exact HB.out)⟩
                    (try clear BK101)
                    (try clear BK108)
                    (try clear BK109)
                    (try clear HB)
                    generalize (((((w26.setCell ⟨gb109, 0, none⟩ (.int .u64 ((rd_T107 l0_3 x31_1).f1.f0))).setCell ⟨gb109, 1, none⟩ (.int .u64 ((rd_T107 l0_3 x31_1).f1.f1))).setCell ⟨gb109, 2, none⟩ (.int .u64 ((rd_T107 l0_3 x31_1).f1.f2))).setCell ⟨gb109, 3, none⟩ (.string ((rd_T107 l0_3 x31_1).f1.f3))).setCell ⟨gb109, 4, none⟩ (.string ((rd_T107 l0_3 x31_1).f1.f4))) = w30 at n0_ n1_ n2_ n3_ ⊢
                    have BK101 := n0_
                    have BK108 := n1_
                    have BK109 := n2_
                    have HB := n3_
                    clear n0_ n1_ n2_ n3_
                    have n0_ := Aside0.mk (blk_drew BK101.out)
                    have n1_ := Aside0.mk (blk_drew BK108.out)
                    have n2_ := Aside0.mk (blk_drew BK109.out)
                    have n3_ := Aside0.mk (below_drew1 HB.out)
                    clear BK101
                    clear BK108
                    clear BK109
                    clear HB
                    have BK101 := n0_
                    have BK108 := n1_
                    have BK109 := n2_
                    have HB := n3_
                    clear n0_ n1_ n2_ n3_
                    refine start_ (n := 22) (S := fun w' => w'.cell? ⟨gb108, 0, none⟩ = some (.int .i64 ((rd_T107 l0_3 x31_1).f0)) ∧ w'.cell? ⟨gb108, 1, none⟩ = some (.int .u64 ((rd_T107 l0_3 x31_1).f1.f0)) ∧ w'.cell? ⟨gb108, 2, none⟩ = some (.int .u64 ((rd_T107 l0_3 x31_1).f1.f1)) ∧ w'.cell? ⟨gb108, 3, none⟩ = some (.int .u64 ((rd_T107 l0_3 x31_1).f1.f2)) ∧ w'.cell? ⟨gb108, 4, none⟩ = some (.string ((rd_T107 l0_3 x31_1).f1.f3)) ∧ w'.cell? ⟨gb108, 5, none⟩ = some (.string ((rd_T107 l0_3 x31_1).f1.f4)) ∧ w'.cell? ⟨gb109, 0, none⟩ = some (.int .u64 ((rd_T107 l0_3 x31_1).f1.f0)) ∧ w'.cell? ⟨gb109, 1, none⟩ = some (.int .u64 ((rd_T107 l0_3 x31_1).f1.f1)) ∧ w'.cell? ⟨gb109, 2, none⟩ = some (.int .u64 ((rd_T107 l0_3 x31_1).f1.f2)) ∧ w'.cell? ⟨gb109, 3, none⟩ = some (.string ((rd_T107 l0_3 x31_1).f1.f3)) ∧ w'.cell? ⟨gb109, 4, none⟩ = some (.string ((rd_T107 l0_3 x31_1).f1.f4))) (ds := []) #[false, false, false, false, false, false, false, false, false, false, false, false, false, false, false, false, false, false, false, false, false, false] (by kernel_rfl) rfl rfl ⟨(blk_cell BK108.out 0).trans rfl, (blk_cell BK108.out 1).trans rfl, (blk_cell BK108.out 2).trans rfl, (blk_cell BK108.out 3).trans rfl, (blk_cell BK108.out 4).trans rfl, (blk_cell BK108.out 5).trans rfl, (blk_cell BK109.out 0).trans rfl, (blk_cell BK109.out 1).trans rfl, (blk_cell BK109.out 2).trans rfl, (blk_cell BK109.out 3).trans rfl, (blk_cell BK109.out 4).trans rfl⟩ (fun hHeld => ?_); refine with_tabW edit_Edit_Bytes.tab9 edit_Edit_Bytes.bits9 (fun HT_ HW_ => ?_)
                    generalize w30.drew = w31 at BK101 BK108 BK109 HB hHeld ⊢
                    refine pure_ (i := 0) (N := some 37) (v := ?_) (a' := ?_) #[true, false, false, false, false, false, false, false, false, false, false, false, false, false, false, false, false, false, false, false, false, false] rfl rfl (any_of HT_.out (by kernel_rfl)) (fun _ _ _ h => h) (Or.inl ⟨by rfl, ?_⟩) ?_ ?_
                    rotate_left
                    · intro w'
                      go_simp
                      with_reducible rfl
                    rotate_left
                    · simp only [Act.put, List.setIfInBounds_toArray, List.set_cons_zero, List.set_cons_succ, i64_w, i32_w]
                      rfl
                    refine pure_ (i := 1) (N := some 38) (v := ?_) (a' := ?_) #[true, true, false, false, false, false, false, false, false, false, false, false, false, false, false, false, false, false, false, false, false, false] rfl rfl (any_of HT_.out (by kernel_rfl)) (fun _ _ _ h => h) (Or.inl ⟨by rfl, ?_⟩) ?_ ?_
                    rotate_left
                    · intro w'
                      go_simp
                      with_reducible rfl
                    rotate_left
                    · simp only [Act.put, List.setIfInBounds_toArray, List.set_cons_zero, List.set_cons_succ, i64_w, i32_w]
                      rfl
                    refine pure_ (i := 4) (N := some 41) (v := ?_) (a' := ?_) #[true, true, false, false, true, false, false, false, false, false, false, false, false, false, false, false, false, false, false, false, false, false] rfl rfl (any_of HT_.out (by kernel_rfl)) (fun _ _ _ h => h) (Or.inl ⟨by rfl, ?_⟩) ?_ ?_
                    rotate_left
                    · intro w'
                      go_simp
                      with_reducible rfl
                    rotate_left
                    · simp only [Act.put, List.setIfInBounds_toArray, List.set_cons_zero, List.set_cons_succ, i64_w, i32_w]
                      rfl
                    refine pure_ (i := 6) (N := some 43) (v := ?_) (a' := ?_) #[true, true, false, false, true, false, true, false, false, false, false, false, false, false, false, false, false, false, false, false, false, false] rfl rfl (any_of HT_.out (by kernel_rfl)) (fun _ _ _ h => h) (Or.inl ⟨by rfl, ?_⟩) ?_ ?_
                    rotate_left
                    · intro w'
                      go_simp
                      with_reducible rfl
                    rotate_left
                    · simp only [Act.put, List.setIfInBounds_toArray, List.set_cons_zero, List.set_cons_succ, i64_w, i32_w]
                      rfl
                    refine pure_ (i := 8) (N := some 45) (v := ?_) (a' := ?_) #[true, true, false, false, true, false, true, false, true, false, false, false, false, false, false, false, false, false, false, false, false, false] rfl rfl (any_of HT_.out (by kernel_rfl)) (fun _ _ _ h => h) (Or.inl ⟨by rfl, ?_⟩) ?_ ?_
                    rotate_left
                    · intro w'
                      go_simp
                      with_reducible rfl
                    rotate_left
                    · simp only [Act.put, List.setIfInBounds_toArray, List.set_cons_zero, List.set_cons_succ, i64_w, i32_w]
                      rfl
                    refine pure_ (i := 12) (N := some 49) (v := ?_) (a' := ?_) #[true, true, false, false, true, false, true, false, true, false, false, false, true, false, false, false, false, false, false, false, false, false] rfl rfl (any_of HT_.out (by kernel_rfl)) (fun _ _ _ h => h) (Or.inl ⟨by rfl, ?_⟩) ?_ ?_
                    rotate_left
                    · intro w'
                      go_simp
                      with_reducible rfl
                    rotate_left
                    · simp only [Act.put, List.setIfInBounds_toArray, List.set_cons_zero, List.set_cons_succ, i64_w, i32_w]
                      rfl
                    refine pure_ (i := 16) (N := some 53) (v := ?_) (a' := ?_) #[true, true, false, false, true, false, true, false, true, false, false, false, true, false, false, false, true, false, false, false, false, false] rfl rfl (any_of HT_.out (by kernel_rfl)) (fun _ _ _ h => h) (Or.inl ⟨by rfl, ?_⟩) ?_ ?_
                    rotate_left
                    · intro w'
                      go_simp
                      with_reducible rfl
                    rotate_left
                    · simp only [Act.put, List.setIfInBounds_toArray, List.set_cons_zero, List.set_cons_succ, i64_w, i32_w]
                      rfl
                    refine take_ (i := 2) (N := some 39) (v := ?_) (a' := ?_) #[true, true, true, false, true, false, true, false, true, false, false, false, true, false, false, false, true, false, false, false, false, false] rfl rfl (take_ofW HT_.out HW_.out (by kernel_rfl)) (fun _ _ _ h => h) (Or.inl ⟨by rfl, ?_⟩) hHeld ?_ ?_
                    rotate_left
                    · rintro w' ⟨s0, s1, s2, s3, s4, s5, s6, s7, s8, s9, s10⟩
                      go_simp
                      with_reducible rfl
                    rotate_left
                    · simp only [Act.put, List.setIfInBounds_toArray, List.set_cons_zero, List.set_cons_succ, i64_w, i32_w]
                      rfl
                    refine pure_ (i := 3) (N := some 40) (v := ?_) (a' := ?_) #[true, true, true, true, true, false, true, false, true, false, false, false, true, false, false, false, true, false, false, false, false, false] rfl rfl (any_of HT_.out (by kernel_rfl)) (fun _ _ _ h => h) (Or.inl ⟨by rfl, ?_⟩) ?_ ?_
                    rotate_left
                    · intro w'
                      go_simp
                      with_reducible rfl
                    rotate_left
                    · simp only [Act.put, List.setIfInBounds_toArray, List.set_cons_zero, List.set_cons_succ, i64_w, i32_w]
                      rfl
                    refine take_ (i := 5) (N := some 42) (v := ?_) (a' := ?_) #[true, true, true, true, true, true, true, false, true, false, false, false, true, false, false, false, true, false, false, false, false, false] rfl rfl (take_ofW HT_.out HW_.out (by kernel_rfl)) (fun _ _ _ h => h) (Or.inl ⟨by rfl, ?_⟩) hHeld ?_ ?_
                    rotate_left
                    · rintro w' ⟨s0, s1, s2, s3, s4, s5, s6, s7, s8, s9, s10⟩
                      go_simp
                      with_reducible rfl
                    rotate_left
                    · simp only [Act.put, List.setIfInBounds_toArray, List.set_cons_zero, List.set_cons_succ, i64_w, i32_w]
                      rfl
                    refine take_ (i := 7) (N := some 44) (v := ?_) (a' := ?_) #[true, true, true, true, true, true, true, true, true, false, false, false, true, false, false, false, true, false, false, false, false, false] rfl rfl (take_ofW HT_.out HW_.out (by kernel_rfl)) (fun _ _ _ h => h) (Or.inl ⟨by rfl, ?_⟩) hHeld ?_ ?_
                    rotate_left
                    · rintro w' ⟨s0, s1, s2, s3, s4, s5, s6, s7, s8, s9, s10⟩
                      go_simp
                      with_reducible rfl
                    rotate_left
                    · simp only [Act.put, List.setIfInBounds_toArray, List.set_cons_zero, List.set_cons_succ, i64_w, i32_w]
                      rfl
                    refine take_ (i := 9) (N := some 46) (v := ?_) (a' := ?_) #[true, true, true, true, true, true, true, true, true, true, false, false, true, false, false, false, true, false, false, false, false, false] rfl rfl (take_ofW HT_.out HW_.out (by kernel_rfl)) (fun _ _ _ h => h) (Or.inl ⟨by rfl, ?_⟩) hHeld ?_ ?_
                    rotate_left
                    · rintro w' ⟨s0, s1, s2, s3, s4, s5, s6, s7, s8, s9, s10⟩
                      go_simp
                      with_reducible rfl
                    rotate_left
                    · simp only [Act.put, List.setIfInBounds_toArray, List.set_cons_zero, List.set_cons_succ, i64_w, i32_w]
                      rfl
                    refine take_ (i := 13) (N := some 50) (v := ?_) (a' := ?_) #[true, true, true, true, true, true, true, true, true, true, false, false, true, true, false, false, true, false, false, false, false, false] rfl rfl (take_ofW HT_.out HW_.out (by kernel_rfl)) (fun _ _ _ h => h) (Or.inl ⟨by rfl, ?_⟩) hHeld ?_ ?_
                    rotate_left
                    · rintro w' ⟨s0, s1, s2, s3, s4, s5, s6, s7, s8, s9, s10⟩
                      go_simp
                      with_reducible rfl
                    rotate_left
                    · simp only [Act.put, List.setIfInBounds_toArray, List.set_cons_zero, List.set_cons_succ, i64_w, i32_w]
                      rfl
                    refine take_ (i := 17) (N := some 54) (v := ?_) (a' := ?_) #[true, true, true, true, true, true, true, true, true, true, false, false, true, true, false, false, true, true, false, false, false, false] rfl rfl (take_ofW HT_.out HW_.out (by kernel_rfl)) (fun _ _ _ h => h) (Or.inl ⟨by rfl, ?_⟩) hHeld ?_ ?_
                    rotate_left
                    · rintro w' ⟨s0, s1, s2, s3, s4, s5, s6, s7, s8, s9, s10⟩
                      go_simp
                      with_reducible rfl
                    rotate_left
                    · simp only [Act.put, List.setIfInBounds_toArray, List.set_cons_zero, List.set_cons_succ, i64_w, i32_w]
                      rfl
                    refine one_ (i := 10) (N := some 47) #[true, true, true, true, true, true, true, true, true, true, true, false, true, true, false, false, true, true, false, false, false, false] rfl rfl (one_of HT_.out (by kernel_rfl)) (by decide) (fun K hK => ?_)
                    refine Kd.R_lit_step (Kd.int .u64) _ 22 ?hg (N := 47) ?hd (xs := ([IntKind.u64.wrap ((rd_T107 l0_3 x31_1).f0), (rd_T107 l0_3 x31_1).f1.f0, (rd_T107 l0_3 x31_1).f1.f1, (rd_T107 l0_3 x31_1).f1.f2] : List Int)) (inner := [.int .u64 (IntKind.u64.wrap ((rd_T107 l0_3 x31_1).f0)), .int .u64 ((rd_T107 l0_3 x31_1).f1.f0), .int .u64 ((rd_T107 l0_3 x31_1).f1.f1), .int .u64 ((rd_T107 l0_3 x31_1).f1.f2)]) (ok := fun _ => True) (okp := fun _ => True) ?hr ?hp (fun _ hk => hk) trivial (Below.refl _ _) (Nat.le_refl _) (by simp) ?_; (case hd => rfl); (case hg => rfl); (case hr => first | (go_simp; done) | (go_simp; rfl)); (case hp => exact (Reps.one (show Kd.M (Kd.int .u64) _ _ _ (IntKind.u64.wrap ((rd_T107 l0_3 x31_1).f0)) [.int .u64 (IntKind.u64.wrap ((rd_T107 l0_3 x31_1).f0))] from rfl) (Reps.one (show Kd.M (Kd.int .u64) _ _ _ ((rd_T107 l0_3 x31_1).f1.f0) [.int .u64 ((rd_T107 l0_3 x31_1).f1.f0)] from rfl) (Reps.one (show Kd.M (Kd.int .u64) _ _ _ ((rd_T107 l0_3 x31_1).f1.f1) [.int .u64 ((rd_T107 l0_3 x31_1).f1.f1)] from rfl) (Reps.one (show Kd.M (Kd.int .u64) _ _ _ ((rd_T107 l0_3 x31_1).f1.f2) [.int .u64 ((rd_T107 l0_3 x31_1).f1.f2)] from rfl) (Reps.none _ _))))))
                    intro v111 w32 ho33 hb hg_ hnew_
                    clear hg_ hnew_
                    (first | rw [← Ny110.out] at ho33 | (simp only [Int.reduceToNat] at ho33; rw [← Ny110.out] at ho33))
                    have n0_ := Aside0.mk (Kd.R_lower ho33 (below_size (by repeat (first | (with_reducible first | exact HB.out | apply below_alloc | apply pw_below_drewN | apply below_drew1 | refine below_set ?_ GE101.out | refine below_set ?_ GE108.out | refine below_set ?_ GE109.out) | exact HB.out))))
                    have n1_ := Aside0.mk (blk_below (g := gb101) (o := .cells #[.int .u64 a0_0, .int .u64 a0_1, .int .u64 a0_2, .slice (some ad107) l0_3.length c0_3, .slice A0_4 l0_4.length c0_4] 26 (0, 0)) (by (with_reducible repeat (first | refine blk_drewN ?_ _ | refine blk_drew ?_ | refine blk_alloc ?_ _)); exact BK101.out) hb)
                    have n2_ := Aside0.mk (blk_below (g := gb108) (o := .cells #[.int .i64 ((rd_T107 l0_3 x31_1).f0), .int .u64 ((rd_T107 l0_3 x31_1).f1.f0), .int .u64 ((rd_T107 l0_3 x31_1).f1.f1), .int .u64 ((rd_T107 l0_3 x31_1).f1.f2), .string ((rd_T107 l0_3 x31_1).f1.f3), .string ((rd_T107 l0_3 x31_1).f1.f4)] 107 (0, 0)) (by (with_reducible repeat (first | refine blk_drewN ?_ _ | refine blk_drew ?_ | refine blk_alloc ?_ _)); exact BK108.out) hb)
                    have n3_ := Aside0.mk (blk_below (g := gb109) (o := .cells #[.int .u64 ((rd_T107 l0_3 x31_1).f1.f0), .int .u64 ((rd_T107 l0_3 x31_1).f1.f1), .int .u64 ((rd_T107 l0_3 x31_1).f1.f2), .string ((rd_T107 l0_3 x31_1).f1.f3), .string ((rd_T107 l0_3 x31_1).f1.f4)] 97 (0, 0)) (by (with_reducible repeat (first | refine blk_drewN ?_ _ | refine blk_drew ?_ | refine blk_alloc ?_ _)); exact BK109.out) hb)
                    have n4_ := Aside0.mk (below_step (by repeat (first | (with_reducible first | exact HB.out | apply below_alloc | apply pw_below_drewN | apply below_drew1 | refine below_set ?_ GE101.out | refine below_set ?_ GE108.out | refine below_set ?_ GE109.out) | exact HB.out)) hb)
                    clear BK101
                    clear BK108
                    clear BK109
                    clear HB
                    have HO112 := n0_
                    have BK101 := n1_
                    have BK108 := n2_
                    have BK109 := n3_
                    have HB := n4_
                    clear n0_ n1_ n2_ n3_ n4_
                    clear hb ho33
                    obtain ⟨Ao34, co34, eo34⟩ := Kd.R_slice HO112.out
                    (first | subst eo34 | (injection eo34 with f1_ f2_ f3_; have f4_ := f1_.symm; have f5_ := f3_.symm; clear f1_ f2_ f3_; subst f4_; subst f5_))
                    refine hK.out _ _ ⟨(blk_cell BK108.out 0).trans rfl, (blk_cell BK108.out 1).trans rfl, (blk_cell BK108.out 2).trans rfl, (blk_cell BK108.out 3).trans rfl, (blk_cell BK108.out 4).trans rfl, (blk_cell BK108.out 5).trans rfl, (blk_cell BK109.out 0).trans rfl, (blk_cell BK109.out 1).trans rfl, (blk_cell BK109.out 2).trans rfl, (blk_cell BK109.out 3).trans rfl, (blk_cell BK109.out 4).trans rfl⟩ (fun hHeld => ?_)
                    clear hK K
                    refine norm_ (a' := ?_) ?_ ?_
                    rotate_left
                    · show Act.put _ (some 47) _ = _
                      simp only [Act.put, List.setIfInBounds_toArray, List.set_cons_zero, List.set_cons_succ, i64_w, i32_w]
                      rfl
                    refine one_ (i := 11) (N := some 48) #[true, true, true, true, true, true, true, true, true, true, true, true, true, true, false, false, true, true, false, false, false, false] rfl rfl (one_of HT_.out (by kernel_rfl)) (by decide) (fun K hK => ?_)
                    refine goes_ Tryd.func51 (by kernel_rfl) rfl #[.slice Ao34 y110.length co34] (by rfl) rfl rfl (by (try simp only [List.map_toArray, List.map_cons, List.map_nil]); first | done | rfl | (simp only [List.length_drop, List.length_take]; rfl)) ?_
                    with_reducible refine (edit_nums.calls k1 _ _ y110 t113 _ ?side1 ?side2 A17.out).mono ?_
                    (case side1 => repeat (first | exact (Kd.R_reads' HO112.out).2.2 | (with_reducible refine Kd.C_alloc ?_ _) | (with_reducible refine Kd.C_drewN ?_ _) | (with_reducible refine Kd.C_drew ?_)))
                    (case side2 => exact (Kd.R_reads' HO112.out).2.1)
                    rintro e w35 ⟨rfl, hb⟩
                    refine ⟨_, rfl, ?_⟩
                    have n0_ := Aside0.mk (Kd.R_below (by (with_reducible repeat (first | apply Kd.R_alloc | apply Kd.R_drewN | apply Kd.R_drew)); exact HO112.out) hb)
                    have n1_ := Aside0.mk (blk_below (g := gb101) (o := .cells #[.int .u64 a0_0, .int .u64 a0_1, .int .u64 a0_2, .slice (some ad107) l0_3.length c0_3, .slice A0_4 l0_4.length c0_4] 26 (0, 0)) (by (with_reducible repeat (first | refine blk_drewN ?_ _ | refine blk_drew ?_ | refine blk_alloc ?_ _)); exact BK101.out) hb)
                    have n2_ := Aside0.mk (blk_below (g := gb108) (o := .cells #[.int .i64 ((rd_T107 l0_3 x31_1).f0), .int .u64 ((rd_T107 l0_3 x31_1).f1.f0), .int .u64 ((rd_T107 l0_3 x31_1).f1.f1), .int .u64 ((rd_T107 l0_3 x31_1).f1.f2), .string ((rd_T107 l0_3 x31_1).f1.f3), .string ((rd_T107 l0_3 x31_1).f1.f4)] 107 (0, 0)) (by (with_reducible repeat (first | refine blk_drewN ?_ _ | refine blk_drew ?_ | refine blk_alloc ?_ _)); exact BK108.out) hb)
                    have n3_ := Aside0.mk (blk_below (g := gb109) (o := .cells #[.int .u64 ((rd_T107 l0_3 x31_1).f1.f0), .int .u64 ((rd_T107 l0_3 x31_1).f1.f1), .int .u64 ((rd_T107 l0_3 x31_1).f1.f2), .string ((rd_T107 l0_3 x31_1).f1.f3), .string ((rd_T107 l0_3 x31_1).f1.f4)] 97 (0, 0)) (by (with_reducible repeat (first | refine blk_drewN ?_ _ | refine blk_drew ?_ | refine blk_alloc ?_ _)); exact BK109.out) hb)
                    have n4_ := Aside0.mk (below_step (by repeat (first | (with_reducible first | exact HB.out | apply below_alloc | apply pw_below_drewN | apply below_drew1 | refine below_set ?_ GE101.out | refine below_set ?_ GE108.out | refine below_set ?_ GE109.out) | exact HB.out)) hb)
                    clear HO112
                    clear BK101
                    clear BK108
                    clear BK109
                    clear HB
                    have HO112 := n0_
                    have BK101 := n1_
                    have BK108 := n2_
                    have BK109 := n3_
                    have HB := n4_
                    clear n0_ n1_ n2_ n3_ n4_
                    (try clear hb)
                    (try clear hb2)
                    (try clear hk)
                    (try clear hi)
                    refine hK.out _ _ ⟨(blk_cell BK108.out 0).trans rfl, (blk_cell BK108.out 1).trans rfl, (blk_cell BK108.out 2).trans rfl, (blk_cell BK108.out 3).trans rfl, (blk_cell BK108.out 4).trans rfl, (blk_cell BK108.out 5).trans rfl, (blk_cell BK109.out 0).trans rfl, (blk_cell BK109.out 1).trans rfl, (blk_cell BK109.out 2).trans rfl, (blk_cell BK109.out 3).trans rfl, (blk_cell BK109.out 4).trans rfl⟩ (fun hHeld => ?_)
                    clear hK K
                    refine norm_ (a' := ?_) ?_ ?_
                    rotate_left
                    · show Act.put _ (some 48) _ = _
                      simp only [Act.put, List.setIfInBounds_toArray, List.set_cons_zero, List.set_cons_succ, i64_w, i32_w]
                      rfl
                    refine one_ (i := 14) (N := some 51) #[true, true, true, true, true, true, true, true, true, true, true, true, true, true, true, false, true, true, false, false, false, false] rfl rfl (one_of HT_.out (by kernel_rfl)) (by decide) (fun K hK => ?_)
                    refine goes_ Tryd.func52 (by kernel_rfl) rfl #[.string ((rd_T107 l0_3 x31_1).f1.f3)] (by rfl) rfl rfl (by (try simp only [List.map_toArray, List.map_cons, List.map_nil]); first | done | rfl | (simp only [List.length_drop, List.length_take]; rfl)) ?_
                    with_reducible refine (varint_Text.calls k1 ((rd_T107 l0_3 x31_1).f1.f3) t114 _ A18.out).mono ?_
                    rintro e w36 ⟨rfl, hb⟩
                    refine ⟨_, rfl, ?_⟩
                    have n0_ := Aside0.mk (Kd.R_below (by (with_reducible repeat (first | apply Kd.R_alloc | apply Kd.R_drewN | apply Kd.R_drew)); exact HO112.out) hb)
                    have n1_ := Aside0.mk (blk_below (g := gb101) (o := .cells #[.int .u64 a0_0, .int .u64 a0_1, .int .u64 a0_2, .slice (some ad107) l0_3.length c0_3, .slice A0_4 l0_4.length c0_4] 26 (0, 0)) (by (with_reducible repeat (first | refine blk_drewN ?_ _ | refine blk_drew ?_ | refine blk_alloc ?_ _)); exact BK101.out) hb)
                    have n2_ := Aside0.mk (blk_below (g := gb108) (o := .cells #[.int .i64 ((rd_T107 l0_3 x31_1).f0), .int .u64 ((rd_T107 l0_3 x31_1).f1.f0), .int .u64 ((rd_T107 l0_3 x31_1).f1.f1), .int .u64 ((rd_T107 l0_3 x31_1).f1.f2), .string ((rd_T107 l0_3 x31_1).f1.f3), .string ((rd_T107 l0_3 x31_1).f1.f4)] 107 (0, 0)) (by (with_reducible repeat (first | refine blk_drewN ?_ _ | refine blk_drew ?_ | refine blk_alloc ?_ _)); exact BK108.out) hb)
                    have n3_ := Aside0.mk (blk_below (g := gb109) (o := .cells #[.int .u64 ((rd_T107 l0_3 x31_1).f1.f0), .int .u64 ((rd_T107 l0_3 x31_1).f1.f1), .int .u64 ((rd_T107 l0_3 x31_1).f1.f2), .string ((rd_T107 l0_3 x31_1).f1.f3), .string ((rd_T107 l0_3 x31_1).f1.f4)] 97 (0, 0)) (by (with_reducible repeat (first | refine blk_drewN ?_ _ | refine blk_drew ?_ | refine blk_alloc ?_ _)); exact BK109.out) hb)
                    have n4_ := Aside0.mk (below_step (by repeat (first | (with_reducible first | exact HB.out | apply below_alloc | apply pw_below_drewN | apply below_drew1 | refine below_set ?_ GE101.out | refine below_set ?_ GE108.out | refine below_set ?_ GE109.out) | exact HB.out)) hb)
                    clear HO112
                    clear BK101
                    clear BK108
                    clear BK109
                    clear HB
                    have HO112 := n0_
                    have BK101 := n1_
                    have BK108 := n2_
                    have BK109 := n3_
                    have HB := n4_
                    clear n0_ n1_ n2_ n3_ n4_
                    (try clear hb)
                    (try clear hb2)
                    (try clear hk)
                    (try clear hi)
                    refine hK.out _ _ ⟨(blk_cell BK108.out 0).trans rfl, (blk_cell BK108.out 1).trans rfl, (blk_cell BK108.out 2).trans rfl, (blk_cell BK108.out 3).trans rfl, (blk_cell BK108.out 4).trans rfl, (blk_cell BK108.out 5).trans rfl, (blk_cell BK109.out 0).trans rfl, (blk_cell BK109.out 1).trans rfl, (blk_cell BK109.out 2).trans rfl, (blk_cell BK109.out 3).trans rfl, (blk_cell BK109.out 4).trans rfl⟩ (fun hHeld => ?_)
                    clear hK K
                    refine norm_ (a' := ?_) ?_ ?_
                    rotate_left
                    · show Act.put _ (some 51) _ = _
                      simp only [Act.put, List.setIfInBounds_toArray, List.set_cons_zero, List.set_cons_succ, i64_w, i32_w]
                      rfl
                    refine pure_ (i := 15) (N := some 52) (v := ?_) (a' := ?_) #[true, true, true, true, true, true, true, true, true, true, true, true, true, true, true, true, true, true, false, false, false, false] rfl rfl (any_of HT_.out (by kernel_rfl)) (fun _ _ _ h => h) (Or.inl ⟨by rfl, ?_⟩) ?_ ?_
                    rotate_left
                    · intro w'
                      go_simp
                      with_reducible rfl
                    rotate_left
                    · simp only [Act.put, List.setIfInBounds_toArray, List.set_cons_zero, List.set_cons_succ, i64_w, i32_w]
                      rfl
                    refine one_ (i := 18) (N := some 55) #[true, true, true, true, true, true, true, true, true, true, true, true, true, true, true, true, true, true, true, false, false, false] rfl rfl (one_of HT_.out (by kernel_rfl)) (by decide) (fun K hK => ?_)
                    refine goes_ Tryd.func52 (by kernel_rfl) rfl #[.string ((rd_T107 l0_3 x31_1).f1.f4)] (by rfl) rfl rfl (by (try simp only [List.map_toArray, List.map_cons, List.map_nil]); first | done | rfl | (simp only [List.length_drop, List.length_take]; rfl)) ?_
                    with_reducible refine (varint_Text.calls k1 ((rd_T107 l0_3 x31_1).f1.f4) t115 _ A20.out).mono ?_
                    rintro e w37 ⟨rfl, hb⟩
                    refine ⟨_, rfl, ?_⟩
                    have n0_ := Aside0.mk (Kd.R_below (by (with_reducible repeat (first | apply Kd.R_alloc | apply Kd.R_drewN | apply Kd.R_drew)); exact HO112.out) hb)
                    have n1_ := Aside0.mk (blk_below (g := gb101) (o := .cells #[.int .u64 a0_0, .int .u64 a0_1, .int .u64 a0_2, .slice (some ad107) l0_3.length c0_3, .slice A0_4 l0_4.length c0_4] 26 (0, 0)) (by (with_reducible repeat (first | refine blk_drewN ?_ _ | refine blk_drew ?_ | refine blk_alloc ?_ _)); exact BK101.out) hb)
                    have n2_ := Aside0.mk (blk_below (g := gb108) (o := .cells #[.int .i64 ((rd_T107 l0_3 x31_1).f0), .int .u64 ((rd_T107 l0_3 x31_1).f1.f0), .int .u64 ((rd_T107 l0_3 x31_1).f1.f1), .int .u64 ((rd_T107 l0_3 x31_1).f1.f2), .string ((rd_T107 l0_3 x31_1).f1.f3), .string ((rd_T107 l0_3 x31_1).f1.f4)] 107 (0, 0)) (by (with_reducible repeat (first | refine blk_drewN ?_ _ | refine blk_drew ?_ | refine blk_alloc ?_ _)); exact BK108.out) hb)
                    have n3_ := Aside0.mk (blk_below (g := gb109) (o := .cells #[.int .u64 ((rd_T107 l0_3 x31_1).f1.f0), .int .u64 ((rd_T107 l0_3 x31_1).f1.f1), .int .u64 ((rd_T107 l0_3 x31_1).f1.f2), .string ((rd_T107 l0_3 x31_1).f1.f3), .string ((rd_T107 l0_3 x31_1).f1.f4)] 97 (0, 0)) (by (with_reducible repeat (first | refine blk_drewN ?_ _ | refine blk_drew ?_ | refine blk_alloc ?_ _)); exact BK109.out) hb)
                    have n4_ := Aside0.mk (below_step (by repeat (first | (with_reducible first | exact HB.out | apply below_alloc | apply pw_below_drewN | apply below_drew1 | refine below_set ?_ GE101.out | refine below_set ?_ GE108.out | refine below_set ?_ GE109.out) | exact HB.out)) hb)
                    clear HO112
                    clear BK101
                    clear BK108
                    clear BK109
                    clear HB
                    have HO112 := n0_
                    have BK101 := n1_
                    have BK108 := n2_
                    have BK109 := n3_
                    have HB := n4_
                    clear n0_ n1_ n2_ n3_ n4_
                    (try clear hb)
                    (try clear hb2)
                    (try clear hk)
                    (try clear hi)
                    refine hK.out _ _ ⟨(blk_cell BK108.out 0).trans rfl, (blk_cell BK108.out 1).trans rfl, (blk_cell BK108.out 2).trans rfl, (blk_cell BK108.out 3).trans rfl, (blk_cell BK108.out 4).trans rfl, (blk_cell BK108.out 5).trans rfl, (blk_cell BK109.out 0).trans rfl, (blk_cell BK109.out 1).trans rfl, (blk_cell BK109.out 2).trans rfl, (blk_cell BK109.out 3).trans rfl, (blk_cell BK109.out 4).trans rfl⟩ (fun hHeld => ?_)
                    clear hK K
                    refine norm_ (a' := ?_) ?_ ?_
                    rotate_left
                    · show Act.put _ (some 55) _ = _
                      simp only [Act.put, List.setIfInBounds_toArray, List.set_cons_zero, List.set_cons_succ, i64_w, i32_w]
                      rfl
                    refine pure_ (i := 19) (N := some 56) (v := ?_) (a' := ?_) #[true, true, true, true, true, true, true, true, true, true, true, true, true, true, true, true, true, true, true, true, false, false] rfl rfl (any_of HT_.out (by kernel_rfl)) (fun _ _ _ h => h) (Or.inl ⟨by rfl, ?_⟩) ?_ ?_
                    rotate_left
                    · intro w'
                      go_simp
                      with_reducible rfl
                    rotate_left
                    · simp only [Act.put, List.setIfInBounds_toArray, List.set_cons_zero, List.set_cons_succ, i64_w, i32_w]
                      rfl
                    refine pure_ (i := 20) (N := some 57) (v := ?_) (a' := ?_) #[true, true, true, true, true, true, true, true, true, true, true, true, true, true, true, true, true, true, true, true, true, false] rfl rfl (any_of HT_.out (by kernel_rfl)) (fun _ _ _ h => h) (Or.inl ⟨by rfl, ?_⟩) ?_ ?_
                    rotate_left
                    · intro w'
                      go_simp
                      with_reducible rfl
                    rotate_left
                    · simp only [Act.put, List.setIfInBounds_toArray, List.set_cons_zero, List.set_cons_succ, i64_w, i32_w]
                      rfl
                    refine pure_ (i := 21) (N := some 5) (v := ?_) (a' := ?_) #[true, true, true, true, true, true, true, true, true, true, true, true, true, true, true, true, true, true, true, true, true, true] rfl rfl (any_of HT_.out (by kernel_rfl)) (fun _ _ _ h => h) (Or.inl ⟨by rfl, ?_⟩) ?_ ?_
                    rotate_left
                    · intro w'
                      go_simp
                      with_reducible rfl
                    rotate_left
                    · simp only [Act.put, List.setIfInBounds_toArray, List.set_cons_zero, List.set_cons_succ, i64_w, i32_w]
                      rfl
                    refine done_ (done_of HT_.out (by kernel_rfl)) ?_
                    try go_wp2
                    go_roundg k1
                    case measure => have := HK1.out; omega
                    case rel => exact ⟨(x5_1 ++ ((t113 ++ t114) ++ t115)), (wrap64 (x31_1 + 1)), (by first | rfl | (simp; done) | (simp [*]; done)), (by first | rfl | (simp; done) | (simp [*]; done)), H', ⟨by have := HK1.out; omega⟩, ⟨by (with_reducible repeat (first | refine blk_drewN ?_ _ | refine blk_drew ?_ | refine blk_alloc ?_ _)); exact BK101.out⟩, ⟨by repeat (first | (with_reducible first | exact HB.out | apply below_alloc | apply pw_below_drewN | apply below_drew1 | refine below_set ?_ GE101.out | refine below_set ?_ GE108.out | refine below_set ?_ GE109.out) | exact HB.out)⟩⟩
                  · rw [if_neg c22] at H
                    exact absurd H (by simp)
                · rw [if_neg c21] at H
                  exact absurd H (by simp)
              · rw [if_neg c19] at H
                exact absurd H (by simp)
            · rw [if_neg c16] at H
              exact absurd H (by simp)
          · rw [if_neg c15] at H
            exact absurd H (by simp)
        · rw [if_neg c14] at H
          have c14b0 : decide (x31_1 < (l0_3.length : Int)) = false := decide_eq_false c14
          clear c14
          obtain ⟨y116, hy116⟩ : ∃ y_ : List Int, y_ = (([IntKind.u64.wrap ((l0_4.length : Int))] : List Int)) := ⟨_, rfl⟩
          replace H : ((edit_nums.f k1 y116).bind fun t119 => (if x5_1.size + t119.size ≤ 9223372036854775807 then (edit_Edit_Bytes.l1 k1 (x5_1 ++ t119) l0_4 (l0_4.length : Int) 0) else (none))) = some (r1, r2) := by first | (rw [hy116]; with_reducible exact H) | (have H2_ := (Option.bind_some _ _).symm.trans H; rw [hy116]; with_reducible exact H2_) | (have H2_ := (Option.bind_some _ _).symm.trans H; with_reducible exact H2_) | with_reducible exact H | (rw [hy116]; exact H) | exact H
          have Ny116 := Aside0.mk hy116
          clear hy116
          replace H := Option.bind_eq_some_iff.mp H
          obtain ⟨t119, A380, H⟩ := H
          replace H : (if x5_1.size + t119.size ≤ 9223372036854775807 then (edit_Edit_Bytes.l1 k1 (x5_1 ++ t119) l0_4 (l0_4.length : Int) 0) else (none)) = some (r1, r2) := H
          have A38 := Aside0.mk A380
          clear A380
          by_cases c39 : x5_1.size + t119.size ≤ 9223372036854775807
          · rw [if_pos c39] at H
            have c39b0 := eq_true c39
            have c39b1 : decide (x5_1.size + t119.size ≤ 9223372036854775807) = true := decide_eq_true c39
            try have c39b2 : (9223372036854775807 < x5_1.size + t119.size) = False := eq_false (Nat.not_lt.2 c39)
            have H' := Aside0.mk H
            clear H
            have hcz40_0 : wr.cell? ⟨gb101, 0, none⟩ = some (.int .u64 a0_0) := (blk_cell BK101.out 0).trans rfl
            have hcz40_1 : wr.cell? ⟨gb101, 1, none⟩ = some (.int .u64 a0_1) := (blk_cell BK101.out 1).trans rfl
            have hcz40_2 : wr.cell? ⟨gb101, 2, none⟩ = some (.int .u64 a0_2) := (blk_cell BK101.out 2).trans rfl
            have hcz40_3 : wr.cell? ⟨gb101, 3, none⟩ = some (.slice A0_3 l0_3.length c0_3) := (blk_cell BK101.out 3).trans rfl
            have hcz40_4 : wr.cell? ⟨gb101, 4, none⟩ = some (.slice A0_4 l0_4.length c0_4) := (blk_cell BK101.out 4).trans rfl
            have hfz40_0 := blk_frozen BK101.out 0
            have hfz40_1 := blk_frozen BK101.out 1
            have hfz40_2 := blk_frozen BK101.out 2
            have hfz40_3 := blk_frozen BK101.out 3
            have hfz40_4 := blk_frozen BK101.out 4
            go_wp2_with (first | ((with_reducible refine gate_dst (N := 64) rfl ?_); refine Kd.R_lit (Kd.int .u64) _ 22 ?hg (N := 64) ?hd (xs := ([IntKind.u64.wrap ((l0_4.length : Int))] : List Int)) (inner := [.int .u64 (IntKind.u64.wrap ((l0_4.length : Int)))]) (ok := fun _ => True) (okp := fun _ => True) ?hr ?hp (fun _ hk => hk) trivial (Below.refl _ _) (Nat.le_refl _) (by simp) ?_; (case hd => rfl); (case hg => rfl); (case hr => first | (go_simp; done) | (go_simp; rfl)); (case hp => exact (Reps.one (show Kd.M (Kd.int .u64) _ _ _ (IntKind.u64.wrap ((l0_4.length : Int))) [.int .u64 (IntKind.u64.wrap ((l0_4.length : Int)))] from rfl) (Reps.none _ _))); intro v117 w41 ho42 hb hg_ hnew_; clear hg_ hnew_; (first | rw [← Ny116.out] at ho42 | (simp only [Int.reduceToNat] at ho42; rw [← Ny116.out] at ho42)); have n0_ := Aside0.mk (Kd.R_lower ho42 (below_size (by repeat (first | (with_reducible first | exact HB.out | apply below_alloc | apply pw_below_drewN | apply below_drew1 | refine below_set ?_ GE101.out) | exact HB.out)))); have n1_ := Aside0.mk (blk_below (g := gb101) (o := .cells #[.int .u64 a0_0, .int .u64 a0_1, .int .u64 a0_2, .slice A0_3 l0_3.length c0_3, .slice A0_4 l0_4.length c0_4] 26 (0, 0)) (by (with_reducible repeat (first | refine blk_drewN ?_ _ | refine blk_drew ?_ | refine blk_alloc ?_ _)); exact BK101.out) hb); have n2_ := Aside0.mk (below_step (by repeat (first | (with_reducible first | exact HB.out | apply below_alloc | apply pw_below_drewN | apply below_drew1 | refine below_set ?_ GE101.out) | exact HB.out)) hb); clear BK101; clear HB; have HO118 := n0_; have BK101 := n1_; have HB := n2_; clear n0_ n1_ n2_; clear hb ho42; obtain ⟨Ao43, co43, eo43⟩ := Kd.R_slice HO118.out; subst eo43) | ((with_reducible refine gate_callee (f := 51) rfl ?_); refine goesL_ (some 65) rfl rfl Tryd.func51 (by kernel_rfl) rfl #[.slice Ao43 y116.length co43] rfl (by (try simp only [List.map_toArray, List.map_cons, List.map_nil]); first | done | rfl | (simp only [List.length_drop, List.length_take]; rfl)) ?_; (with_reducible refine (edit_nums.calls k1 _ _ y116 t119 _ ?side1 ?side2 A38.out).mono ?_); (case side1 => repeat (first | exact (Kd.R_reads' HO118.out).2.2 | (with_reducible refine Kd.C_alloc ?_ _) | (with_reducible refine Kd.C_drewN ?_ _) | (with_reducible refine Kd.C_drew ?_))); (case side2 => exact (Kd.R_reads' HO118.out).2.1); rintro e w44 ⟨rfl, hb⟩; refine ⟨_, rfl, ?_⟩; have n0_ := Aside0.mk (Kd.R_below (by (with_reducible repeat (first | apply Kd.R_alloc | apply Kd.R_drewN | apply Kd.R_drew)); exact HO118.out) hb); have n1_ := Aside0.mk (blk_below (g := gb101) (o := .cells #[.int .u64 a0_0, .int .u64 a0_1, .int .u64 a0_2, .slice A0_3 l0_3.length c0_3, .slice A0_4 l0_4.length c0_4] 26 (0, 0)) (by (with_reducible repeat (first | refine blk_drewN ?_ _ | refine blk_drew ?_ | refine blk_alloc ?_ _)); exact BK101.out) hb); have n2_ := Aside0.mk (below_step (by repeat (first | (with_reducible first | exact HB.out | apply below_alloc | apply pw_below_drewN | apply below_drew1 | refine below_set ?_ GE101.out) | exact HB.out)) hb); clear HO118; clear BK101; clear HB; have HO118 := n0_; have BK101 := n1_; have HB := n2_; clear n0_ n1_ n2_; (try clear hb); (try clear hb2); (try clear hk); (try clear hi); have hcz45_0 : w44.cell? ⟨gb101, 0, none⟩ = some (.int .u64 a0_0) := (blk_cell BK101.out 0).trans rfl; have hcz45_1 : w44.cell? ⟨gb101, 1, none⟩ = some (.int .u64 a0_1) := (blk_cell BK101.out 1).trans rfl; have hcz45_2 : w44.cell? ⟨gb101, 2, none⟩ = some (.int .u64 a0_2) := (blk_cell BK101.out 2).trans rfl; have hcz45_3 : w44.cell? ⟨gb101, 3, none⟩ = some (.slice A0_3 l0_3.length c0_3) := (blk_cell BK101.out 3).trans rfl; have hcz45_4 : w44.cell? ⟨gb101, 4, none⟩ = some (.slice A0_4 l0_4.length c0_4) := (blk_cell BK101.out 4).trans rfl; have hfz45_0 := blk_frozen BK101.out 0; have hfz45_1 := blk_frozen BK101.out 1; have hfz45_2 := blk_frozen BK101.out 2; have hfz45_3 := blk_frozen BK101.out 3; have hfz45_4 := blk_frozen BK101.out 4))
            go_loopg [5, 70] k1 (fun kq v5 v70 w' => ∃ (x5_2 : ByteArray) (x70_2 : Int), v5 = .string x5_2 ∧ v70 = .int .i64 x70_2 ∧ Aside0 (edit_Edit_Bytes.l1 kq x5_2 l0_4 (l0_4.length : Int) x70_2 = some (r1, r2)) ∧ Aside0 (kq ≤ k1) ∧ Aside0 (w'.heap[gb101]? = some (.cells #[.int .u64 a0_0, .int .u64 a0_1, .int .u64 a0_2, (.slice A0_3 l0_3.length c0_3), (.slice A0_4 l0_4.length c0_4)] 26 (0, 0))) ∧ Aside0 (Below w.heap.size w w'))
            case atStart => exact ⟨(x5_1 ++ t119), (0), (by first | rfl | (simp; done) | (simp [*]; done)), (by first | rfl | (simp; done) | (simp [*]; done)), H', ⟨Nat.le_refl _⟩, ⟨by (with_reducible repeat (first | refine blk_drewN ?_ _ | refine blk_drew ?_ | refine blk_alloc ?_ _)); exact BK101.out⟩, ⟨by repeat (first | (with_reducible first | exact HB.out | apply below_alloc | apply pw_below_drewN | apply below_drew1 | refine below_set ?_ GE101.out) | exact HB.out)⟩⟩
            case round =>
              clear H'
              try clear c1
              try clear p1
              try clear q1
              try clear hx1
              try clear c2
              try clear p2
              try clear c3
              try clear c3b0
              try clear c3b1
              try clear c5
              try clear p6
              try clear p10
              try clear q10
              try clear hx10
              try clear c14
              try clear c14b0
              try clear c15
              try clear c15b0
              try clear c16
              try clear c16b0
              try clear c19
              try clear c19b0
              try clear c19b1
              try clear c19b2
              try clear c20
              try clear c21
              try clear c21b0
              try clear c21b1
              try clear c21b2
              try clear c22
              try clear c22b0
              try clear c22b1
              try clear c22b2
              try clear c24
              try clear c27
              try clear c28
              try clear c39
              try clear c39b0
              try clear c39b1
              try clear c39b2
              try clear hcz13_0
              try clear hcz13_1
              try clear hcz13_2
              try clear hcz13_3
              try clear hcz13_4
              try clear hcz25_0
              try clear hcz25_1
              try clear hcz25_2
              try clear hcz25_3
              try clear hcz25_4
              try clear hcz25_5
              try clear hcz29_0
              try clear hcz29_1
              try clear hcz29_2
              try clear hcz29_3
              try clear hcz29_4
              try clear hcz40_0
              try clear hcz40_1
              try clear hcz40_2
              try clear hcz40_3
              try clear hcz40_4
              try clear hcz45_0
              try clear hcz45_1
              try clear hcz45_2
              try clear hcz45_3
              try clear hcz45_4
              try clear hcz6_0
              try clear hcz6_1
              try clear hcz6_2
              try clear hcz6_3
              try clear hcz6_4
              try clear hcz8_0
              try clear hcz8_1
              try clear hcz8_2
              try clear hcz8_3
              try clear hcz8_4
              try clear hfz13_0
              try clear hfz13_1
              try clear hfz13_2
              try clear hfz13_3
              try clear hfz13_4
              try clear hfz25_0
              try clear hfz25_1
              try clear hfz25_2
              try clear hfz25_3
              try clear hfz25_4
              try clear hfz25_5
              try clear hfz29_0
              try clear hfz29_1
              try clear hfz29_2
              try clear hfz29_3
              try clear hfz29_4
              try clear hfz40_0
              try clear hfz40_1
              try clear hfz40_2
              try clear hfz40_3
              try clear hfz40_4
              try clear hfz45_0
              try clear hfz45_1
              try clear hfz45_2
              try clear hfz45_3
              try clear hfz45_4
              try clear hfz6_0
              try clear hfz6_1
              try clear hfz6_2
              try clear hfz6_3
              try clear hfz6_4
              try clear hfz8_0
              try clear hfz8_1
              try clear hfz8_2
              try clear hfz8_3
              try clear hfz8_4
              try clear hx107_0
              try clear hx107_1
              try clear hx107_2
              try clear hx107_3
              try clear hx107_4
              try clear hx107_5
              try clear p107
              try clear p2
              try clear q107
              obtain ⟨x5_2, x70_2, rfl, rfl, HA, HK2, BK101, HB⟩ := hrel
              cases gk with
              | zero => exact absurd HA.out (by simp [edit_Edit_Bytes.l1])
              | succ k2 =>
                have H := HA.out
                clear HA
                simp only [edit_Edit_Bytes.l1] at H
                by_cases c46 : x70_2 < (l0_4.length : Int)
                · rw [if_pos c46] at H
                  have c46b0 : decide (x70_2 < (l0_4.length : Int)) = true := decide_eq_true c46
                  clear c46
                  by_cases c47 : 0 ≤ x70_2
                  · rw [if_pos c47] at H
                    have c47b0 : decide (0 ≤ x70_2) = true := decide_eq_true c47
                    clear c47
                    by_cases c48 : x70_2 < (l0_4.length : Int)
                    · rw [if_pos c48] at H
                      have c48b0 : decide (x70_2 < (l0_4.length : Int)) = true := decide_eq_true c48
                      clear c48
                      obtain ⟨y122, hy122⟩ : ∃ y_ : List Int, y_ = (([IntKind.u64.wrap ((rd_T111 l0_4 x70_2).f0), (rd_T111 l0_4 x70_2).f1] : List Int)) := ⟨_, rfl⟩
                      replace H : ((edit_nums.f k2 y122).bind fun t125 => (if x5_2.size + t125.size ≤ 9223372036854775807 then (edit_Edit_Bytes.l1 k2 (x5_2 ++ t125) l0_4 (l0_4.length : Int) (wrap64 (x70_2 + 1))) else (none))) = some (r1, r2) := by first | (rw [hy122]; with_reducible exact H) | (have H2_ := (Option.bind_some _ _).symm.trans H; rw [hy122]; with_reducible exact H2_) | (have H2_ := (Option.bind_some _ _).symm.trans H; with_reducible exact H2_) | with_reducible exact H | (rw [hy122]; exact H) | exact H
                      have Ny122 := Aside0.mk hy122
                      clear hy122
                      replace H := Option.bind_eq_some_iff.mp H
                      obtain ⟨t125, A490, H⟩ := H
                      replace H : (if x5_2.size + t125.size ≤ 9223372036854775807 then (edit_Edit_Bytes.l1 k2 (x5_2 ++ t125) l0_4 (l0_4.length : Int) (wrap64 (x70_2 + 1))) else (none)) = some (r1, r2) := H
                      have A49 := Aside0.mk A490
                      clear A490
                      by_cases c50 : x5_2.size + t125.size ≤ 9223372036854775807
                      · rw [if_pos c50] at H
                        have c50b0 := eq_true c50
                        have c50b1 : decide (x5_2.size + t125.size ≤ 9223372036854775807) = true := decide_eq_true c50
                        try have c50b2 : (9223372036854775807 < x5_2.size + t125.size) = False := eq_false (Nat.not_lt.2 c50)
                        have H' := Aside0.mk H
                        clear H
                        have p120 : 0 ≤ (x70_2 : Int) := of_decide_eq_true (by first | (with_reducible assumption) | assumption)
                        have q120 : x70_2 < (l0_4.length : Int) := of_decide_eq_true (by first | (with_reducible assumption) | assumption)
                        obtain ⟨ad120, e120, hx120_0, hx120_1⟩ := at_T111 HR0_4.out x70_2 p120 q120
                        cases e120
                        replace hx120_0 := (HB.out.cell (World.block_lt_of_cell? w _ hx120_0)).trans hx120_0
                        replace hx120_1 := (HB.out.cell (World.block_lt_of_cell? w _ hx120_1)).trans hx120_1
                        replace p120 := eq_true p120
                        replace q120 := eq_true q120
                        go_wp2_with (first | ((with_reducible refine gate_dst (N := 10) rfl ?_); refine box_event ?hg (N := 10) ?hd (cs := #[.int .i64 0, .int .u64 0]) (t := 111) ?hr ?_; (case hd => rfl); (case hg => rfl); (case hr => first | (go_simp; done) | (go_simp; rfl)); intro gb121 hg w51 hbox hb; have n0_ := Aside0.mk (blk_below (g := gb101) (o := .cells #[.int .u64 a0_0, .int .u64 a0_1, .int .u64 a0_2, .slice A0_3 l0_3.length c0_3, .slice (some ad120) l0_4.length c0_4] 26 (0, 0)) (by (with_reducible repeat (first | refine blk_drewN ?_ _ | refine blk_drew ?_ | refine blk_alloc ?_ _)); exact BK101.out) hb); have n1_ := Aside0.mk (below_step (by repeat (first | (with_reducible first | exact HB.out | apply below_alloc | apply pw_below_drewN | apply below_drew1 | refine below_set ?_ GE101.out) | exact HB.out)) hb); have n2_ := Aside0.mk (hbox); have n3_ := Aside0.mk ((by rw [hg]; exact (below_size (by repeat (first | (with_reducible first | exact HB.out | apply below_alloc | apply pw_below_drewN | apply below_drew1 | refine below_set ?_ GE101.out) | exact HB.out))) : w.heap.size ≤ gb121)); have n4_ := Aside0.mk ((by rw [hg]; exact (below_size (by repeat (first | (with_reducible first | exact HB.out | apply below_alloc | apply pw_below_drewN | apply below_drew1 | refine below_set ?_ GE101.out) | exact HB.out))) : w.heap.size ≤ gb121)); have n5_ := Aside0.mk ((by rw [hg]; exact Nat.ne_of_lt (blk_lt (g := gb101) (o := .cells #[.int .u64 a0_0, .int .u64 a0_1, .int .u64 a0_2, .slice A0_3 l0_3.length c0_3, .slice (some ad120) l0_4.length c0_4] 26 (0, 0)) (by (with_reducible repeat (first | refine blk_drewN ?_ _ | refine blk_drew ?_ | refine blk_alloc ?_ _)); exact BK101.out)) : gb101 ≠ gb121)); have n6_ := Aside0.mk ((by rw [hg]; exact Nat.ne_of_gt (blk_lt (g := gb101) (o := .cells #[.int .u64 a0_0, .int .u64 a0_1, .int .u64 a0_2, .slice A0_3 l0_3.length c0_3, .slice (some ad120) l0_4.length c0_4] 26 (0, 0)) (by (with_reducible repeat (first | refine blk_drewN ?_ _ | refine blk_drew ?_ | refine blk_alloc ?_ _)); exact BK101.out)) : gb121 ≠ gb101)); clear BK101; clear HB; have BK101 := n0_; have HB := n1_; have BK121 := n2_; have GW121 := n3_; have GE121 := n4_; have NB101_121 := n5_; have NB121_101 := n6_; clear n0_ n1_ n2_ n3_ n4_ n5_ n6_; clear hb hbox hg; have hnb52 := NB121_101.out; have hnc52 := NB101_121.out; have hcz53_0 : w51.cell? ⟨gb121, 0, none⟩ = some (.int .i64 0) := (blk_cell BK121.out 0).trans rfl; have hcz53_1 : w51.cell? ⟨gb121, 1, none⟩ = some (.int .u64 0) := (blk_cell BK121.out 1).trans rfl; have hfz53_0 := blk_frozen BK121.out 0; have hfz53_1 := blk_frozen BK121.out 1) | ((with_reducible refine gate_dst (N := 80) rfl ?_); refine Kd.R_lit (Kd.int .u64) _ 22 ?hg (N := 80) ?hd (xs := ([IntKind.u64.wrap ((rd_T111 l0_4 x70_2).f0), (rd_T111 l0_4 x70_2).f1] : List Int)) (inner := [.int .u64 (IntKind.u64.wrap ((rd_T111 l0_4 x70_2).f0)), .int .u64 ((rd_T111 l0_4 x70_2).f1)]) (ok := fun _ => True) (okp := fun _ => True) ?hr ?hp (fun _ hk => hk) trivial (Below.refl _ _) (Nat.le_refl _) (by simp) ?_; (case hd => rfl); (case hg => rfl); (case hr => first | (go_simp; done) | (go_simp; rfl)); (case hp => exact (Reps.one (show Kd.M (Kd.int .u64) _ _ _ (IntKind.u64.wrap ((rd_T111 l0_4 x70_2).f0)) [.int .u64 (IntKind.u64.wrap ((rd_T111 l0_4 x70_2).f0))] from rfl) (Reps.one (show Kd.M (Kd.int .u64) _ _ _ ((rd_T111 l0_4 x70_2).f1) [.int .u64 ((rd_T111 l0_4 x70_2).f1)] from rfl) (Reps.none _ _)))); intro v123 w54 ho55 hb hg_ hnew_; clear hg_ hnew_; (first | rw [← Ny122.out] at ho55 | (simp only [Int.reduceToNat] at ho55; rw [← Ny122.out] at ho55)); have n0_ := Aside0.mk (Kd.R_lower ho55 (below_size (by repeat (first | (with_reducible first | exact HB.out | apply below_alloc | apply pw_below_drewN | apply below_drew1 | refine below_set ?_ GE101.out | refine below_set ?_ GE121.out) | exact HB.out)))); have n1_ := Aside0.mk (blk_below (g := gb101) (o := .cells #[.int .u64 a0_0, .int .u64 a0_1, .int .u64 a0_2, .slice A0_3 l0_3.length c0_3, .slice (some ad120) l0_4.length c0_4] 26 (0, 0)) (by (with_reducible repeat (first | refine blk_drewN ?_ _ | refine blk_drew ?_ | refine blk_alloc ?_ _)); refine blk_far ?_ NB101_121.out _; (with_reducible repeat (first | refine blk_drewN ?_ _ | refine blk_drew ?_ | refine blk_alloc ?_ _)); refine blk_far ?_ NB101_121.out _; (with_reducible repeat (first | refine blk_drewN ?_ _ | refine blk_drew ?_ | refine blk_alloc ?_ _)); exact BK101.out) hb); have n2_ := Aside0.mk (blk_below (g := gb121) (o := .cells #[.int .i64 ((rd_T111 l0_4 x70_2).f0), .int .u64 ((rd_T111 l0_4 x70_2).f1)] 111 (0, 0)) (by (with_reducible repeat (first | refine blk_drewN ?_ _ | refine blk_drew ?_ | refine blk_alloc ?_ _)); refine blk_put (cs := #[.int .i64 ((rd_T111 l0_4 x70_2).f0), .int .u64 0]) ?_ 1 _ rfl; (with_reducible repeat (first | refine blk_drewN ?_ _ | refine blk_drew ?_ | refine blk_alloc ?_ _)); refine blk_put (cs := #[.int .i64 0, .int .u64 0]) ?_ 0 _ rfl; (with_reducible repeat (first | refine blk_drewN ?_ _ | refine blk_drew ?_ | refine blk_alloc ?_ _)); exact BK121.out) hb); have n3_ := Aside0.mk (below_step (by repeat (first | (with_reducible first | exact HB.out | apply below_alloc | apply pw_below_drewN | apply below_drew1 | refine below_set ?_ GE101.out | refine below_set ?_ GE121.out) | exact HB.out)) hb); clear BK101; clear BK121; clear HB; have HO124 := n0_; have BK101 := n1_; have BK121 := n2_; have HB := n3_; clear n0_ n1_ n2_ n3_; clear hb ho55; obtain ⟨Ao56, co56, eo56⟩ := Kd.R_slice HO124.out; subst eo56) | ((with_reducible refine gate_callee (f := 51) rfl ?_); refine goesL_ (some 81) rfl rfl Tryd.func51 (by kernel_rfl) rfl #[.slice Ao56 y122.length co56] rfl (by (try simp only [List.map_toArray, List.map_cons, List.map_nil]); first | done | rfl | (simp only [List.length_drop, List.length_take]; rfl)) ?_; (with_reducible refine (edit_nums.calls k2 _ _ y122 t125 _ ?side1 ?side2 A49.out).mono ?_); (case side1 => repeat (first | exact (Kd.R_reads' HO124.out).2.2 | (with_reducible refine Kd.C_alloc ?_ _) | (with_reducible refine Kd.C_drewN ?_ _) | (with_reducible refine Kd.C_drew ?_))); (case side2 => exact (Kd.R_reads' HO124.out).2.1); rintro e w57 ⟨rfl, hb⟩; refine ⟨_, rfl, ?_⟩; have n0_ := Aside0.mk (Kd.R_below (by (with_reducible repeat (first | apply Kd.R_alloc | apply Kd.R_drewN | apply Kd.R_drew)); exact HO124.out) hb); have n1_ := Aside0.mk (blk_below (g := gb101) (o := .cells #[.int .u64 a0_0, .int .u64 a0_1, .int .u64 a0_2, .slice A0_3 l0_3.length c0_3, .slice (some ad120) l0_4.length c0_4] 26 (0, 0)) (by (with_reducible repeat (first | refine blk_drewN ?_ _ | refine blk_drew ?_ | refine blk_alloc ?_ _)); exact BK101.out) hb); have n2_ := Aside0.mk (blk_below (g := gb121) (o := .cells #[.int .i64 ((rd_T111 l0_4 x70_2).f0), .int .u64 ((rd_T111 l0_4 x70_2).f1)] 111 (0, 0)) (by (with_reducible repeat (first | refine blk_drewN ?_ _ | refine blk_drew ?_ | refine blk_alloc ?_ _)); exact BK121.out) hb); have n3_ := Aside0.mk (below_step (by repeat (first | (with_reducible first | exact HB.out | apply below_alloc | apply pw_below_drewN | apply below_drew1 | refine below_set ?_ GE101.out | refine below_set ?_ GE121.out) | exact HB.out)) hb); clear HO124; clear BK101; clear BK121; clear HB; have HO124 := n0_; have BK101 := n1_; have BK121 := n2_; have HB := n3_; clear n0_ n1_ n2_ n3_; (try clear hb); (try clear hb2); (try clear hk); (try clear hi)))
                        go_roundg k2
                        case measure => have := HK1.out; have := HK2.out; omega
                        case rel => exact ⟨(x5_2 ++ t125), (wrap64 (x70_2 + 1)), (by first | rfl | (simp; done) | (simp [*]; done)), (by first | rfl | (simp; done) | (simp [*]; done)), H', ⟨by have := HK1.out; have := HK2.out; omega⟩, ⟨by (with_reducible repeat (first | refine blk_drewN ?_ _ | refine blk_drew ?_ | refine blk_alloc ?_ _)); exact BK101.out⟩, ⟨by repeat (first | (with_reducible first | exact HB.out | apply below_alloc | apply pw_below_drewN | apply below_drew1 | refine below_set ?_ GE101.out | refine below_set ?_ GE121.out) | exact HB.out)⟩⟩
                      · rw [if_neg c50] at H
                        exact absurd H (by simp)
                    · rw [if_neg c48] at H
                      exact absurd H (by simp)
                  · rw [if_neg c47] at H
                    exact absurd H (by simp)
                · rw [if_neg c46] at H
                  have c46b0 : decide (x70_2 < (l0_4.length : Int)) = false := decide_eq_false c46
                  clear c46
                  simp only [Option.some.injEq, Prod.mk.injEq] at H
                  obtain ⟨rfl, rfl⟩ := H
                  go_wp2
                  go_ret2
                  exact ⟨by first | rfl | (simp [errW_none, errW_some] <;> rfl) | (simp [*, errW_none, errW_some] <;> rfl), by repeat (first | (with_reducible first | exact HB.out | apply below_alloc | apply pw_below_drewN | apply below_drew1 | refine below_set ?_ GE101.out) | exact HB.out)⟩
          · rw [if_neg c39] at H
            exact absurd H (by simp)
  · rw [if_neg c3] at H
    have c3b0 : (t102 == 0) = false := beq_eq_false_iff_ne.mpr c3
    have c3b1 : (t102 != 0) = true := bne_iff_ne.mpr c3
    simp only [Option.some.injEq, Prod.mk.injEq] at H
    obtain ⟨rfl, rfl⟩ := H
    go_enter Tryd.func15, Tryd.ntmps15
    go_wp2_with (first | ((with_reducible refine gate_dst (N := 1) rfl ?_); refine box_event ?hg (N := 1) ?hd (cs := #[.int .u64 a0_0, .int .u64 a0_1, .int .u64 a0_2, .slice A0_3 l0_3.length c0_3, .slice A0_4 l0_4.length c0_4]) (t := 26) ?hr ?_; (case hd => rfl); (case hg => rfl); (case hr => first | (go_simp; done) | (go_simp; rfl)); intro gb101 hg w58 hbox hb; have n0_ := Aside0.mk (below_step (by repeat (first | (with_reducible first | exact HB.out | apply below_alloc | apply pw_below_drewN | apply below_drew1) | exact HB.out)) hb); have n1_ := Aside0.mk (hbox); have n2_ := Aside0.mk ((by rw [hg]; exact (below_size (by repeat (first | (with_reducible first | exact HB.out | apply below_alloc | apply pw_below_drewN | apply below_drew1) | exact HB.out))) : w.heap.size ≤ gb101)); have n3_ := Aside0.mk ((by rw [hg]; exact (below_size (by repeat (first | (with_reducible first | exact HB.out | apply below_alloc | apply pw_below_drewN | apply below_drew1) | exact HB.out))) : w.heap.size ≤ gb101)); clear HB; have HB := n0_; have BK101 := n1_; have GW101 := n2_; have GE101 := n3_; clear n0_ n1_ n2_ n3_; clear hb hbox hg; have hcz59_0 : w58.cell? ⟨gb101, 0, none⟩ = some (.int .u64 a0_0) := (blk_cell BK101.out 0).trans rfl; have hcz59_1 : w58.cell? ⟨gb101, 1, none⟩ = some (.int .u64 a0_1) := (blk_cell BK101.out 1).trans rfl; have hcz59_2 : w58.cell? ⟨gb101, 2, none⟩ = some (.int .u64 a0_2) := (blk_cell BK101.out 2).trans rfl; have hcz59_3 : w58.cell? ⟨gb101, 3, none⟩ = some (.slice A0_3 l0_3.length c0_3) := (blk_cell BK101.out 3).trans rfl; have hcz59_4 : w58.cell? ⟨gb101, 4, none⟩ = some (.slice A0_4 l0_4.length c0_4) := (blk_cell BK101.out 4).trans rfl; have hfz59_0 := blk_frozen BK101.out 0; have hfz59_1 := blk_frozen BK101.out 1; have hfz59_2 := blk_frozen BK101.out 2; have hfz59_3 := blk_frozen BK101.out 3; have hfz59_4 := blk_frozen BK101.out 4) | ((with_reducible refine gate_callee (f := 20) rfl ?_); refine goesL_ (some 12) rfl rfl Tryd.func20 (by kernel_rfl) rfl #[.agg #[.int .u64 a0_0, .int .u64 a0_1, .int .u64 a0_2, .slice A0_3 l0_3.length c0_3, .slice A0_4 l0_4.length c0_4]] rfl (by (try simp only [List.map_toArray, List.map_cons, List.map_nil]); first | done | rfl | (simp only [List.length_drop, List.length_take]; rfl)) ?_; (with_reducible refine (edit_Edit_Check.calls a0_0 a0_1 a0_2 _ _ l0_3 _ _ l0_4 t102 _ ?side1 ?side2 ?side3 ?side4 A2.out).mono ?_); (case side1 => repeat (first | exact (Kd.C_below HR0_3.out HB.out) | (with_reducible refine Kd.C_alloc ?_ _) | (with_reducible refine Kd.C_drewN ?_ _) | (with_reducible refine Kd.C_drew ?_))); (case side2 => exact HC0_3.out); (case side3 => repeat (first | exact (Kd.C_below HR0_4.out HB.out) | (with_reducible refine Kd.C_alloc ?_ _) | (with_reducible refine Kd.C_drewN ?_ _) | (with_reducible refine Kd.C_drew ?_))); (case side4 => exact HC0_4.out); rintro e w60 ⟨rfl, hb⟩; refine ⟨_, rfl, ?_⟩; have n0_ := Aside0.mk (blk_below (g := gb101) (o := .cells #[.int .u64 a0_0, .int .u64 a0_1, .int .u64 a0_2, .slice A0_3 l0_3.length c0_3, .slice A0_4 l0_4.length c0_4] 26 (0, 0)) (by (with_reducible repeat (first | refine blk_drewN ?_ _ | refine blk_drew ?_ | refine blk_alloc ?_ _)); exact BK101.out) hb); have n1_ := Aside0.mk (below_step (by repeat (first | (with_reducible first | exact HB.out | apply below_alloc | apply pw_below_drewN | apply below_drew1 | refine below_set ?_ GE101.out) | exact HB.out)) hb); clear BK101; clear HB; have BK101 := n0_; have HB := n1_; clear n0_ n1_; (try clear hb); (try clear hb2); (try clear hk); (try clear hi)))
    go_ret2
    exact ⟨by first | rfl | (simp [errW_none, errW_some] <;> rfl) | (simp [*, errW_none, errW_some] <;> rfl), by repeat (first | (with_reducible first | exact HB.out | apply below_alloc | apply pw_below_drewN | apply below_drew1 | refine below_set ?_ GE101.out) | exact HB.out)⟩

end Go.Proofs.YteilnbnnhocciaaDoor.K
