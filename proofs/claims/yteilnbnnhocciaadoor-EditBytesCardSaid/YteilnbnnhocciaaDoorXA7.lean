/- EditBytes is true for every input: the card, tied (part 7 of 7; packed by program out of the texts named below) -/
import Derived.Test.YteilnbnnhocciaaDoorXA6
import Derived.ChangeArms
import Derived.DataReads
import Derived.Deep.Slices
import Derived.WideShapes
import Derived.Test.YteilnbnnhocciaaDoorRows
import Derived.Lib.LaidIn
import Derived.ChangeSame
import Derived.ChangeVars
import Derived.JoinedOf
import Derived.RowKit
import Derived.WalkKit
import Derived.ProofKit
import Derived.OpenShut
import Derived.ShutString
import Derived.ChangeOld
import Derived.Below
import Derived.SizedLaws
import Derived.Test.YteilnbnnhocciaaDoorTie
import Derived.Test.YteilnbnnhocciaaDoorCards
import Derived.SevenTiedAt

/-! K40 -/
namespace Go.Proofs.YteilnbnnhocciaaDoor.K
open Go.RowKit Go.Proofs.YteilnbnnhocciaaDoorW.PrintWords Go.Proofs.YteilnbnnhocciaaDoorW.PrintLast Go.Proofs.YteilnbnnhocciaaDoorW.PrintMore Go.Proofs.YteilnbnnhocciaaDoorM
attribute [local go_sem] max2_int min2_int max_two min_two max_three min_three max_four min_four
set_option linter.unusedVariables false
set_option linter.unusedSimpArgs false
def bourselaw12_EditBytes.j0 : Nat → ByteArray → Bool → Int → Int → Int → List (S107) → List (S111) → Option (Bool)
  | 0, _, _, _, _, _, _, _ => none
  | k + 1, x1, x22, x260000, x260001, x260002, x260003, x260004 => if x22 = true then (some true) else ((edit_Edit_Bytes.f k x260000 x260001 x260002 x260003 x260004).bind fun bt262 => ((bourselaw12_To.f k x260000 x260001 x260002 x260003 x260004).bind fun bt264 => ((bourseref12_Edit_Bytes.f k bt264.1 bt264.2.1 bt264.2.2.1 bt264.2.2.2.1 bt264.2.2.2.2).bind fun bt273 => ((edit_Parse.f x1).bind fun bt275 => ((bourseref12_Parse.f x1).bind fun bt286 => (if bt262.1.toList = bt273.1.toList then (if bt262.2 = bt273.2 then ((edit_Edit_Check.f x260000 x260001 x260002 x260003 x260004).bind fun t297 => ((bourselaw12_To.f k x260000 x260001 x260002 x260003 x260004).bind fun bt298 => ((bourseref12_Edit_Check.f k bt298.1 bt298.2.1 bt298.2.2.1 bt298.2.2.2.1 bt298.2.2.2.2).bind fun t307 => (if t297 = t307 then ((bourselaw12_To.f k bt275.1 bt275.2.1 bt275.2.2.1 bt275.2.2.2.1 bt275.2.2.2.2.1).bind fun bt308 => ((bourseref12_Same.f k bt308.1 bt308.2.1 bt308.2.2.1 bt308.2.2.2.1 bt308.2.2.2.2 bt286.1 bt286.2.1 bt286.2.2.1 bt286.2.2.2.1 bt286.2.2.2.2.1).bind fun t317 => (if t317 = true then (some (bt275.2.2.2.2.2 == bt286.2.2.2.2.2)) else (none)))) else (none))))) else (none)) else (none)))))))
def bourselaw12_EditBytes.f (k : Nat) (a0_0 : Int) (a0_1 : Int) (a0_2 : Int) (l0_3 : List (S107)) (l0_4 : List (S111)) (a1 : ByteArray) : Option (Bool) := (bourselaw12_awake.f).bind fun t260 => (if t260 = true then ((bourselaw12_Light.f k a0_0 a0_1 a0_2 l0_3 l0_4).bind fun t261 => (if t261 = true then (bourselaw12_EditBytes.j0 k a1 (decide ((a1.size : Int) > 5000)) a0_0 a0_1 a0_2 l0_3 l0_4) else (bourselaw12_EditBytes.j0 k a1 true a0_0 a0_1 a0_2 l0_3 l0_4))) else (none))
def bourselaw12_EditBytes.T9 : Bool × List (List Nat × List Nat) := (true, [([], []), ([], []), ([0, 1], [0, 1]), ([2], [2]), ([3], [3]), ([3], [3]), ([4, 5, 3], [3, 4, 5]), ([3, 6], [3, 6]), ([7, 3], [7]), ([8], [8]), ([9, 8, 8], [8, 9]), ([8], [8]), ([11, 10, 8], [8, 11]), ([12, 12, 8], [8, 12]), ([10, 13, 8], [8, 10, 13]), ([8, 14], [8, 14]), ([15, 13], [15]), ([16], [16]), ([17, 16, 16], [16, 17]), ([16], [16]), ([18, 19, 18, 16], [16, 18, 19]), ([16, 20], [16, 20]), ([21, 20], [21]), ([22], [22]), ([22], [22]), ([23, 24, 22], [22, 23, 24]), ([22, 25], [22, 25]), ([26, 22, 0, 1, 2, 3, 4, 5, 6, 7, 8, 9, 10, 11, 12, 13, 14, 15, 16, 17, 18, 19, 20, 21, 22, 23, 24, 25, 26], [26])])
def bourselaw12_EditBytes.B9 : List Nat := [0, 0, 3, 7, 15, 15, 63, 127, 255, 511, 1023, 511, 4095, 8191, 16383, 32767, 65535, 131071, 262143, 131071, 1048575, 2097151, 4194303, 8388607, 8388607, 33554431, 67108863, 134217727]
theorem bourselaw12_EditBytes.tab9 : rtab .any (opsOf Tryd.f3 9) = bourselaw12_EditBytes.T9 := by kernel_rfl
theorem bourselaw12_EditBytes.bits9 : waitsOk bourselaw12_EditBytes.T9.2 bourselaw12_EditBytes.B9 = true := by kernel_rfl
set_option maxHeartbeats 8000000 in
set_option maxRecDepth 100000 in
theorem bourselaw12_EditBytes.calls (k : Nat) (a0_0 : Int) (a0_1 : Int) (a0_2 : Int) (A0_3 : Option Addr) (c0_3 : Nat) (l0_3 : List (S107)) (A0_4 : Option Addr) (c0_4 : Nat) (l0_4 : List (S111)) (a1 : ByteArray) (r : Bool) (w : World) (hr0_3 : Kd.C k107 w A0_3 l0_3.length l0_3) (hc0_3 : l0_3.length ≤ c0_3) (hr0_4 : Kd.C k111 w A0_4 l0_4.length l0_4) (hc0_4 : l0_4.length ≤ c0_4) (h : bourselaw12_EditBytes.f k a0_0 a0_1 a0_2 l0_3 l0_4 a1 = some r) :
    Calls Tryd.prog 3 #[.agg #[.int .u64 a0_0, .int .u64 a0_1, .int .u64 a0_2, .slice A0_3 l0_3.length c0_3, .slice A0_4 l0_4.length c0_4], .string a1] w fun e w' => e = .returned (.bool r) ∧ Below w.heap.size w w' := by
  have hu26 := Tryd.underlying26
  have hu36 := Tryd.underlying36
  have HR0_3 := Aside0.mk hr0_3
  have HC0_3 := Aside0.mk hc0_3
  clear hr0_3 hc0_3
  have HR0_4 := Aside0.mk hr0_4
  have HC0_4 := Aside0.mk hc0_4
  clear hr0_4 hc0_4
  have HB := Aside0.mk (Below.refl w.heap.size w)
  have H : ((bourselaw12_awake.f).bind fun t260 => (if t260 = true then ((bourselaw12_Light.f k a0_0 a0_1 a0_2 l0_3 l0_4).bind fun t261 => (if t261 = true then (bourselaw12_EditBytes.j0 k a1 (decide ((a1.size : Int) > 5000)) a0_0 a0_1 a0_2 l0_3 l0_4) else (bourselaw12_EditBytes.j0 k a1 true a0_0 a0_1 a0_2 l0_3 l0_4))) else (none))) = some r := h
  clear h
  replace H := Option.bind_eq_some_iff.mp H
  obtain ⟨t260, A30, H⟩ := H
  replace H : (if t260 = true then ((bourselaw12_Light.f k a0_0 a0_1 a0_2 l0_3 l0_4).bind fun t261 => (if t261 = true then (bourselaw12_EditBytes.j0 k a1 (decide ((a1.size : Int) > 5000)) a0_0 a0_1 a0_2 l0_3 l0_4) else (bourselaw12_EditBytes.j0 k a1 true a0_0 a0_1 a0_2 l0_3 l0_4))) else (none)) = some r := H
  have A3 := Aside0.mk A30
  clear A30
  by_cases c4 : t260 = true
  · subst c4
    have H1 : ((bourselaw12_Light.f k a0_0 a0_1 a0_2 l0_3 l0_4).bind fun t261 => (if t261 = true then (bourselaw12_EditBytes.j0 k a1 (decide ((a1.size : Int) > 5000)) a0_0 a0_1 a0_2 l0_3 l0_4) else (bourselaw12_EditBytes.j0 k a1 true a0_0 a0_1 a0_2 l0_3 l0_4))) = some r := by rw [if_pos rfl] at H; exact H
    clear H
    have H := H1
    clear H1
    have HC5 := Aside0.mk H
    clear H
    go_enter Tryd.func3, Tryd.ntmps3
    go_upto_region 3 with (first | ((with_reducible refine gate_dst (N := 2) rfl ?_); (try (refine gate_guard (by rfl) ?_; dsimp only)); refine box_event ?hg (N := 2) ?hd (cs := #[.int .u64 a0_0, .int .u64 a0_1, .int .u64 a0_2, .slice A0_3 l0_3.length c0_3, .slice A0_4 l0_4.length c0_4]) (t := 26) ?hr ?_; (case hd => rfl); (case hg => rfl); (case hr => first | (go_simp; done) | (go_simp; rfl)); intro gb259 hg w6 hbox hb; have n0_ := Aside0.mk (below_step (by repeat (first | (with_reducible first | exact HB.out | apply below_alloc | apply pw_below_drewN | apply below_drew1) | exact HB.out)) hb); have n1_ := Aside0.mk (hbox); have n2_ := Aside0.mk ((by rw [hg]; exact (below_size (by repeat (first | (with_reducible first | exact HB.out | apply below_alloc | apply pw_below_drewN | apply below_drew1) | exact HB.out))) : w.heap.size ≤ gb259)); have n3_ := Aside0.mk ((by rw [hg]; exact (below_size (by repeat (first | (with_reducible first | exact HB.out | apply below_alloc | apply pw_below_drewN | apply below_drew1) | exact HB.out))) : w.heap.size ≤ gb259)); clear HB; have HB := n0_; have BK259 := n1_; have GW259 := n2_; have GE259 := n3_; clear n0_ n1_ n2_ n3_; clear hb hbox hg) | ((with_reducible refine gate_callee (f := 13) rfl ?_); refine goesL_ (some 13) rfl rfl Tryd.func13 (by kernel_rfl) rfl #[] rfl (by (try simp only [List.map_toArray, List.map_cons, List.map_nil]); first | done | rfl | (simp only [List.length_drop, List.length_take]; rfl)) ?_; (with_reducible refine (bourselaw12_awake.calls  true _ A3.out).mono ?_); rintro e w7 ⟨rfl, hb⟩; refine ⟨_, rfl, ?_⟩; have n0_ := Aside0.mk (blk_below (g := gb259) (o := .cells #[.int .u64 a0_0, .int .u64 a0_1, .int .u64 a0_2, .slice A0_3 l0_3.length c0_3, .slice A0_4 l0_4.length c0_4] 26 (0, 0)) (by (with_reducible repeat (first | refine blk_drewN ?_ _ | refine blk_drew ?_ | refine blk_alloc ?_ _)); exact BK259.out) hb); have n1_ := Aside0.mk (below_step (by repeat (first | (with_reducible first | exact HB.out | apply below_alloc | apply pw_below_drewN | apply below_drew1 | refine below_set ?_ GE259.out) | exact HB.out)) hb); clear BK259; clear HB; have BK259 := n0_; have HB := n1_; clear n0_ n1_; (try clear hb); (try clear hb2); (try clear hk); (try clear hi)))
    (try simp only [Act.put, List.setIfInBounds_toArray, List.set_cons_zero, List.set_cons_succ])
    go_cut [22] (fun v22 wc => ∃ (kq : Nat) (x22_4 : Bool), v22 = .bool x22_4 ∧ Aside0 (bourselaw12_EditBytes.j0 kq a1 x22_4 a0_0 a0_1 a0_2 l0_3 l0_4 = some r) ∧ Aside0 (kq ≤ k) ∧ Aside0 (wc.heap[gb259]? = some (.cells #[.int .u64 a0_0, .int .u64 a0_1, .int .u64 a0_2, (.slice A0_3 l0_3.length c0_3), (.slice A0_4 l0_4.length c0_4)] 26 (0, 0))) ∧ Aside0 (Below w.heap.size w wc))
    case first =>
      have H := HC5.out
      clear HC5
      replace H := Option.bind_eq_some_iff.mp H
      obtain ⟨t261, A80, H⟩ := H
      replace H : (if t261 = true then (bourselaw12_EditBytes.j0 k a1 (decide ((a1.size : Int) > 5000)) a0_0 a0_1 a0_2 l0_3 l0_4) else (bourselaw12_EditBytes.j0 k a1 true a0_0 a0_1 a0_2 l0_3 l0_4)) = some r := H
      have A8 := Aside0.mk A80
      clear A80
      by_cases c9 : t261 = true
      · subst c9
        have H1 : (bourselaw12_EditBytes.j0 k a1 (decide ((a1.size : Int) > 5000)) a0_0 a0_1 a0_2 l0_3 l0_4) = some r := by rw [if_pos rfl] at H; exact H
        clear H
        have H := H1
        clear H1
        have H' := Aside0.mk H
        clear H
        have hcz10_0 : w7.cell? ⟨gb259, 0, none⟩ = some (.int .u64 a0_0) := (blk_cell BK259.out 0).trans rfl
        have hcz10_1 : w7.cell? ⟨gb259, 1, none⟩ = some (.int .u64 a0_1) := (blk_cell BK259.out 1).trans rfl
        have hcz10_2 : w7.cell? ⟨gb259, 2, none⟩ = some (.int .u64 a0_2) := (blk_cell BK259.out 2).trans rfl
        have hcz10_3 : w7.cell? ⟨gb259, 3, none⟩ = some (.slice A0_3 l0_3.length c0_3) := (blk_cell BK259.out 3).trans rfl
        have hcz10_4 : w7.cell? ⟨gb259, 4, none⟩ = some (.slice A0_4 l0_4.length c0_4) := (blk_cell BK259.out 4).trans rfl
        have hfz10_0 := blk_frozen BK259.out 0
        have hfz10_1 := blk_frozen BK259.out 1
        have hfz10_2 := blk_frozen BK259.out 2
        have hfz10_3 := blk_frozen BK259.out 3
        have hfz10_4 := blk_frozen BK259.out 4
        go_wp2_with (first | ((with_reducible refine gate_callee (f := 14) rfl ?_); refine goesL_ (some 16) rfl rfl Tryd.func14 (by kernel_rfl) rfl #[.agg #[.int .u64 a0_0, .int .u64 a0_1, .int .u64 a0_2, .slice A0_3 l0_3.length c0_3, .slice A0_4 l0_4.length c0_4]] rfl (by (try simp only [List.map_toArray, List.map_cons, List.map_nil]); first | done | rfl | (simp only [List.length_drop, List.length_take]; rfl)) ?_; (with_reducible refine (bourselaw12_Light.calls k a0_0 a0_1 a0_2 _ _ l0_3 _ _ l0_4 true _ ?side1 ?side2 ?side3 ?side4 A8.out).mono ?_); (case side1 => repeat (first | exact (Kd.C_below HR0_3.out HB.out) | (with_reducible refine Kd.C_alloc ?_ _) | (with_reducible refine Kd.C_drewN ?_ _) | (with_reducible refine Kd.C_drew ?_))); (case side2 => exact HC0_3.out); (case side3 => repeat (first | exact (Kd.C_below HR0_4.out HB.out) | (with_reducible refine Kd.C_alloc ?_ _) | (with_reducible refine Kd.C_drewN ?_ _) | (with_reducible refine Kd.C_drew ?_))); (case side4 => exact HC0_4.out); rintro e w11 ⟨rfl, hb⟩; refine ⟨_, rfl, ?_⟩; have n0_ := Aside0.mk (blk_below (g := gb259) (o := .cells #[.int .u64 a0_0, .int .u64 a0_1, .int .u64 a0_2, .slice A0_3 l0_3.length c0_3, .slice A0_4 l0_4.length c0_4] 26 (0, 0)) (by (with_reducible repeat (first | refine blk_drewN ?_ _ | refine blk_drew ?_ | refine blk_alloc ?_ _)); exact BK259.out) hb); have n1_ := Aside0.mk (below_step (by repeat (first | (with_reducible first | exact HB.out | apply below_alloc | apply pw_below_drewN | apply below_drew1 | refine below_set ?_ GE259.out) | exact HB.out)) hb); clear BK259; clear HB; have BK259 := n0_; have HB := n1_; clear n0_ n1_; (try clear hb); (try clear hb2); (try clear hk); (try clear hi)))
        go_meet
        case rel => exact ⟨_, (decide ((a1.size : Int) > 5000)), (by first | rfl | (simp; done) | (simp [*]; done)), H', ⟨by first | omega | exact Nat.le_refl _⟩, ⟨by (with_reducible repeat (first | refine blk_drewN ?_ _ | refine blk_drew ?_ | refine blk_alloc ?_ _)); exact BK259.out⟩, ⟨by repeat (first | (with_reducible first | exact HB.out | apply below_alloc | apply pw_below_drewN | apply below_drew1 | refine below_set ?_ GE259.out) | exact HB.out)⟩⟩
      · replace c9 := Bool.eq_false_iff.mpr c9
        subst c9
        have H1 : (bourselaw12_EditBytes.j0 k a1 true a0_0 a0_1 a0_2 l0_3 l0_4) = some r := by rw [if_neg (show ¬ (false = true) by decide)] at H; exact H
        clear H
        have H := H1
        clear H1
        have H' := Aside0.mk H
        clear H
        have hcz12_0 : w7.cell? ⟨gb259, 0, none⟩ = some (.int .u64 a0_0) := (blk_cell BK259.out 0).trans rfl
        have hcz12_1 : w7.cell? ⟨gb259, 1, none⟩ = some (.int .u64 a0_1) := (blk_cell BK259.out 1).trans rfl
        have hcz12_2 : w7.cell? ⟨gb259, 2, none⟩ = some (.int .u64 a0_2) := (blk_cell BK259.out 2).trans rfl
        have hcz12_3 : w7.cell? ⟨gb259, 3, none⟩ = some (.slice A0_3 l0_3.length c0_3) := (blk_cell BK259.out 3).trans rfl
        have hcz12_4 : w7.cell? ⟨gb259, 4, none⟩ = some (.slice A0_4 l0_4.length c0_4) := (blk_cell BK259.out 4).trans rfl
        have hfz12_0 := blk_frozen BK259.out 0
        have hfz12_1 := blk_frozen BK259.out 1
        have hfz12_2 := blk_frozen BK259.out 2
        have hfz12_3 := blk_frozen BK259.out 3
        have hfz12_4 := blk_frozen BK259.out 4
        go_wp2_with (first | ((with_reducible refine gate_callee (f := 14) rfl ?_); refine goesL_ (some 16) rfl rfl Tryd.func14 (by kernel_rfl) rfl #[.agg #[.int .u64 a0_0, .int .u64 a0_1, .int .u64 a0_2, .slice A0_3 l0_3.length c0_3, .slice A0_4 l0_4.length c0_4]] rfl (by (try simp only [List.map_toArray, List.map_cons, List.map_nil]); first | done | rfl | (simp only [List.length_drop, List.length_take]; rfl)) ?_; (with_reducible refine (bourselaw12_Light.calls k a0_0 a0_1 a0_2 _ _ l0_3 _ _ l0_4 false _ ?side1 ?side2 ?side3 ?side4 A8.out).mono ?_); (case side1 => repeat (first | exact (Kd.C_below HR0_3.out HB.out) | (with_reducible refine Kd.C_alloc ?_ _) | (with_reducible refine Kd.C_drewN ?_ _) | (with_reducible refine Kd.C_drew ?_))); (case side2 => exact HC0_3.out); (case side3 => repeat (first | exact (Kd.C_below HR0_4.out HB.out) | (with_reducible refine Kd.C_alloc ?_ _) | (with_reducible refine Kd.C_drewN ?_ _) | (with_reducible refine Kd.C_drew ?_))); (case side4 => exact HC0_4.out); rintro e w13 ⟨rfl, hb⟩; refine ⟨_, rfl, ?_⟩; have n0_ := Aside0.mk (blk_below (g := gb259) (o := .cells #[.int .u64 a0_0, .int .u64 a0_1, .int .u64 a0_2, .slice A0_3 l0_3.length c0_3, .slice A0_4 l0_4.length c0_4] 26 (0, 0)) (by (with_reducible repeat (first | refine blk_drewN ?_ _ | refine blk_drew ?_ | refine blk_alloc ?_ _)); exact BK259.out) hb); have n1_ := Aside0.mk (below_step (by repeat (first | (with_reducible first | exact HB.out | apply below_alloc | apply pw_below_drewN | apply below_drew1 | refine below_set ?_ GE259.out) | exact HB.out)) hb); clear BK259; clear HB; have BK259 := n0_; have HB := n1_; clear n0_ n1_; (try clear hb); (try clear hb2); (try clear hk); (try clear hi)))
        go_meet
        case rel => exact ⟨_, (true), (by first | rfl | (simp; done) | (simp [*]; done)), H', ⟨by first | omega | exact Nat.le_refl _⟩, ⟨by (with_reducible repeat (first | refine blk_drewN ?_ _ | refine blk_drew ?_ | refine blk_alloc ?_ _)); exact BK259.out⟩, ⟨by repeat (first | (with_reducible first | exact HB.out | apply below_alloc | apply pw_below_drewN | apply below_drew1 | refine below_set ?_ GE259.out) | exact HB.out)⟩⟩
    case rest =>
      clear HC5
      try clear c1
      try clear p2
      try clear c3
      try clear c4
      try clear c9
      try clear c13
      try clear hcz10_0
      try clear hcz10_1
      try clear hcz10_2
      try clear hcz10_3
      try clear hcz10_4
      try clear hcz12_0
      try clear hcz12_1
      try clear hcz12_2
      try clear hcz12_3
      try clear hcz12_4
      try clear hfz10_0
      try clear hfz10_1
      try clear hfz10_2
      try clear hfz10_3
      try clear hfz10_4
      try clear hfz12_0
      try clear hfz12_1
      try clear hfz12_2
      try clear hfz12_3
      try clear hfz12_4
      obtain ⟨kq, x22_4, rfl, HA, HJ4, BK259, HB⟩ := hcut
      cases kq with
      | zero => exact absurd HA.out (by simp [bourselaw12_EditBytes.j0])
      | succ kj4 =>
        have H := HA.out
        clear HA
        simp only [bourselaw12_EditBytes.j0] at H
        by_cases c14 : x22_4 = true
        · subst c14
          have H1 : (some true) = some r := by rw [if_pos rfl] at H; exact H
          clear H
          have H := H1
          clear H1
          obtain rfl := Option.some.inj H
          go_wp2
          go_ret
          exact ⟨by first | rfl | (simp [errW_none, errW_some] <;> rfl) | (simp [*, errW_none, errW_some] <;> rfl), by repeat (first | (with_reducible first | exact HB.out | apply below_alloc | apply pw_below_drewN | apply below_drew1 | refine below_set ?_ GE259.out) | exact HB.out)⟩
        · replace c14 := Bool.eq_false_iff.mpr c14
          subst c14
          have H1 : ((edit_Edit_Bytes.f kj4 a0_0 a0_1 a0_2 l0_3 l0_4).bind fun bt262 => ((bourselaw12_To.f kj4 a0_0 a0_1 a0_2 l0_3 l0_4).bind fun bt264 => ((bourseref12_Edit_Bytes.f kj4 bt264.1 bt264.2.1 bt264.2.2.1 bt264.2.2.2.1 bt264.2.2.2.2).bind fun bt273 => ((edit_Parse.f a1).bind fun bt275 => ((bourseref12_Parse.f a1).bind fun bt286 => (if bt262.1.toList = bt273.1.toList then (if bt262.2 = bt273.2 then ((edit_Edit_Check.f a0_0 a0_1 a0_2 l0_3 l0_4).bind fun t297 => ((bourselaw12_To.f kj4 a0_0 a0_1 a0_2 l0_3 l0_4).bind fun bt298 => ((bourseref12_Edit_Check.f kj4 bt298.1 bt298.2.1 bt298.2.2.1 bt298.2.2.2.1 bt298.2.2.2.2).bind fun t307 => (if t297 = t307 then ((bourselaw12_To.f kj4 bt275.1 bt275.2.1 bt275.2.2.1 bt275.2.2.2.1 bt275.2.2.2.2.1).bind fun bt308 => ((bourseref12_Same.f kj4 bt308.1 bt308.2.1 bt308.2.2.1 bt308.2.2.2.1 bt308.2.2.2.2 bt286.1 bt286.2.1 bt286.2.2.1 bt286.2.2.2.1 bt286.2.2.2.2.1).bind fun t317 => (if t317 = true then (some (bt275.2.2.2.2.2 == bt286.2.2.2.2.2)) else (none)))) else (none))))) else (none)) else (none))))))) = some r := by rw [if_neg (show ¬ (false = true) by decide)] at H; exact H
          clear H
          have H := H1
          clear H1
          replace H := Option.bind_eq_some_iff.mp H
          obtain ⟨⟨t262, t263⟩, A150, H⟩ := H
          replace H : ((bourselaw12_To.f kj4 a0_0 a0_1 a0_2 l0_3 l0_4).bind fun bt264 => ((bourseref12_Edit_Bytes.f kj4 bt264.1 bt264.2.1 bt264.2.2.1 bt264.2.2.2.1 bt264.2.2.2.2).bind fun bt273 => ((edit_Parse.f a1).bind fun bt275 => ((bourseref12_Parse.f a1).bind fun bt286 => (if t262.toList = bt273.1.toList then (if t263 = bt273.2 then ((edit_Edit_Check.f a0_0 a0_1 a0_2 l0_3 l0_4).bind fun t297 => ((bourselaw12_To.f kj4 a0_0 a0_1 a0_2 l0_3 l0_4).bind fun bt298 => ((bourseref12_Edit_Check.f kj4 bt298.1 bt298.2.1 bt298.2.2.1 bt298.2.2.2.1 bt298.2.2.2.2).bind fun t307 => (if t297 = t307 then ((bourselaw12_To.f kj4 bt275.1 bt275.2.1 bt275.2.2.1 bt275.2.2.2.1 bt275.2.2.2.2.1).bind fun bt308 => ((bourseref12_Same.f kj4 bt308.1 bt308.2.1 bt308.2.2.1 bt308.2.2.2.1 bt308.2.2.2.2 bt286.1 bt286.2.1 bt286.2.2.1 bt286.2.2.2.1 bt286.2.2.2.2.1).bind fun t317 => (if t317 = true then (some (bt275.2.2.2.2.2 == bt286.2.2.2.2.2)) else (none)))) else (none))))) else (none)) else (none)))))) = some r := H
          have A15 := Aside0.mk A150
          clear A150
          replace H := Option.bind_eq_some_iff.mp H
          obtain ⟨⟨t264, t265, t266, t267, t270⟩, A160, H⟩ := H
          replace H : ((bourseref12_Edit_Bytes.f kj4 t264 t265 t266 t267 t270).bind fun bt273 => ((edit_Parse.f a1).bind fun bt275 => ((bourseref12_Parse.f a1).bind fun bt286 => (if t262.toList = bt273.1.toList then (if t263 = bt273.2 then ((edit_Edit_Check.f a0_0 a0_1 a0_2 l0_3 l0_4).bind fun t297 => ((bourselaw12_To.f kj4 a0_0 a0_1 a0_2 l0_3 l0_4).bind fun bt298 => ((bourseref12_Edit_Check.f kj4 bt298.1 bt298.2.1 bt298.2.2.1 bt298.2.2.2.1 bt298.2.2.2.2).bind fun t307 => (if t297 = t307 then ((bourselaw12_To.f kj4 bt275.1 bt275.2.1 bt275.2.2.1 bt275.2.2.2.1 bt275.2.2.2.2.1).bind fun bt308 => ((bourseref12_Same.f kj4 bt308.1 bt308.2.1 bt308.2.2.1 bt308.2.2.2.1 bt308.2.2.2.2 bt286.1 bt286.2.1 bt286.2.2.1 bt286.2.2.2.1 bt286.2.2.2.2.1).bind fun t317 => (if t317 = true then (some (bt275.2.2.2.2.2 == bt286.2.2.2.2.2)) else (none)))) else (none))))) else (none)) else (none))))) = some r := H
          have A16 := Aside0.mk A160
          clear A160
          replace H := Option.bind_eq_some_iff.mp H
          obtain ⟨⟨t273, t274⟩, A170, H⟩ := H
          replace H : ((edit_Parse.f a1).bind fun bt275 => ((bourseref12_Parse.f a1).bind fun bt286 => (if t262.toList = t273.toList then (if t263 = t274 then ((edit_Edit_Check.f a0_0 a0_1 a0_2 l0_3 l0_4).bind fun t297 => ((bourselaw12_To.f kj4 a0_0 a0_1 a0_2 l0_3 l0_4).bind fun bt298 => ((bourseref12_Edit_Check.f kj4 bt298.1 bt298.2.1 bt298.2.2.1 bt298.2.2.2.1 bt298.2.2.2.2).bind fun t307 => (if t297 = t307 then ((bourselaw12_To.f kj4 bt275.1 bt275.2.1 bt275.2.2.1 bt275.2.2.2.1 bt275.2.2.2.2.1).bind fun bt308 => ((bourseref12_Same.f kj4 bt308.1 bt308.2.1 bt308.2.2.1 bt308.2.2.2.1 bt308.2.2.2.2 bt286.1 bt286.2.1 bt286.2.2.1 bt286.2.2.2.1 bt286.2.2.2.2.1).bind fun t317 => (if t317 = true then (some (bt275.2.2.2.2.2 == bt286.2.2.2.2.2)) else (none)))) else (none))))) else (none)) else (none)))) = some r := H
          have A17 := Aside0.mk A170
          clear A170
          replace H := Option.bind_eq_some_iff.mp H
          obtain ⟨⟨t275, t276, t277, t278, t281, t284⟩, A180, H⟩ := H
          replace H : ((bourseref12_Parse.f a1).bind fun bt286 => (if t262.toList = t273.toList then (if t263 = t274 then ((edit_Edit_Check.f a0_0 a0_1 a0_2 l0_3 l0_4).bind fun t297 => ((bourselaw12_To.f kj4 a0_0 a0_1 a0_2 l0_3 l0_4).bind fun bt298 => ((bourseref12_Edit_Check.f kj4 bt298.1 bt298.2.1 bt298.2.2.1 bt298.2.2.2.1 bt298.2.2.2.2).bind fun t307 => (if t297 = t307 then ((bourselaw12_To.f kj4 t275 t276 t277 t278 t281).bind fun bt308 => ((bourseref12_Same.f kj4 bt308.1 bt308.2.1 bt308.2.2.1 bt308.2.2.2.1 bt308.2.2.2.2 bt286.1 bt286.2.1 bt286.2.2.1 bt286.2.2.2.1 bt286.2.2.2.2.1).bind fun t317 => (if t317 = true then (some (t284 == bt286.2.2.2.2.2)) else (none)))) else (none))))) else (none)) else (none))) = some r := H
          have A18 := Aside0.mk A180
          clear A180
          replace H := Option.bind_eq_some_iff.mp H
          obtain ⟨⟨t286, t287, t288, t289, t292, t295⟩, A190, H⟩ := H
          replace H : (if t262.toList = t273.toList then (if t263 = t274 then ((edit_Edit_Check.f a0_0 a0_1 a0_2 l0_3 l0_4).bind fun t297 => ((bourselaw12_To.f kj4 a0_0 a0_1 a0_2 l0_3 l0_4).bind fun bt298 => ((bourseref12_Edit_Check.f kj4 bt298.1 bt298.2.1 bt298.2.2.1 bt298.2.2.2.1 bt298.2.2.2.2).bind fun t307 => (if t297 = t307 then ((bourselaw12_To.f kj4 t275 t276 t277 t278 t281).bind fun bt308 => ((bourseref12_Same.f kj4 bt308.1 bt308.2.1 bt308.2.2.1 bt308.2.2.2.1 bt308.2.2.2.2 t286 t287 t288 t289 t292).bind fun t317 => (if t317 = true then (some (t284 == t295)) else (none)))) else (none))))) else (none)) else (none)) = some r := H
          have A19 := Aside0.mk A190
          clear A190
          by_cases c20 : t262.toList = t273.toList
          · rw [if_pos c20] at H
            have c20b0 : (t262.toList == t273.toList) = true := beq_iff_eq.mpr c20
            have c20b1 : (t262.toList != t273.toList) = false := bne_eq_false_iff_eq.mpr c20
            clear c20
            by_cases c21 : t263 = t274
            · rw [if_pos c21] at H
              have c21b0 : (t263 == t274) = true := beq_iff_eq.mpr c21
              have c21b1 : (t263 != t274) = false := bne_eq_false_iff_eq.mpr c21
              clear c21
              replace H := Option.bind_eq_some_iff.mp H
              obtain ⟨t297, A220, H⟩ := H
              replace H : ((bourselaw12_To.f kj4 a0_0 a0_1 a0_2 l0_3 l0_4).bind fun bt298 => ((bourseref12_Edit_Check.f kj4 bt298.1 bt298.2.1 bt298.2.2.1 bt298.2.2.2.1 bt298.2.2.2.2).bind fun t307 => (if t297 = t307 then ((bourselaw12_To.f kj4 t275 t276 t277 t278 t281).bind fun bt308 => ((bourseref12_Same.f kj4 bt308.1 bt308.2.1 bt308.2.2.1 bt308.2.2.2.1 bt308.2.2.2.2 t286 t287 t288 t289 t292).bind fun t317 => (if t317 = true then (some (t284 == t295)) else (none)))) else (none)))) = some r := H
              have A22 := Aside0.mk A220
              clear A220
              replace H := Option.bind_eq_some_iff.mp H
              obtain ⟨⟨t298, t299, t300, t301, t304⟩, A230, H⟩ := H
              replace H : ((bourseref12_Edit_Check.f kj4 t298 t299 t300 t301 t304).bind fun t307 => (if t297 = t307 then ((bourselaw12_To.f kj4 t275 t276 t277 t278 t281).bind fun bt308 => ((bourseref12_Same.f kj4 bt308.1 bt308.2.1 bt308.2.2.1 bt308.2.2.2.1 bt308.2.2.2.2 t286 t287 t288 t289 t292).bind fun t317 => (if t317 = true then (some (t284 == t295)) else (none)))) else (none))) = some r := H
              have A23 := Aside0.mk A230
              clear A230
              replace H := Option.bind_eq_some_iff.mp H
              obtain ⟨t307, A240, H⟩ := H
              replace H : (if t297 = t307 then ((bourselaw12_To.f kj4 t275 t276 t277 t278 t281).bind fun bt308 => ((bourseref12_Same.f kj4 bt308.1 bt308.2.1 bt308.2.2.1 bt308.2.2.2.1 bt308.2.2.2.2 t286 t287 t288 t289 t292).bind fun t317 => (if t317 = true then (some (t284 == t295)) else (none)))) else (none)) = some r := H
              have A24 := Aside0.mk A240
              clear A240
              by_cases c25 : t297 = t307
              · rw [if_pos c25] at H
                have c25b0 : (t297 == t307) = true := beq_iff_eq.mpr c25
                have c25b1 : (t297 != t307) = false := bne_eq_false_iff_eq.mpr c25
                clear c25
                replace H := Option.bind_eq_some_iff.mp H
                obtain ⟨⟨t308, t309, t310, t311, t314⟩, A260, H⟩ := H
                replace H : ((bourseref12_Same.f kj4 t308 t309 t310 t311 t314 t286 t287 t288 t289 t292).bind fun t317 => (if t317 = true then (some (t284 == t295)) else (none))) = some r := H
                have A26 := Aside0.mk A260
                clear A260
                replace H := Option.bind_eq_some_iff.mp H
                obtain ⟨t317, A270, H⟩ := H
                replace H : (if t317 = true then (some (t284 == t295)) else (none)) = some r := H
                have A27 := Aside0.mk A270
                clear A270
                by_cases c28 : t317 = true
                · subst c28
                  have H1 : (some (t284 == t295)) = some r := by rw [if_pos rfl] at H; exact H
                  clear H
                  have H := H1
                  clear H1
                  obtain rfl := Option.some.inj H
                  have hcz29_0 : wc.cell? ⟨gb259, 0, none⟩ = some (.int .u64 a0_0) := (blk_cell BK259.out 0).trans rfl
                  have hcz29_1 : wc.cell? ⟨gb259, 1, none⟩ = some (.int .u64 a0_1) := (blk_cell BK259.out 1).trans rfl
                  have hcz29_2 : wc.cell? ⟨gb259, 2, none⟩ = some (.int .u64 a0_2) := (blk_cell BK259.out 2).trans rfl
                  have hcz29_3 : wc.cell? ⟨gb259, 3, none⟩ = some (.slice A0_3 l0_3.length c0_3) := (blk_cell BK259.out 3).trans rfl
                  have hcz29_4 : wc.cell? ⟨gb259, 4, none⟩ = some (.slice A0_4 l0_4.length c0_4) := (blk_cell BK259.out 4).trans rfl
                  have hfz29_0 := blk_frozen BK259.out 0
                  have hfz29_1 := blk_frozen BK259.out 1
                  have hfz29_2 := blk_frozen BK259.out 2
                  have hfz29_3 := blk_frozen BK259.out 3
                  have hfz29_4 := blk_frozen BK259.out 4
                  try go_wp2_with (first | ((with_reducible refine gate_callee (f := 15) rfl ?_); refine goesL_ (some 25) rfl rfl Tryd.func15 (by kernel_rfl) rfl #[.agg #[.int .u64 a0_0, .int .u64 a0_1, .int .u64 a0_2, .slice A0_3 l0_3.length c0_3, .slice A0_4 l0_4.length c0_4]] rfl (by (try simp only [List.map_toArray, List.map_cons, List.map_nil]); first | done | rfl | (simp only [List.length_drop, List.length_take]; rfl)) ?_; (with_reducible refine (edit_Edit_Bytes.calls kj4 a0_0 a0_1 a0_2 _ _ l0_3 _ _ l0_4 t262 t263 _ ?side1 ?side2 ?side3 ?side4 A15.out).mono ?_); (case side1 => repeat (first | exact (Kd.C_below HR0_3.out HB.out) | (with_reducible refine Kd.C_alloc ?_ _) | (with_reducible refine Kd.C_drewN ?_ _) | (with_reducible refine Kd.C_drew ?_))); (case side2 => exact HC0_3.out); (case side3 => repeat (first | exact (Kd.C_below HR0_4.out HB.out) | (with_reducible refine Kd.C_alloc ?_ _) | (with_reducible refine Kd.C_drewN ?_ _) | (with_reducible refine Kd.C_drew ?_))); (case side4 => exact HC0_4.out); rintro e w30 ⟨rfl, hb⟩; refine ⟨_, rfl, ?_⟩; have n0_ := Aside0.mk (blk_below (g := gb259) (o := .cells #[.int .u64 a0_0, .int .u64 a0_1, .int .u64 a0_2, .slice A0_3 l0_3.length c0_3, .slice A0_4 l0_4.length c0_4] 26 (0, 0)) (by (with_reducible repeat (first | refine blk_drewN ?_ _ | refine blk_drew ?_ | refine blk_alloc ?_ _)); exact BK259.out) hb); have n1_ := Aside0.mk (below_step (by repeat (first | (with_reducible first | exact HB.out | apply below_alloc | apply pw_below_drewN | apply below_drew1 | refine below_set ?_ GE259.out) | exact HB.out)) hb); clear BK259; clear HB; have BK259 := n0_; have HB := n1_; clear n0_ n1_; (try clear hb); (try clear hb2); (try clear hk); (try clear hi); have hcz31_0 : w30.cell? ⟨gb259, 0, none⟩ = some (.int .u64 a0_0) := (blk_cell BK259.out 0).trans rfl; have hcz31_1 : w30.cell? ⟨gb259, 1, none⟩ = some (.int .u64 a0_1) := (blk_cell BK259.out 1).trans rfl; have hcz31_2 : w30.cell? ⟨gb259, 2, none⟩ = some (.int .u64 a0_2) := (blk_cell BK259.out 2).trans rfl; have hcz31_3 : w30.cell? ⟨gb259, 3, none⟩ = some (.slice A0_3 l0_3.length c0_3) := (blk_cell BK259.out 3).trans rfl; have hcz31_4 : w30.cell? ⟨gb259, 4, none⟩ = some (.slice A0_4 l0_4.length c0_4) := (blk_cell BK259.out 4).trans rfl; have hfz31_0 := blk_frozen BK259.out 0; have hfz31_1 := blk_frozen BK259.out 1; have hfz31_2 := blk_frozen BK259.out 2; have hfz31_3 := blk_frozen BK259.out 3; have hfz31_4 := blk_frozen BK259.out 4) | ((with_reducible refine gate_callee (f := 16) rfl ?_); refine goesL_ (some 30) rfl rfl Tryd.func16 (by kernel_rfl) rfl #[.agg #[.int .u64 a0_0, .int .u64 a0_1, .int .u64 a0_2, .slice A0_3 l0_3.length c0_3, .slice A0_4 l0_4.length c0_4]] rfl (by (try simp only [List.map_toArray, List.map_cons, List.map_nil]); first | done | rfl | (simp only [List.length_drop, List.length_take]; rfl)) ?_; (with_reducible refine (bourselaw12_To.calls kj4 a0_0 a0_1 a0_2 _ _ l0_3 _ _ l0_4 t264 t265 t266 t267 t270 _ ?side1 ?side2 ?side3 ?side4 A16.out).mono ?_); (case side1 => repeat (first | exact (Kd.C_below HR0_3.out HB.out) | (with_reducible refine Kd.C_alloc ?_ _) | (with_reducible refine Kd.C_drewN ?_ _) | (with_reducible refine Kd.C_drew ?_))); (case side2 => exact HC0_3.out); (case side3 => repeat (first | exact (Kd.C_below HR0_4.out HB.out) | (with_reducible refine Kd.C_alloc ?_ _) | (with_reducible refine Kd.C_drewN ?_ _) | (with_reducible refine Kd.C_drew ?_))); (case side4 => exact HC0_4.out); rintro e w32 ⟨v268, v271, rfl, ho0, ho1, hb⟩; refine ⟨_, rfl, ?_⟩; have n0_ := Aside0.mk (Kd.R_lower ho0 (below_size (by repeat (first | (with_reducible first | exact HB.out | apply below_alloc | apply pw_below_drewN | apply below_drew1 | refine below_set ?_ GE259.out) | exact HB.out)))); have n1_ := Aside0.mk (Kd.R_lower ho1 (below_size (by repeat (first | (with_reducible first | exact HB.out | apply below_alloc | apply pw_below_drewN | apply below_drew1 | refine below_set ?_ GE259.out) | exact HB.out)))); have n2_ := Aside0.mk (blk_below (g := gb259) (o := .cells #[.int .u64 a0_0, .int .u64 a0_1, .int .u64 a0_2, .slice A0_3 l0_3.length c0_3, .slice A0_4 l0_4.length c0_4] 26 (0, 0)) (by (with_reducible repeat (first | refine blk_drewN ?_ _ | refine blk_drew ?_ | refine blk_alloc ?_ _)); exact BK259.out) hb); have n3_ := Aside0.mk (below_step (by repeat (first | (with_reducible first | exact HB.out | apply below_alloc | apply pw_below_drewN | apply below_drew1 | refine below_set ?_ GE259.out) | exact HB.out)) hb); clear BK259; clear HB; have HO269 := n0_; have HO272 := n1_; have BK259 := n2_; have HB := n3_; clear n0_ n1_ n2_ n3_; (try clear hb); (try clear hb2); (try clear hk); (try clear hi); (try clear ho0); (try clear ho1); obtain ⟨Ao33, co33, eo33⟩ := Kd.R_slice HO269.out; subst eo33; obtain ⟨Ao34, co34, eo34⟩ := Kd.R_slice HO272.out; subst eo34) | ((with_reducible refine gate_callee (f := 17) rfl ?_); refine goesL_ (some 31) rfl rfl Tryd.func17 (by kernel_rfl) rfl #[.agg #[.int .u64 t264, .int .u64 t265, .int .u64 t266, .slice Ao33 t267.length co33, .slice Ao34 t270.length co34]] rfl (by (try simp only [List.map_toArray, List.map_cons, List.map_nil]); first | done | rfl | (simp only [List.length_drop, List.length_take]; rfl)) ?_; (with_reducible refine (bourseref12_Edit_Bytes.calls kj4 t264 t265 t266 _ _ t267 _ _ t270 t273 t274 _ ?side1 ?side2 ?side3 ?side4 A17.out).mono ?_); (case side1 => repeat (first | exact (Kd.R_reads' HO269.out).2.2 | (with_reducible refine Kd.C_alloc ?_ _) | (with_reducible refine Kd.C_drewN ?_ _) | (with_reducible refine Kd.C_drew ?_))); (case side2 => exact (Kd.R_reads' HO269.out).2.1); (case side3 => repeat (first | exact (Kd.R_reads' HO272.out).2.2 | (with_reducible refine Kd.C_alloc ?_ _) | (with_reducible refine Kd.C_drewN ?_ _) | (with_reducible refine Kd.C_drew ?_))); (case side4 => exact (Kd.R_reads' HO272.out).2.1); rintro e w35 ⟨rfl, hb⟩; refine ⟨_, rfl, ?_⟩; have n0_ := Aside0.mk (Kd.R_below (by (with_reducible repeat (first | apply Kd.R_alloc | apply Kd.R_drewN | apply Kd.R_drew)); exact HO269.out) hb); have n1_ := Aside0.mk (Kd.R_below (by (with_reducible repeat (first | apply Kd.R_alloc | apply Kd.R_drewN | apply Kd.R_drew)); exact HO272.out) hb); have n2_ := Aside0.mk (blk_below (g := gb259) (o := .cells #[.int .u64 a0_0, .int .u64 a0_1, .int .u64 a0_2, .slice A0_3 l0_3.length c0_3, .slice A0_4 l0_4.length c0_4] 26 (0, 0)) (by (with_reducible repeat (first | refine blk_drewN ?_ _ | refine blk_drew ?_ | refine blk_alloc ?_ _)); exact BK259.out) hb); have n3_ := Aside0.mk (below_step (by repeat (first | (with_reducible first | exact HB.out | apply below_alloc | apply pw_below_drewN | apply below_drew1 | refine below_set ?_ GE259.out) | exact HB.out)) hb); clear HO269; clear HO272; clear BK259; clear HB; have HO269 := n0_; have HO272 := n1_; have BK259 := n2_; have HB := n3_; clear n0_ n1_ n2_ n3_; (try clear hb); (try clear hb2); (try clear hk); (try clear hi)) | ((with_reducible refine gate_callee (f := 18) rfl ?_); refine goesL_ (some 36) rfl rfl Tryd.func18 (by kernel_rfl) rfl #[.string a1] rfl (by (try simp only [List.map_toArray, List.map_cons, List.map_nil]); first | done | rfl | (simp only [List.length_drop, List.length_take]; rfl)) ?_; (with_reducible refine (edit_Parse.calls a1 t275 t276 t277 t278 t281 t284 _ A18.out).mono ?_); rintro e w36 ⟨v279, v282, rfl, ho0, ho1, hb⟩; refine ⟨_, rfl, ?_⟩; have n0_ := Aside0.mk (Kd.R_below (by (with_reducible repeat (first | apply Kd.R_alloc | apply Kd.R_drewN | apply Kd.R_drew)); exact HO269.out) hb); have n1_ := Aside0.mk (Kd.R_below (by (with_reducible repeat (first | apply Kd.R_alloc | apply Kd.R_drewN | apply Kd.R_drew)); exact HO272.out) hb); have n2_ := Aside0.mk (Kd.R_lower ho0 (below_size (by repeat (first | (with_reducible first | exact HB.out | apply below_alloc | apply pw_below_drewN | apply below_drew1 | refine below_set ?_ GE259.out) | exact HB.out)))); have n3_ := Aside0.mk (Kd.R_lower ho1 (below_size (by repeat (first | (with_reducible first | exact HB.out | apply below_alloc | apply pw_below_drewN | apply below_drew1 | refine below_set ?_ GE259.out) | exact HB.out)))); have n4_ := Aside0.mk (blk_below (g := gb259) (o := .cells #[.int .u64 a0_0, .int .u64 a0_1, .int .u64 a0_2, .slice A0_3 l0_3.length c0_3, .slice A0_4 l0_4.length c0_4] 26 (0, 0)) (by (with_reducible repeat (first | refine blk_drewN ?_ _ | refine blk_drew ?_ | refine blk_alloc ?_ _)); exact BK259.out) hb); have n5_ := Aside0.mk (below_step (by repeat (first | (with_reducible first | exact HB.out | apply below_alloc | apply pw_below_drewN | apply below_drew1 | refine below_set ?_ GE259.out) | exact HB.out)) hb); clear HO269; clear HO272; clear BK259; clear HB; have HO269 := n0_; have HO272 := n1_; have HO280 := n2_; have HO283 := n3_; have BK259 := n4_; have HB := n5_; clear n0_ n1_ n2_ n3_ n4_ n5_; (try clear hb); (try clear hb2); (try clear hk); (try clear hi); (try clear ho0); (try clear ho1)) | ((with_reducible refine gate_dst (N := 9) rfl ?_); (try (refine gate_guard (by rfl) ?_; dsimp only)); refine box_event ?hg (N := 9) ?hd (cs := #[.int .u64 0, .int .u64 0, .int .u64 0, .slice none 0 0, .slice none 0 0]) (t := 26) ?hr ?_; (case hd => rfl); (case hg => rfl); (case hr => first | (go_simp; done) | (go_simp; rfl)); intro gb285 hg w37 hbox hb; have n0_ := Aside0.mk (Kd.R_below (by (with_reducible repeat (first | apply Kd.R_alloc | apply Kd.R_drewN | apply Kd.R_drew)); exact HO269.out) hb); have n1_ := Aside0.mk (Kd.R_below (by (with_reducible repeat (first | apply Kd.R_alloc | apply Kd.R_drewN | apply Kd.R_drew)); exact HO272.out) hb); have n2_ := Aside0.mk (Kd.R_below (by (with_reducible repeat (first | apply Kd.R_alloc | apply Kd.R_drewN | apply Kd.R_drew)); exact HO280.out) hb); have n3_ := Aside0.mk (Kd.R_below (by (with_reducible repeat (first | apply Kd.R_alloc | apply Kd.R_drewN | apply Kd.R_drew)); exact HO283.out) hb); have n4_ := Aside0.mk (blk_below (g := gb259) (o := .cells #[.int .u64 a0_0, .int .u64 a0_1, .int .u64 a0_2, .slice A0_3 l0_3.length c0_3, .slice A0_4 l0_4.length c0_4] 26 (0, 0)) (by (with_reducible repeat (first | refine blk_drewN ?_ _ | refine blk_drew ?_ | refine blk_alloc ?_ _)); exact BK259.out) hb); have n5_ := Aside0.mk (below_step (by repeat (first | (with_reducible first | exact HB.out | apply below_alloc | apply pw_below_drewN | apply below_drew1 | refine below_set ?_ GE259.out) | exact HB.out)) hb); have n6_ := Aside0.mk (hbox); have n7_ := Aside0.mk ((by rw [hg]; exact (below_size (by repeat (first | (with_reducible first | exact HB.out | apply below_alloc | apply pw_below_drewN | apply below_drew1 | refine below_set ?_ GE259.out) | exact HB.out))) : w.heap.size ≤ gb285)); have n8_ := Aside0.mk ((by rw [hg]; exact (below_size (by repeat (first | (with_reducible first | exact HB.out | apply below_alloc | apply pw_below_drewN | apply below_drew1 | refine below_set ?_ GE259.out) | exact HB.out))) : w.heap.size ≤ gb285)); have n9_ := Aside0.mk ((by rw [hg]; exact Nat.ne_of_lt (blk_lt (g := gb259) (o := .cells #[.int .u64 a0_0, .int .u64 a0_1, .int .u64 a0_2, .slice A0_3 l0_3.length c0_3, .slice A0_4 l0_4.length c0_4] 26 (0, 0)) (by (with_reducible repeat (first | refine blk_drewN ?_ _ | refine blk_drew ?_ | refine blk_alloc ?_ _)); exact BK259.out)) : gb259 ≠ gb285)); have n10_ := Aside0.mk ((by rw [hg]; exact Nat.ne_of_gt (blk_lt (g := gb259) (o := .cells #[.int .u64 a0_0, .int .u64 a0_1, .int .u64 a0_2, .slice A0_3 l0_3.length c0_3, .slice A0_4 l0_4.length c0_4] 26 (0, 0)) (by (with_reducible repeat (first | refine blk_drewN ?_ _ | refine blk_drew ?_ | refine blk_alloc ?_ _)); exact BK259.out)) : gb285 ≠ gb259)); clear HO269; clear HO272; clear HO280; clear HO283; clear BK259; clear HB; have HO269 := n0_; have HO272 := n1_; have HO280 := n2_; have HO283 := n3_; have BK259 := n4_; have HB := n5_; have BK285 := n6_; have GW285 := n7_; have GE285 := n8_; have NB259_285 := n9_; have NB285_259 := n10_; clear n0_ n1_ n2_ n3_ n4_ n5_ n6_ n7_ n8_ n9_ n10_; clear hb hbox hg; have hnb38 := NB285_259.out; have hnc38 := NB259_285.out; have hcz39_0 : w37.cell? ⟨gb285, 0, none⟩ = some (.int .u64 0) := (blk_cell BK285.out 0).trans rfl; have hcz39_1 : w37.cell? ⟨gb285, 1, none⟩ = some (.int .u64 0) := (blk_cell BK285.out 1).trans rfl; have hcz39_2 : w37.cell? ⟨gb285, 2, none⟩ = some (.int .u64 0) := (blk_cell BK285.out 2).trans rfl; have hcz39_3 : w37.cell? ⟨gb285, 3, none⟩ = some (.slice none 0 0) := (blk_cell BK285.out 3).trans rfl; have hcz39_4 : w37.cell? ⟨gb285, 4, none⟩ = some (.slice none 0 0) := (blk_cell BK285.out 4).trans rfl; have hfz39_0 := blk_frozen BK285.out 0; have hfz39_1 := blk_frozen BK285.out 1; have hfz39_2 := blk_frozen BK285.out 2; have hfz39_3 := blk_frozen BK285.out 3; have hfz39_4 := blk_frozen BK285.out 4; obtain ⟨Ao40, co40, eo40⟩ := Kd.R_slice HO280.out; subst eo40; obtain ⟨Ao41, co41, eo41⟩ := Kd.R_slice HO283.out; subst eo41) | ((with_reducible refine gate_callee (f := 19) rfl ?_); refine goesL_ (some 41) rfl rfl Tryd.func19 (by kernel_rfl) rfl #[.string a1] rfl (by (try simp only [List.map_toArray, List.map_cons, List.map_nil]); first | done | rfl | (simp only [List.length_drop, List.length_take]; rfl)) ?_; (with_reducible refine (bourseref12_Parse.calls a1 t286 t287 t288 t289 t292 t295 _ A19.out).mono ?_); rintro e w42 ⟨v290, v293, rfl, ho0, ho1, hb⟩; refine ⟨_, rfl, ?_⟩; have n0_ := Aside0.mk (Kd.R_elder' (by (with_reducible repeat (first | apply Kd.R_alloc | apply Kd.R_drewN | apply Kd.R_drew)); exact (Kd.R_mono (Kd.R_far (p := ⟨gb285, 4, none⟩) (Kd.R_far (p := ⟨gb285, 3, none⟩) (Kd.R_far (p := ⟨gb285, 2, none⟩) (Kd.R_far (p := ⟨gb285, 1, none⟩) (Kd.R_far (p := ⟨gb285, 0, none⟩) (Kd.R_types HO269.out BK285.out (by decide)) (fun _ hk => hk.2) (.int .u64 t275)) (fun _ hk => hk.2) (.int .u64 t276)) (fun _ hk => hk.2) (.int .u64 t277)) (fun _ hk => hk.2) (.slice Ao40 t278.length co40)) (fun _ hk => hk.2) (.slice Ao41 t281.length co41)) (fun _ h_ => h_.1))) (Kd.R_base ho0) hb); have n1_ := Aside0.mk (Kd.R_elder' (by (with_reducible repeat (first | apply Kd.R_alloc | apply Kd.R_drewN | apply Kd.R_drew)); exact (Kd.R_mono (Kd.R_far (p := ⟨gb285, 4, none⟩) (Kd.R_far (p := ⟨gb285, 3, none⟩) (Kd.R_far (p := ⟨gb285, 2, none⟩) (Kd.R_far (p := ⟨gb285, 1, none⟩) (Kd.R_far (p := ⟨gb285, 0, none⟩) (Kd.R_types HO272.out BK285.out (by decide)) (fun _ hk => hk.2) (.int .u64 t275)) (fun _ hk => hk.2) (.int .u64 t276)) (fun _ hk => hk.2) (.int .u64 t277)) (fun _ hk => hk.2) (.slice Ao40 t278.length co40)) (fun _ hk => hk.2) (.slice Ao41 t281.length co41)) (fun _ h_ => h_.1))) (Kd.R_base ho1) hb); have n2_ := Aside0.mk (Kd.R_below (by (with_reducible repeat (first | apply Kd.R_alloc | apply Kd.R_drewN | apply Kd.R_drew)); exact (Kd.R_mono (Kd.R_far (p := ⟨gb285, 4, none⟩) (Kd.R_far (p := ⟨gb285, 3, none⟩) (Kd.R_far (p := ⟨gb285, 2, none⟩) (Kd.R_far (p := ⟨gb285, 1, none⟩) (Kd.R_far (p := ⟨gb285, 0, none⟩) (Kd.R_types HO280.out BK285.out (by decide)) (fun _ hk => hk.2) (.int .u64 t275)) (fun _ hk => hk.2) (.int .u64 t276)) (fun _ hk => hk.2) (.int .u64 t277)) (fun _ hk => hk.2) (.slice Ao40 t278.length co40)) (fun _ hk => hk.2) (.slice Ao41 t281.length co41)) (fun _ h_ => h_.1))) hb); have n3_ := Aside0.mk (Kd.R_below (by (with_reducible repeat (first | apply Kd.R_alloc | apply Kd.R_drewN | apply Kd.R_drew)); exact (Kd.R_mono (Kd.R_far (p := ⟨gb285, 4, none⟩) (Kd.R_far (p := ⟨gb285, 3, none⟩) (Kd.R_far (p := ⟨gb285, 2, none⟩) (Kd.R_far (p := ⟨gb285, 1, none⟩) (Kd.R_far (p := ⟨gb285, 0, none⟩) (Kd.R_types HO283.out BK285.out (by decide)) (fun _ hk => hk.2) (.int .u64 t275)) (fun _ hk => hk.2) (.int .u64 t276)) (fun _ hk => hk.2) (.int .u64 t277)) (fun _ hk => hk.2) (.slice Ao40 t278.length co40)) (fun _ hk => hk.2) (.slice Ao41 t281.length co41)) (fun _ h_ => h_.1))) hb); have n4_ := Aside0.mk (Kd.R_lower (Kd.R_new' ho0 (Kd.R_lt (by (with_reducible repeat (first | apply Kd.R_alloc | apply Kd.R_drewN | apply Kd.R_drew)); exact (Kd.R_mono (Kd.R_far (p := ⟨gb285, 4, none⟩) (Kd.R_far (p := ⟨gb285, 3, none⟩) (Kd.R_far (p := ⟨gb285, 2, none⟩) (Kd.R_far (p := ⟨gb285, 1, none⟩) (Kd.R_far (p := ⟨gb285, 0, none⟩) (Kd.R_types HO269.out BK285.out (by decide)) (fun _ hk => hk.2) (.int .u64 t275)) (fun _ hk => hk.2) (.int .u64 t276)) (fun _ hk => hk.2) (.int .u64 t277)) (fun _ hk => hk.2) (.slice Ao40 t278.length co40)) (fun _ hk => hk.2) (.slice Ao41 t281.length co41)) (fun _ h_ => h_.1))))) (below_size (by repeat (first | (with_reducible first | exact HB.out | apply below_alloc | apply pw_below_drewN | apply below_drew1 | refine below_set ?_ GE259.out | refine below_set ?_ GE285.out) | exact HB.out)))); have n5_ := Aside0.mk (Kd.R_lower (Kd.R_new' ho1 (Kd.R_lt (by (with_reducible repeat (first | apply Kd.R_alloc | apply Kd.R_drewN | apply Kd.R_drew)); exact (Kd.R_mono (Kd.R_far (p := ⟨gb285, 4, none⟩) (Kd.R_far (p := ⟨gb285, 3, none⟩) (Kd.R_far (p := ⟨gb285, 2, none⟩) (Kd.R_far (p := ⟨gb285, 1, none⟩) (Kd.R_far (p := ⟨gb285, 0, none⟩) (Kd.R_types HO272.out BK285.out (by decide)) (fun _ hk => hk.2) (.int .u64 t275)) (fun _ hk => hk.2) (.int .u64 t276)) (fun _ hk => hk.2) (.int .u64 t277)) (fun _ hk => hk.2) (.slice Ao40 t278.length co40)) (fun _ hk => hk.2) (.slice Ao41 t281.length co41)) (fun _ h_ => h_.1))))) (below_size (by repeat (first | (with_reducible first | exact HB.out | apply below_alloc | apply pw_below_drewN | apply below_drew1 | refine below_set ?_ GE259.out | refine below_set ?_ GE285.out) | exact HB.out)))); have n6_ := Aside0.mk (blk_below (g := gb259) (o := .cells #[.int .u64 a0_0, .int .u64 a0_1, .int .u64 a0_2, .slice A0_3 l0_3.length c0_3, .slice A0_4 l0_4.length c0_4] 26 (0, 0)) (by (with_reducible repeat (first | refine blk_drewN ?_ _ | refine blk_drew ?_ | refine blk_alloc ?_ _)); refine blk_far ?_ NB259_285.out _; (with_reducible repeat (first | refine blk_drewN ?_ _ | refine blk_drew ?_ | refine blk_alloc ?_ _)); refine blk_far ?_ NB259_285.out _; (with_reducible repeat (first | refine blk_drewN ?_ _ | refine blk_drew ?_ | refine blk_alloc ?_ _)); refine blk_far ?_ NB259_285.out _; (with_reducible repeat (first | refine blk_drewN ?_ _ | refine blk_drew ?_ | refine blk_alloc ?_ _)); refine blk_far ?_ NB259_285.out _; (with_reducible repeat (first | refine blk_drewN ?_ _ | refine blk_drew ?_ | refine blk_alloc ?_ _)); refine blk_far ?_ NB259_285.out _; (with_reducible repeat (first | refine blk_drewN ?_ _ | refine blk_drew ?_ | refine blk_alloc ?_ _)); exact BK259.out) hb); have n7_ := Aside0.mk (blk_below (g := gb285) (o := .cells #[.int .u64 t275, .int .u64 t276, .int .u64 t277, .slice Ao40 t278.length co40, .slice Ao41 t281.length co41] 26 (0, 0)) (by (with_reducible repeat (first | refine blk_drewN ?_ _ | refine blk_drew ?_ | refine blk_alloc ?_ _)); refine blk_put (cs := #[.int .u64 t275, .int .u64 t276, .int .u64 t277, .slice Ao40 t278.length co40, .slice none 0 0]) ?_ 4 _ rfl; (with_reducible repeat (first | refine blk_drewN ?_ _ | refine blk_drew ?_ | refine blk_alloc ?_ _)); refine blk_put (cs := #[.int .u64 t275, .int .u64 t276, .int .u64 t277, .slice none 0 0, .slice none 0 0]) ?_ 3 _ rfl; (with_reducible repeat (first | refine blk_drewN ?_ _ | refine blk_drew ?_ | refine blk_alloc ?_ _)); refine blk_put (cs := #[.int .u64 t275, .int .u64 t276, .int .u64 0, .slice none 0 0, .slice none 0 0]) ?_ 2 _ rfl; (with_reducible repeat (first | refine blk_drewN ?_ _ | refine blk_drew ?_ | refine blk_alloc ?_ _)); refine blk_put (cs := #[.int .u64 t275, .int .u64 0, .int .u64 0, .slice none 0 0, .slice none 0 0]) ?_ 1 _ rfl; (with_reducible repeat (first | refine blk_drewN ?_ _ | refine blk_drew ?_ | refine blk_alloc ?_ _)); refine blk_put (cs := #[.int .u64 0, .int .u64 0, .int .u64 0, .slice none 0 0, .slice none 0 0]) ?_ 0 _ rfl; (with_reducible repeat (first | refine blk_drewN ?_ _ | refine blk_drew ?_ | refine blk_alloc ?_ _)); exact BK285.out) hb); have n8_ := Aside0.mk (below_step (by repeat (first | (with_reducible first | exact HB.out | apply below_alloc | apply pw_below_drewN | apply below_drew1 | refine below_set ?_ GE259.out | refine below_set ?_ GE285.out) | exact HB.out)) hb); clear HO269; clear HO272; clear HO280; clear HO283; clear BK259; clear BK285; clear HB; have HO269 := n0_; have HO272 := n1_; have HO280 := n2_; have HO283 := n3_; have HO291 := n4_; have HO294 := n5_; have BK259 := n6_; have BK285 := n7_; have HB := n8_; clear n0_ n1_ n2_ n3_ n4_ n5_ n6_ n7_ n8_; (try clear hb); (try clear hb2); (try clear hk); (try clear hi); (try clear ho0); (try clear ho1)) | ((with_reducible refine gate_dst (N := 11) rfl ?_); (try (refine gate_guard (by rfl) ?_; dsimp only)); refine box_event ?hg (N := 11) ?hd (cs := #[.int .u64 0, .int .u64 0, .int .u64 0, .slice none 0 0, .slice none 0 0]) (t := 36) ?hr ?_; (case hd => rfl); (case hg => rfl); (case hr => first | (go_simp; done) | (go_simp; rfl)); intro gb296 hg w43 hbox hb; have n0_ := Aside0.mk (Kd.R_below (by (with_reducible repeat (first | apply Kd.R_alloc | apply Kd.R_drewN | apply Kd.R_drew)); exact HO269.out) hb); have n1_ := Aside0.mk (Kd.R_below (by (with_reducible repeat (first | apply Kd.R_alloc | apply Kd.R_drewN | apply Kd.R_drew)); exact HO272.out) hb); have n2_ := Aside0.mk (Kd.R_below (by (with_reducible repeat (first | apply Kd.R_alloc | apply Kd.R_drewN | apply Kd.R_drew)); exact HO280.out) hb); have n3_ := Aside0.mk (Kd.R_below (by (with_reducible repeat (first | apply Kd.R_alloc | apply Kd.R_drewN | apply Kd.R_drew)); exact HO283.out) hb); have n4_ := Aside0.mk (Kd.R_below (by (with_reducible repeat (first | apply Kd.R_alloc | apply Kd.R_drewN | apply Kd.R_drew)); exact HO291.out) hb); have n5_ := Aside0.mk (Kd.R_below (by (with_reducible repeat (first | apply Kd.R_alloc | apply Kd.R_drewN | apply Kd.R_drew)); exact HO294.out) hb); have n6_ := Aside0.mk (blk_below (g := gb259) (o := .cells #[.int .u64 a0_0, .int .u64 a0_1, .int .u64 a0_2, .slice A0_3 l0_3.length c0_3, .slice A0_4 l0_4.length c0_4] 26 (0, 0)) (by (with_reducible repeat (first | refine blk_drewN ?_ _ | refine blk_drew ?_ | refine blk_alloc ?_ _)); exact BK259.out) hb); have n7_ := Aside0.mk (blk_below (g := gb285) (o := .cells #[.int .u64 t275, .int .u64 t276, .int .u64 t277, .slice Ao40 t278.length co40, .slice Ao41 t281.length co41] 26 (0, 0)) (by (with_reducible repeat (first | refine blk_drewN ?_ _ | refine blk_drew ?_ | refine blk_alloc ?_ _)); exact BK285.out) hb); have n8_ := Aside0.mk (below_step (by repeat (first | (with_reducible first | exact HB.out | apply below_alloc | apply pw_below_drewN | apply below_drew1 | refine below_set ?_ GE259.out | refine below_set ?_ GE285.out) | exact HB.out)) hb); have n9_ := Aside0.mk (hbox); have n10_ := Aside0.mk ((by rw [hg]; exact (below_size (by repeat (first | (with_reducible first | exact HB.out | apply below_alloc | apply pw_below_drewN | apply below_drew1 | refine below_set ?_ GE259.out | refine below_set ?_ GE285.out) | exact HB.out))) : w.heap.size ≤ gb296)); have n11_ := Aside0.mk ((by rw [hg]; exact (below_size (by repeat (first | (with_reducible first | exact HB.out | apply below_alloc | apply pw_below_drewN | apply below_drew1 | refine below_set ?_ GE259.out | refine below_set ?_ GE285.out) | exact HB.out))) : w.heap.size ≤ gb296)); have n12_ := Aside0.mk ((by rw [hg]; exact Nat.ne_of_lt (blk_lt (g := gb259) (o := .cells #[.int .u64 a0_0, .int .u64 a0_1, .int .u64 a0_2, .slice A0_3 l0_3.length c0_3, .slice A0_4 l0_4.length c0_4] 26 (0, 0)) (by (with_reducible repeat (first | refine blk_drewN ?_ _ | refine blk_drew ?_ | refine blk_alloc ?_ _)); exact BK259.out)) : gb259 ≠ gb296)); have n13_ := Aside0.mk ((by rw [hg]; exact Nat.ne_of_gt (blk_lt (g := gb259) (o := .cells #[.int .u64 a0_0, .int .u64 a0_1, .int .u64 a0_2, .slice A0_3 l0_3.length c0_3, .slice A0_4 l0_4.length c0_4] 26 (0, 0)) (by (with_reducible repeat (first | refine blk_drewN ?_ _ | refine blk_drew ?_ | refine blk_alloc ?_ _)); exact BK259.out)) : gb296 ≠ gb259)); have n14_ := Aside0.mk ((by rw [hg]; exact Nat.ne_of_lt (blk_lt (g := gb285) (o := .cells #[.int .u64 t275, .int .u64 t276, .int .u64 t277, .slice Ao40 t278.length co40, .slice Ao41 t281.length co41] 26 (0, 0)) (by (with_reducible repeat (first | refine blk_drewN ?_ _ | refine blk_drew ?_ | refine blk_alloc ?_ _)); exact BK285.out)) : gb285 ≠ gb296)); have n15_ := Aside0.mk ((by rw [hg]; exact Nat.ne_of_gt (blk_lt (g := gb285) (o := .cells #[.int .u64 t275, .int .u64 t276, .int .u64 t277, .slice Ao40 t278.length co40, .slice Ao41 t281.length co41] 26 (0, 0)) (by (with_reducible repeat (first | refine blk_drewN ?_ _ | refine blk_drew ?_ | refine blk_alloc ?_ _)); exact BK285.out)) : gb296 ≠ gb285)); clear HO269; clear HO272; clear HO280; clear HO283; clear HO291; clear HO294; clear BK259; clear BK285; clear HB; have HO269 := n0_; have HO272 := n1_; have HO280 := n2_; have HO283 := n3_; have HO291 := n4_; have HO294 := n5_; have BK259 := n6_; have BK285 := n7_; have HB := n8_; have BK296 := n9_; have GW296 := n10_; have GE296 := n11_; have NB259_296 := n12_; have NB296_259 := n13_; have NB285_296 := n14_; have NB296_285 := n15_; clear n0_ n1_ n2_ n3_ n4_ n5_ n6_ n7_ n8_ n9_ n10_ n11_ n12_ n13_ n14_ n15_; clear hb hbox hg; have hnb44 := NB296_259.out; have hnc44 := NB259_296.out; have hnb45 := NB296_285.out; have hnc45 := NB285_296.out; have hcz46_0 : w43.cell? ⟨gb296, 0, none⟩ = some (.int .u64 0) := (blk_cell BK296.out 0).trans rfl; have hcz46_1 : w43.cell? ⟨gb296, 1, none⟩ = some (.int .u64 0) := (blk_cell BK296.out 1).trans rfl; have hcz46_2 : w43.cell? ⟨gb296, 2, none⟩ = some (.int .u64 0) := (blk_cell BK296.out 2).trans rfl; have hcz46_3 : w43.cell? ⟨gb296, 3, none⟩ = some (.slice none 0 0) := (blk_cell BK296.out 3).trans rfl; have hcz46_4 : w43.cell? ⟨gb296, 4, none⟩ = some (.slice none 0 0) := (blk_cell BK296.out 4).trans rfl; have hfz46_0 := blk_frozen BK296.out 0; have hfz46_1 := blk_frozen BK296.out 1; have hfz46_2 := blk_frozen BK296.out 2; have hfz46_3 := blk_frozen BK296.out 3; have hfz46_4 := blk_frozen BK296.out 4; obtain ⟨Ao47, co47, eo47⟩ := Kd.R_slice HO291.out; subst eo47; obtain ⟨Ao48, co48, eo48⟩ := Kd.R_slice HO294.out; subst eo48))
                  have n0_ : Aside0 (Kd.R k114 114 (((((w43.setCell ⟨gb296, 0, none⟩ (.int .u64 t286)).setCell ⟨gb296, 1, none⟩ (.int .u64 t287)).setCell ⟨gb296, 2, none⟩ (.int .u64 t288)).setCell ⟨gb296, 3, none⟩ (.slice Ao47 t289.length co47)).setCell ⟨gb296, 4, none⟩ (.slice Ao48 t292.length co48)) w.heap.size (fun k_ => some k_ ≠ (.slice Ao47 t289.length co47 : Value).ownBlock) (.slice Ao33 t267.length co33) t267) := ⟨by (with_reducible repeat (first | apply Kd.R_alloc | apply Kd.R_drewN | apply Kd.R_drew)); exact Kd.R_mono (Kd.R_far (p := ⟨gb296, 4, none⟩) (Kd.R_far (p := ⟨gb296, 3, none⟩) (Kd.R_far (p := ⟨gb296, 2, none⟩) (Kd.R_far (p := ⟨gb296, 1, none⟩) (Kd.R_far (p := ⟨gb296, 0, none⟩) (Kd.R_types HO269.out BK296.out (by decide)) (fun _ hk => hk.2) (.int .u64 t286)) (fun _ hk => hk.2) (.int .u64 t287)) (fun _ hk => hk.2) (.int .u64 t288)) (fun _ hk => hk.2) (.slice Ao47 t289.length co47)) (fun _ hk => hk.2) (.slice Ao48 t292.length co48)) (fun _ hk => hk.1.2)⟩
                  have n1_ : Aside0 (Kd.R k115 115 (((((w43.setCell ⟨gb296, 0, none⟩ (.int .u64 t286)).setCell ⟨gb296, 1, none⟩ (.int .u64 t287)).setCell ⟨gb296, 2, none⟩ (.int .u64 t288)).setCell ⟨gb296, 3, none⟩ (.slice Ao47 t289.length co47)).setCell ⟨gb296, 4, none⟩ (.slice Ao48 t292.length co48)) w.heap.size (fun k_ => some k_ ≠ (.slice Ao48 t292.length co48 : Value).ownBlock) (.slice Ao34 t270.length co34) t270) := ⟨by (with_reducible repeat (first | apply Kd.R_alloc | apply Kd.R_drewN | apply Kd.R_drew)); exact Kd.R_mono (Kd.R_far (p := ⟨gb296, 4, none⟩) (Kd.R_far (p := ⟨gb296, 3, none⟩) (Kd.R_far (p := ⟨gb296, 2, none⟩) (Kd.R_far (p := ⟨gb296, 1, none⟩) (Kd.R_far (p := ⟨gb296, 0, none⟩) (Kd.R_types HO272.out BK296.out (by decide)) (fun _ hk => hk.2) (.int .u64 t286)) (fun _ hk => hk.2) (.int .u64 t287)) (fun _ hk => hk.2) (.int .u64 t288)) (fun _ hk => hk.2) (.slice Ao47 t289.length co47)) (fun _ hk => hk.2) (.slice Ao48 t292.length co48)) (fun _ hk => hk.1.2)⟩
                  have n2_ : Aside0 (Kd.R k107 107 (((((w43.setCell ⟨gb296, 0, none⟩ (.int .u64 t286)).setCell ⟨gb296, 1, none⟩ (.int .u64 t287)).setCell ⟨gb296, 2, none⟩ (.int .u64 t288)).setCell ⟨gb296, 3, none⟩ (.slice Ao47 t289.length co47)).setCell ⟨gb296, 4, none⟩ (.slice Ao48 t292.length co48)) w.heap.size (fun _ => True) (.slice Ao40 t278.length co40) t278) := ⟨by (with_reducible repeat (first | apply Kd.R_alloc | apply Kd.R_drewN | apply Kd.R_drew)); exact Kd.R_mono (Kd.R_far (p := ⟨gb296, 4, none⟩) (Kd.R_far (p := ⟨gb296, 3, none⟩) (Kd.R_far (p := ⟨gb296, 2, none⟩) (Kd.R_far (p := ⟨gb296, 1, none⟩) (Kd.R_far (p := ⟨gb296, 0, none⟩) (Kd.R_types HO280.out BK296.out (by decide)) (fun _ hk => hk.2) (.int .u64 t286)) (fun _ hk => hk.2) (.int .u64 t287)) (fun _ hk => hk.2) (.int .u64 t288)) (fun _ hk => hk.2) (.slice Ao47 t289.length co47)) (fun _ hk => hk.2) (.slice Ao48 t292.length co48)) (fun _ hk => trivial)⟩
                  have n3_ : Aside0 (Kd.R k111 111 (((((w43.setCell ⟨gb296, 0, none⟩ (.int .u64 t286)).setCell ⟨gb296, 1, none⟩ (.int .u64 t287)).setCell ⟨gb296, 2, none⟩ (.int .u64 t288)).setCell ⟨gb296, 3, none⟩ (.slice Ao47 t289.length co47)).setCell ⟨gb296, 4, none⟩ (.slice Ao48 t292.length co48)) w.heap.size (fun _ => True) (.slice Ao41 t281.length co41) t281) := ⟨by (with_reducible repeat (first | apply Kd.R_alloc | apply Kd.R_drewN | apply Kd.R_drew)); exact Kd.R_mono (Kd.R_far (p := ⟨gb296, 4, none⟩) (Kd.R_far (p := ⟨gb296, 3, none⟩) (Kd.R_far (p := ⟨gb296, 2, none⟩) (Kd.R_far (p := ⟨gb296, 1, none⟩) (Kd.R_far (p := ⟨gb296, 0, none⟩) (Kd.R_types HO283.out BK296.out (by decide)) (fun _ hk => hk.2) (.int .u64 t286)) (fun _ hk => hk.2) (.int .u64 t287)) (fun _ hk => hk.2) (.int .u64 t288)) (fun _ hk => hk.2) (.slice Ao47 t289.length co47)) (fun _ hk => hk.2) (.slice Ao48 t292.length co48)) (fun _ hk => trivial)⟩
                  have n4_ : Aside0 (Kd.R k114 114 (((((w43.setCell ⟨gb296, 0, none⟩ (.int .u64 t286)).setCell ⟨gb296, 1, none⟩ (.int .u64 t287)).setCell ⟨gb296, 2, none⟩ (.int .u64 t288)).setCell ⟨gb296, 3, none⟩ (.slice Ao47 t289.length co47)).setCell ⟨gb296, 4, none⟩ (.slice Ao48 t292.length co48)) w.heap.size (fun k_ => some k_ ≠ (.slice Ao33 t267.length co33 : Value).ownBlock) (.slice Ao47 t289.length co47) t289) := ⟨by (with_reducible repeat (first | apply Kd.R_alloc | apply Kd.R_drewN | apply Kd.R_drew)); exact Kd.R_mono (Kd.R_far (p := ⟨gb296, 4, none⟩) (Kd.R_far (p := ⟨gb296, 3, none⟩) (Kd.R_far (p := ⟨gb296, 2, none⟩) (Kd.R_far (p := ⟨gb296, 1, none⟩) (Kd.R_far (p := ⟨gb296, 0, none⟩) (Kd.R_types HO291.out BK296.out (by decide)) (fun _ hk => hk.2) (.int .u64 t286)) (fun _ hk => hk.2) (.int .u64 t287)) (fun _ hk => hk.2) (.int .u64 t288)) (fun _ hk => hk.2) (.slice Ao47 t289.length co47)) (fun _ hk => hk.2) (.slice Ao48 t292.length co48)) (fun _ hk => hk.1.2)⟩
                  have n5_ : Aside0 (Kd.R k115 115 (((((w43.setCell ⟨gb296, 0, none⟩ (.int .u64 t286)).setCell ⟨gb296, 1, none⟩ (.int .u64 t287)).setCell ⟨gb296, 2, none⟩ (.int .u64 t288)).setCell ⟨gb296, 3, none⟩ (.slice Ao47 t289.length co47)).setCell ⟨gb296, 4, none⟩ (.slice Ao48 t292.length co48)) w.heap.size (fun k_ => some k_ ≠ (.slice Ao34 t270.length co34 : Value).ownBlock) (.slice Ao48 t292.length co48) t292) := ⟨by (with_reducible repeat (first | apply Kd.R_alloc | apply Kd.R_drewN | apply Kd.R_drew)); exact Kd.R_mono (Kd.R_far (p := ⟨gb296, 4, none⟩) (Kd.R_far (p := ⟨gb296, 3, none⟩) (Kd.R_far (p := ⟨gb296, 2, none⟩) (Kd.R_far (p := ⟨gb296, 1, none⟩) (Kd.R_far (p := ⟨gb296, 0, none⟩) (Kd.R_types HO294.out BK296.out (by decide)) (fun _ hk => hk.2) (.int .u64 t286)) (fun _ hk => hk.2) (.int .u64 t287)) (fun _ hk => hk.2) (.int .u64 t288)) (fun _ hk => hk.2) (.slice Ao47 t289.length co47)) (fun _ hk => hk.2) (.slice Ao48 t292.length co48)) (fun _ hk => hk.1.2)⟩
                  have n6_ : Aside0 ((((((w43.setCell ⟨gb296, 0, none⟩ (.int .u64 t286)).setCell ⟨gb296, 1, none⟩ (.int .u64 t287)).setCell ⟨gb296, 2, none⟩ (.int .u64 t288)).setCell ⟨gb296, 3, none⟩ (.slice Ao47 t289.length co47)).setCell ⟨gb296, 4, none⟩ (.slice Ao48 t292.length co48)).heap[gb259]? = some (.cells #[.int .u64 a0_0, .int .u64 a0_1, .int .u64 a0_2, .slice A0_3 l0_3.length c0_3, .slice A0_4 l0_4.length c0_4] 26 (0, 0))) := ⟨by (with_reducible repeat (first | refine blk_drewN ?_ _ | refine blk_drew ?_ | refine blk_alloc ?_ _)); refine blk_far ?_ NB259_296.out _; (with_reducible repeat (first | refine blk_drewN ?_ _ | refine blk_drew ?_ | refine blk_alloc ?_ _)); refine blk_far ?_ NB259_296.out _; (with_reducible repeat (first | refine blk_drewN ?_ _ | refine blk_drew ?_ | refine blk_alloc ?_ _)); refine blk_far ?_ NB259_296.out _; (with_reducible repeat (first | refine blk_drewN ?_ _ | refine blk_drew ?_ | refine blk_alloc ?_ _)); refine blk_far ?_ NB259_296.out _; (with_reducible repeat (first | refine blk_drewN ?_ _ | refine blk_drew ?_ | refine blk_alloc ?_ _)); refine blk_far ?_ NB259_296.out _; (with_reducible repeat (first | refine blk_drewN ?_ _ | refine blk_drew ?_ | refine blk_alloc ?_ _)); exact BK259.out⟩
                  have n7_ : Aside0 ((((((w43.setCell ⟨gb296, 0, none⟩ (.int .u64 t286)).setCell ⟨gb296, 1, none⟩ (.int .u64 t287)).setCell ⟨gb296, 2, none⟩ (.int .u64 t288)).setCell ⟨gb296, 3, none⟩ (.slice Ao47 t289.length co47)).setCell ⟨gb296, 4, none⟩ (.slice Ao48 t292.length co48)).heap[gb285]? = some (.cells #[.int .u64 t275, .int .u64 t276, .int .u64 t277, .slice Ao40 t278.length co40, .slice Ao41 t281.length co41] 26 (0, 0))) := ⟨by (with_reducible repeat (first | refine blk_drewN ?_ _ | refine blk_drew ?_ | refine blk_alloc ?_ _)); refine blk_far ?_ NB285_296.out _; (with_reducible repeat (first | refine blk_drewN ?_ _ | refine blk_drew ?_ | refine blk_alloc ?_ _)); refine blk_far ?_ NB285_296.out _; (with_reducible repeat (first | refine blk_drewN ?_ _ | refine blk_drew ?_ | refine blk_alloc ?_ _)); refine blk_far ?_ NB285_296.out _; (with_reducible repeat (first | refine blk_drewN ?_ _ | refine blk_drew ?_ | refine blk_alloc ?_ _)); refine blk_far ?_ NB285_296.out _; (with_reducible repeat (first | refine blk_drewN ?_ _ | refine blk_drew ?_ | refine blk_alloc ?_ _)); refine blk_far ?_ NB285_296.out _; (with_reducible repeat (first | refine blk_drewN ?_ _ | refine blk_drew ?_ | refine blk_alloc ?_ _)); exact BK285.out⟩
                  have n8_ : Aside0 ((((((w43.setCell ⟨gb296, 0, none⟩ (.int .u64 t286)).setCell ⟨gb296, 1, none⟩ (.int .u64 t287)).setCell ⟨gb296, 2, none⟩ (.int .u64 t288)).setCell ⟨gb296, 3, none⟩ (.slice Ao47 t289.length co47)).setCell ⟨gb296, 4, none⟩ (.slice Ao48 t292.length co48)).heap[gb296]? = some (.cells #[.int .u64 t286, .int .u64 t287, .int .u64 t288, .slice Ao47 t289.length co47, .slice Ao48 t292.length co48] 36 (0, 0))) := ⟨by (with_reducible repeat (first | refine blk_drewN ?_ _ | refine blk_drew ?_ | refine blk_alloc ?_ _)); refine blk_put (cs := #[.int .u64 t286, .int .u64 t287, .int .u64 t288, .slice Ao47 t289.length co47, .slice none 0 0]) ?_ 4 _ rfl; (with_reducible repeat (first | refine blk_drewN ?_ _ | refine blk_drew ?_ | refine blk_alloc ?_ _)); refine blk_put (cs := #[.int .u64 t286, .int .u64 t287, .int .u64 t288, .slice none 0 0, .slice none 0 0]) ?_ 3 _ rfl; (with_reducible repeat (first | refine blk_drewN ?_ _ | refine blk_drew ?_ | refine blk_alloc ?_ _)); refine blk_put (cs := #[.int .u64 t286, .int .u64 t287, .int .u64 0, .slice none 0 0, .slice none 0 0]) ?_ 2 _ rfl; (with_reducible repeat (first | refine blk_drewN ?_ _ | refine blk_drew ?_ | refine blk_alloc ?_ _)); refine blk_put (cs := #[.int .u64 t286, .int .u64 0, .int .u64 0, .slice none 0 0, .slice none 0 0]) ?_ 1 _ rfl; (with_reducible repeat (first | refine blk_drewN ?_ _ | refine blk_drew ?_ | refine blk_alloc ?_ _)); refine blk_put (cs := #[.int .u64 0, .int .u64 0, .int .u64 0, .slice none 0 0, .slice none 0 0]) ?_ 0 _ rfl; (with_reducible repeat (first | refine blk_drewN ?_ _ | refine blk_drew ?_ | refine blk_alloc ?_ _)); exact BK296.out⟩
                  have n9_ : Aside0 (Below w.heap.size w (((((w43.setCell ⟨gb296, 0, none⟩ (.int .u64 t286)).setCell ⟨gb296, 1, none⟩ (.int .u64 t287)).setCell ⟨gb296, 2, none⟩ (.int .u64 t288)).setCell ⟨gb296, 3, none⟩ (.slice Ao47 t289.length co47)).setCell ⟨gb296, 4, none⟩ (.slice Ao48 t292.length co48))) := ⟨by repeat (first | (with_reducible first | exact HB.out | apply below_alloc | apply pw_below_drewN | apply below_drew1 | refine below_set ?_ GE259.out | refine below_set ?_ GE285.out | refine below_set ?_ GE296.out) | exact HB.out)⟩
                  (try clear HO269)
                  (try clear HO272)
                  (try clear HO280)
                  (try clear HO283)
                  (try clear HO291)
                  (try clear HO294)
                  (try clear BK259)
                  (try clear BK285)
                  (try clear BK296)
                  (try clear HB)
                  generalize (((((w43.setCell ⟨gb296, 0, none⟩ (.int .u64 t286)).setCell ⟨gb296, 1, none⟩ (.int .u64 t287)).setCell ⟨gb296, 2, none⟩ (.int .u64 t288)).setCell ⟨gb296, 3, none⟩ (.slice Ao47 t289.length co47)).setCell ⟨gb296, 4, none⟩ (.slice Ao48 t292.length co48)) = w49 at n0_ n1_ n2_ n3_ n4_ n5_ n6_ n7_ n8_ n9_ ⊢
                  have HO269 := n0_
                  have HO272 := n1_
                  have HO280 := n2_
                  have HO283 := n3_
                  have HO291 := n4_
                  have HO294 := n5_
                  have BK259 := n6_
                  have BK285 := n7_
                  have BK296 := n8_
                  have HB := n9_
                  clear n0_ n1_ n2_ n3_ n4_ n5_ n6_ n7_ n8_ n9_
                  have n0_ := Aside0.mk (Kd.R_drew HO269.out)
                  have n1_ := Aside0.mk (Kd.R_drew HO272.out)
                  have n2_ := Aside0.mk (Kd.R_drew HO280.out)
                  have n3_ := Aside0.mk (Kd.R_drew HO283.out)
                  have n4_ := Aside0.mk (Kd.R_drew HO291.out)
                  have n5_ := Aside0.mk (Kd.R_drew HO294.out)
                  have n6_ := Aside0.mk (blk_drew BK259.out)
                  have n7_ := Aside0.mk (blk_drew BK285.out)
                  have n8_ := Aside0.mk (blk_drew BK296.out)
                  have n9_ := Aside0.mk (below_drew1 HB.out)
                  clear HO269
                  clear HO272
                  clear HO280
                  clear HO283
                  clear HO291
                  clear HO294
                  clear BK259
                  clear BK285
                  clear BK296
                  clear HB
                  have HO269 := n0_
                  have HO272 := n1_
                  have HO280 := n2_
                  have HO283 := n3_
                  have HO291 := n4_
                  have HO294 := n5_
                  have BK259 := n6_
                  have BK285 := n7_
                  have BK296 := n8_
                  have HB := n9_
                  clear n0_ n1_ n2_ n3_ n4_ n5_ n6_ n7_ n8_ n9_
                  refine start_ (n := 28) (S := fun w' => w'.cell? ⟨gb259, 0, none⟩ = some (.int .u64 a0_0) ∧ w'.cell? ⟨gb259, 1, none⟩ = some (.int .u64 a0_1) ∧ w'.cell? ⟨gb259, 2, none⟩ = some (.int .u64 a0_2) ∧ w'.cell? ⟨gb259, 3, none⟩ = some (.slice A0_3 l0_3.length c0_3) ∧ w'.cell? ⟨gb259, 4, none⟩ = some (.slice A0_4 l0_4.length c0_4) ∧ w'.cell? ⟨gb285, 0, none⟩ = some (.int .u64 t275) ∧ w'.cell? ⟨gb285, 1, none⟩ = some (.int .u64 t276) ∧ w'.cell? ⟨gb285, 2, none⟩ = some (.int .u64 t277) ∧ w'.cell? ⟨gb285, 3, none⟩ = some (.slice Ao40 t278.length co40) ∧ w'.cell? ⟨gb285, 4, none⟩ = some (.slice Ao41 t281.length co41) ∧ w'.cell? ⟨gb296, 0, none⟩ = some (.int .u64 t286) ∧ w'.cell? ⟨gb296, 1, none⟩ = some (.int .u64 t287) ∧ w'.cell? ⟨gb296, 2, none⟩ = some (.int .u64 t288) ∧ w'.cell? ⟨gb296, 3, none⟩ = some (.slice Ao47 t289.length co47) ∧ w'.cell? ⟨gb296, 4, none⟩ = some (.slice Ao48 t292.length co48)) (ds := []) #[false, false, false, false, false, false, false, false, false, false, false, false, false, false, false, false, false, false, false, false, false, false, false, false, false, false, false, false] (by kernel_rfl) rfl rfl ⟨(blk_cell BK259.out 0).trans rfl, (blk_cell BK259.out 1).trans rfl, (blk_cell BK259.out 2).trans rfl, (blk_cell BK259.out 3).trans rfl, (blk_cell BK259.out 4).trans rfl, (blk_cell BK285.out 0).trans rfl, (blk_cell BK285.out 1).trans rfl, (blk_cell BK285.out 2).trans rfl, (blk_cell BK285.out 3).trans rfl, (blk_cell BK285.out 4).trans rfl, (blk_cell BK296.out 0).trans rfl, (blk_cell BK296.out 1).trans rfl, (blk_cell BK296.out 2).trans rfl, (blk_cell BK296.out 3).trans rfl, (blk_cell BK296.out 4).trans rfl⟩ (fun hHeld => ?_); refine with_tabW bourselaw12_EditBytes.tab9 bourselaw12_EditBytes.bits9 (fun HT_ HW_ => ?_)
                  generalize w49.drew = w50 at HO269 HO272 HO280 HO283 HO291 HO294 BK259 BK285 BK296 HB hHeld ⊢
                  refine pure_ (i := 0) (N := some 44) (v := ?_) (a' := ?_) #[true, false, false, false, false, false, false, false, false, false, false, false, false, false, false, false, false, false, false, false, false, false, false, false, false, false, false, false] rfl rfl (any_of HT_.out (by kernel_rfl)) (fun _ _ _ h => h) (Or.inl ⟨by rfl, ?_⟩) ?_ ?_
                  rotate_left
                  · intro w'
                    go_simp
                    with_reducible rfl
                  rotate_left
                  · simp only [Act.put, List.setIfInBounds_toArray, List.set_cons_zero, List.set_cons_succ, i64_w, i32_w]
                    rfl
                  refine pure_ (i := 1) (N := some 45) (v := ?_) (a' := ?_) #[true, true, false, false, false, false, false, false, false, false, false, false, false, false, false, false, false, false, false, false, false, false, false, false, false, false, false, false] rfl rfl (any_of HT_.out (by kernel_rfl)) (fun _ _ _ h => h) (Or.inl ⟨by rfl, ?_⟩) ?_ ?_
                  rotate_left
                  · intro w'
                    go_simp
                    with_reducible rfl
                  rotate_left
                  · simp only [Act.put, List.setIfInBounds_toArray, List.set_cons_zero, List.set_cons_succ, i64_w, i32_w]
                    rfl
                  refine pure_ (i := 2) (N := some 46) (v := ?_) (a' := ?_) #[true, true, true, false, false, false, false, false, false, false, false, false, false, false, false, false, false, false, false, false, false, false, false, false, false, false, false, false] rfl rfl (any_of HT_.out (by kernel_rfl)) (fun _ _ _ h => h) (Or.inl ⟨by rfl, ?_⟩) ?_ ?_
                  rotate_left
                  · intro w'
                    go_simp
                    with_reducible rfl
                  rotate_left
                  · simp only [Act.put, List.setIfInBounds_toArray, List.set_cons_zero, List.set_cons_succ, i64_w, i32_w]
                    rfl
                  refine pure_ (i := 3) (N := some 47) (v := ?_) (a' := ?_) #[true, true, true, true, false, false, false, false, false, false, false, false, false, false, false, false, false, false, false, false, false, false, false, false, false, false, false, false] rfl rfl (any_of HT_.out (by kernel_rfl)) (fun _ _ _ h => h) (Or.inl ⟨by rfl, ?_⟩) ?_ ?_
                  rotate_left
                  · intro w'
                    go_simp
                    with_reducible rfl
                  rotate_left
                  · simp only [Act.put, List.setIfInBounds_toArray, List.set_cons_zero, List.set_cons_succ, i64_w, i32_w]
                    rfl
                  refine pure_ (i := 4) (N := some 48) (v := ?_) (a' := ?_) #[true, true, true, true, true, false, false, false, false, false, false, false, false, false, false, false, false, false, false, false, false, false, false, false, false, false, false, false] rfl rfl (any_of HT_.out (by kernel_rfl)) (fun _ _ _ h => h) (Or.inl ⟨by rfl, ?_⟩) ?_ ?_
                  rotate_left
                  · intro w'
                    go_simp
                    with_reducible rfl
                  rotate_left
                  · simp only [Act.put, List.setIfInBounds_toArray, List.set_cons_zero, List.set_cons_succ, i64_w, i32_w]
                    rfl
                  refine pure_ (i := 5) (N := some 49) (v := ?_) (a' := ?_) #[true, true, true, true, true, true, false, false, false, false, false, false, false, false, false, false, false, false, false, false, false, false, false, false, false, false, false, false] rfl rfl (any_of HT_.out (by kernel_rfl)) (fun _ _ _ h => h) (Or.inl ⟨by rfl, ?_⟩) ?_ ?_
                  rotate_left
                  · intro w'
                    go_simp
                    with_reducible rfl
                  rotate_left
                  · simp only [Act.put, List.setIfInBounds_toArray, List.set_cons_zero, List.set_cons_succ, i64_w, i32_w]
                    rfl
                  refine pure_ (i := 6) (N := some 50) (v := ?_) (a' := ?_) #[true, true, true, true, true, true, true, false, false, false, false, false, false, false, false, false, false, false, false, false, false, false, false, false, false, false, false, false] rfl rfl (any_of HT_.out (by kernel_rfl)) (fun _ _ _ h => h) (Or.inl ⟨by rfl, ?_⟩) ?_ ?_
                  rotate_left
                  · intro w'
                    go_simp
                    with_reducible rfl
                  rotate_left
                  · simp only [Act.put, List.setIfInBounds_toArray, List.set_cons_zero, List.set_cons_succ, i64_w, i32_w]
                    rfl
                  refine pure_ (i := 7) (N := some 51) (v := ?_) (a' := ?_) #[true, true, true, true, true, true, true, true, false, false, false, false, false, false, false, false, false, false, false, false, false, false, false, false, false, false, false, false] rfl rfl (any_of HT_.out (by kernel_rfl)) (fun _ _ _ h => h) (Or.inl ⟨by rfl, ?_⟩) ?_ ?_
                  rotate_left
                  · intro w'
                    go_simp
                    with_reducible rfl
                  rotate_left
                  · simp only [Act.put, List.setIfInBounds_toArray, List.set_cons_zero, List.set_cons_succ, i64_w, i32_w]
                    rfl
                  refine pure_ (i := 8) (N := some 52) (v := ?_) (a' := ?_) #[true, true, true, true, true, true, true, true, true, false, false, false, false, false, false, false, false, false, false, false, false, false, false, false, false, false, false, false] rfl rfl (any_of HT_.out (by kernel_rfl)) (fun _ _ _ h => h) (Or.inl ⟨by rfl, ?_⟩) ?_ ?_
                  rotate_left
                  · intro w'
                    go_simp
                    with_reducible rfl
                  rotate_left
                  · simp only [Act.put, List.setIfInBounds_toArray, List.set_cons_zero, List.set_cons_succ, i64_w, i32_w]
                    rfl
                  refine take_ (i := 9) (N := some 53) (v := ?_) (a' := ?_) #[true, true, true, true, true, true, true, true, true, true, false, false, false, false, false, false, false, false, false, false, false, false, false, false, false, false, false, false] rfl rfl (take_ofW HT_.out HW_.out (by kernel_rfl)) (fun _ _ _ h => h) (Or.inl ⟨by rfl, ?_⟩) hHeld ?_ ?_
                  rotate_left
                  · rintro w' ⟨s0, s1, s2, s3, s4, s5, s6, s7, s8, s9, s10, s11, s12, s13, s14⟩
                    go_simp
                    with_reducible rfl
                  rotate_left
                  · simp only [Act.put, List.setIfInBounds_toArray, List.set_cons_zero, List.set_cons_succ, i64_w, i32_w]
                    rfl
                  refine take_ (i := 11) (N := some 55) (v := ?_) (a' := ?_) #[true, true, true, true, true, true, true, true, true, true, false, true, false, false, false, false, false, false, false, false, false, false, false, false, false, false, false, false] rfl rfl (take_ofW HT_.out HW_.out (by kernel_rfl)) (fun _ _ _ h => h) (Or.inl ⟨by rfl, ?_⟩) hHeld ?_ ?_
                  rotate_left
                  · rintro w' ⟨s0, s1, s2, s3, s4, s5, s6, s7, s8, s9, s10, s11, s12, s13, s14⟩
                    go_simp
                    with_reducible rfl
                  rotate_left
                  · simp only [Act.put, List.setIfInBounds_toArray, List.set_cons_zero, List.set_cons_succ, i64_w, i32_w]
                    rfl
                  refine one_ (i := 10) (N := some 54) #[true, true, true, true, true, true, true, true, true, true, true, true, false, false, false, false, false, false, false, false, false, false, false, false, false, false, false, false] rfl rfl (one_of HT_.out (by kernel_rfl)) (by decide) (fun K hK => ?_)
                  refine goes_ Tryd.func20 (by kernel_rfl) rfl #[.agg #[.int .u64 a0_0, .int .u64 a0_1, .int .u64 a0_2, .slice A0_3 l0_3.length c0_3, .slice A0_4 l0_4.length c0_4]] (by rfl) rfl rfl (by (try simp only [List.map_toArray, List.map_cons, List.map_nil]); first | done | rfl | (simp only [List.length_drop, List.length_take]; rfl)) ?_
                  with_reducible refine (edit_Edit_Check.calls a0_0 a0_1 a0_2 _ _ l0_3 _ _ l0_4 t297 _ ?side1 ?side2 ?side3 ?side4 A22.out).mono ?_
                  (case side1 => repeat (first | exact (Kd.C_below HR0_3.out HB.out) | (with_reducible refine Kd.C_alloc ?_ _) | (with_reducible refine Kd.C_drewN ?_ _) | (with_reducible refine Kd.C_drew ?_)))
                  (case side2 => exact HC0_3.out)
                  (case side3 => repeat (first | exact (Kd.C_below HR0_4.out HB.out) | (with_reducible refine Kd.C_alloc ?_ _) | (with_reducible refine Kd.C_drewN ?_ _) | (with_reducible refine Kd.C_drew ?_)))
                  (case side4 => exact HC0_4.out)
                  rintro e w51 ⟨rfl, hb⟩
                  refine ⟨_, rfl, ?_⟩
                  have n0_ := Aside0.mk (Kd.R_below (by (with_reducible repeat (first | apply Kd.R_alloc | apply Kd.R_drewN | apply Kd.R_drew)); exact HO269.out) hb)
                  have n1_ := Aside0.mk (Kd.R_below (by (with_reducible repeat (first | apply Kd.R_alloc | apply Kd.R_drewN | apply Kd.R_drew)); exact HO272.out) hb)
                  have n2_ := Aside0.mk (Kd.R_below (by (with_reducible repeat (first | apply Kd.R_alloc | apply Kd.R_drewN | apply Kd.R_drew)); exact HO280.out) hb)
                  have n3_ := Aside0.mk (Kd.R_below (by (with_reducible repeat (first | apply Kd.R_alloc | apply Kd.R_drewN | apply Kd.R_drew)); exact HO283.out) hb)
                  have n4_ := Aside0.mk (Kd.R_below (by (with_reducible repeat (first | apply Kd.R_alloc | apply Kd.R_drewN | apply Kd.R_drew)); exact HO291.out) hb)
                  have n5_ := Aside0.mk (Kd.R_below (by (with_reducible repeat (first | apply Kd.R_alloc | apply Kd.R_drewN | apply Kd.R_drew)); exact HO294.out) hb)
                  have n6_ := Aside0.mk (blk_below (g := gb259) (o := .cells #[.int .u64 a0_0, .int .u64 a0_1, .int .u64 a0_2, .slice A0_3 l0_3.length c0_3, .slice A0_4 l0_4.length c0_4] 26 (0, 0)) (by (with_reducible repeat (first | refine blk_drewN ?_ _ | refine blk_drew ?_ | refine blk_alloc ?_ _)); exact BK259.out) hb)
                  have n7_ := Aside0.mk (blk_below (g := gb285) (o := .cells #[.int .u64 t275, .int .u64 t276, .int .u64 t277, .slice Ao40 t278.length co40, .slice Ao41 t281.length co41] 26 (0, 0)) (by (with_reducible repeat (first | refine blk_drewN ?_ _ | refine blk_drew ?_ | refine blk_alloc ?_ _)); exact BK285.out) hb)
                  have n8_ := Aside0.mk (blk_below (g := gb296) (o := .cells #[.int .u64 t286, .int .u64 t287, .int .u64 t288, .slice Ao47 t289.length co47, .slice Ao48 t292.length co48] 36 (0, 0)) (by (with_reducible repeat (first | refine blk_drewN ?_ _ | refine blk_drew ?_ | refine blk_alloc ?_ _)); exact BK296.out) hb)
                  have n9_ := Aside0.mk (below_step (by repeat (first | (with_reducible first | exact HB.out | apply below_alloc | apply pw_below_drewN | apply below_drew1 | refine below_set ?_ GE259.out | refine below_set ?_ GE285.out | refine below_set ?_ GE296.out) | exact HB.out)) hb)
                  clear HO269
                  clear HO272
                  clear HO280
                  clear HO283
                  clear HO291
                  clear HO294
                  clear BK259
                  clear BK285
                  clear BK296
                  clear HB
                  have HO269 := n0_
                  have HO272 := n1_
                  have HO280 := n2_
                  have HO283 := n3_
                  have HO291 := n4_
                  have HO294 := n5_
                  have BK259 := n6_
                  have BK285 := n7_
                  have BK296 := n8_
                  have HB := n9_
                  clear n0_ n1_ n2_ n3_ n4_ n5_ n6_ n7_ n8_ n9_
                  (try clear hb)
                  (try clear hb2)
                  (try clear hk)
                  (try clear hi)
                  refine hK.out _ _ ⟨(blk_cell BK259.out 0).trans rfl, (blk_cell BK259.out 1).trans rfl, (blk_cell BK259.out 2).trans rfl, (blk_cell BK259.out 3).trans rfl, (blk_cell BK259.out 4).trans rfl, (blk_cell BK285.out 0).trans rfl, (blk_cell BK285.out 1).trans rfl, (blk_cell BK285.out 2).trans rfl, (blk_cell BK285.out 3).trans rfl, (blk_cell BK285.out 4).trans rfl, (blk_cell BK296.out 0).trans rfl, (blk_cell BK296.out 1).trans rfl, (blk_cell BK296.out 2).trans rfl, (blk_cell BK296.out 3).trans rfl, (blk_cell BK296.out 4).trans rfl⟩ (fun hHeld => ?_)
                  clear hK K
                  refine norm_ (a' := ?_) ?_ ?_
                  rotate_left
                  · show Act.put _ (some 54) _ = _
                    simp only [Act.put, List.setIfInBounds_toArray, List.set_cons_zero, List.set_cons_succ, i64_w, i32_w]
                    rfl
                  refine one_ (i := 12) (N := some 56) #[true, true, true, true, true, true, true, true, true, true, true, true, true, false, false, false, false, false, false, false, false, false, false, false, false, false, false, false] rfl rfl (one_of HT_.out (by kernel_rfl)) (by decide) (fun K hK => ?_)
                  refine goes_ Tryd.func16 (by kernel_rfl) rfl #[.agg #[.int .u64 a0_0, .int .u64 a0_1, .int .u64 a0_2, .slice A0_3 l0_3.length c0_3, .slice A0_4 l0_4.length c0_4]] (by rfl) rfl rfl (by (try simp only [List.map_toArray, List.map_cons, List.map_nil]); first | done | rfl | (simp only [List.length_drop, List.length_take]; rfl)) ?_
                  with_reducible refine (bourselaw12_To.calls kj4 a0_0 a0_1 a0_2 _ _ l0_3 _ _ l0_4 t298 t299 t300 t301 t304 _ ?side1 ?side2 ?side3 ?side4 A23.out).mono ?_
                  (case side1 => repeat (first | exact (Kd.C_below HR0_3.out HB.out) | (with_reducible refine Kd.C_alloc ?_ _) | (with_reducible refine Kd.C_drewN ?_ _) | (with_reducible refine Kd.C_drew ?_)))
                  (case side2 => exact HC0_3.out)
                  (case side3 => repeat (first | exact (Kd.C_below HR0_4.out HB.out) | (with_reducible refine Kd.C_alloc ?_ _) | (with_reducible refine Kd.C_drewN ?_ _) | (with_reducible refine Kd.C_drew ?_)))
                  (case side4 => exact HC0_4.out)
                  rintro e w52 ⟨v302, v305, rfl, ho0, ho1, hb⟩
                  refine ⟨_, rfl, ?_⟩
                  have n0_ := Aside0.mk (Kd.R_elder' (by (with_reducible repeat (first | apply Kd.R_alloc | apply Kd.R_drewN | apply Kd.R_drew)); exact HO269.out) (Kd.R_base ho0) hb)
                  have n1_ := Aside0.mk (Kd.R_elder' (by (with_reducible repeat (first | apply Kd.R_alloc | apply Kd.R_drewN | apply Kd.R_drew)); exact HO272.out) (Kd.R_base ho1) hb)
                  have n2_ := Aside0.mk (Kd.R_below (by (with_reducible repeat (first | apply Kd.R_alloc | apply Kd.R_drewN | apply Kd.R_drew)); exact HO280.out) hb)
                  have n3_ := Aside0.mk (Kd.R_below (by (with_reducible repeat (first | apply Kd.R_alloc | apply Kd.R_drewN | apply Kd.R_drew)); exact HO283.out) hb)
                  have n4_ := Aside0.mk (Kd.R_elder' (by (with_reducible repeat (first | apply Kd.R_alloc | apply Kd.R_drewN | apply Kd.R_drew)); exact HO291.out) (Kd.R_base ho0) hb)
                  have n5_ := Aside0.mk (Kd.R_elder' (by (with_reducible repeat (first | apply Kd.R_alloc | apply Kd.R_drewN | apply Kd.R_drew)); exact HO294.out) (Kd.R_base ho1) hb)
                  have n6_ := Aside0.mk (Kd.R_lower (Kd.R_new' (Kd.R_new' ho0 (Kd.R_lt (by (with_reducible repeat (first | apply Kd.R_alloc | apply Kd.R_drewN | apply Kd.R_drew)); exact HO269.out))) (Kd.R_lt (by (with_reducible repeat (first | apply Kd.R_alloc | apply Kd.R_drewN | apply Kd.R_drew)); exact HO291.out))) (below_size (by repeat (first | (with_reducible first | exact HB.out | apply below_alloc | apply pw_below_drewN | apply below_drew1 | refine below_set ?_ GE259.out | refine below_set ?_ GE285.out | refine below_set ?_ GE296.out) | exact HB.out))))
                  have n7_ := Aside0.mk (Kd.R_lower (Kd.R_new' (Kd.R_new' ho1 (Kd.R_lt (by (with_reducible repeat (first | apply Kd.R_alloc | apply Kd.R_drewN | apply Kd.R_drew)); exact HO272.out))) (Kd.R_lt (by (with_reducible repeat (first | apply Kd.R_alloc | apply Kd.R_drewN | apply Kd.R_drew)); exact HO294.out))) (below_size (by repeat (first | (with_reducible first | exact HB.out | apply below_alloc | apply pw_below_drewN | apply below_drew1 | refine below_set ?_ GE259.out | refine below_set ?_ GE285.out | refine below_set ?_ GE296.out) | exact HB.out))))
                  have n8_ := Aside0.mk (blk_below (g := gb259) (o := .cells #[.int .u64 a0_0, .int .u64 a0_1, .int .u64 a0_2, .slice A0_3 l0_3.length c0_3, .slice A0_4 l0_4.length c0_4] 26 (0, 0)) (by (with_reducible repeat (first | refine blk_drewN ?_ _ | refine blk_drew ?_ | refine blk_alloc ?_ _)); exact BK259.out) hb)
                  have n9_ := Aside0.mk (blk_below (g := gb285) (o := .cells #[.int .u64 t275, .int .u64 t276, .int .u64 t277, .slice Ao40 t278.length co40, .slice Ao41 t281.length co41] 26 (0, 0)) (by (with_reducible repeat (first | refine blk_drewN ?_ _ | refine blk_drew ?_ | refine blk_alloc ?_ _)); exact BK285.out) hb)
                  have n10_ := Aside0.mk (blk_below (g := gb296) (o := .cells #[.int .u64 t286, .int .u64 t287, .int .u64 t288, .slice Ao47 t289.length co47, .slice Ao48 t292.length co48] 36 (0, 0)) (by (with_reducible repeat (first | refine blk_drewN ?_ _ | refine blk_drew ?_ | refine blk_alloc ?_ _)); exact BK296.out) hb)
                  have n11_ := Aside0.mk (below_step (by repeat (first | (with_reducible first | exact HB.out | apply below_alloc | apply pw_below_drewN | apply below_drew1 | refine below_set ?_ GE259.out | refine below_set ?_ GE285.out | refine below_set ?_ GE296.out) | exact HB.out)) hb)
                  clear HO269
                  clear HO272
                  clear HO280
                  clear HO283
                  clear HO291
                  clear HO294
                  clear BK259
                  clear BK285
                  clear BK296
                  clear HB
                  have HO269 := n0_
                  have HO272 := n1_
                  have HO280 := n2_
                  have HO283 := n3_
                  have HO291 := n4_
                  have HO294 := n5_
                  have HO303 := n6_
                  have HO306 := n7_
                  have BK259 := n8_
                  have BK285 := n9_
                  have BK296 := n10_
                  have HB := n11_
                  clear n0_ n1_ n2_ n3_ n4_ n5_ n6_ n7_ n8_ n9_ n10_ n11_
                  (try clear hb)
                  (try clear hb2)
                  (try clear hk)
                  (try clear hi)
                  (try clear ho0)
                  (try clear ho1)
                  obtain ⟨Ao53, co53, eo53⟩ := Kd.R_slice HO303.out
                  (first | subst eo53 | (injection eo53 with f1_ f2_ f3_; have f4_ := f1_.symm; have f5_ := f3_.symm; clear f1_ f2_ f3_; subst f4_; subst f5_))
                  obtain ⟨Ao54, co54, eo54⟩ := Kd.R_slice HO306.out
                  (first | subst eo54 | (injection eo54 with f1_ f2_ f3_; have f4_ := f1_.symm; have f5_ := f3_.symm; clear f1_ f2_ f3_; subst f4_; subst f5_))
                  refine hK.out _ _ ⟨(blk_cell BK259.out 0).trans rfl, (blk_cell BK259.out 1).trans rfl, (blk_cell BK259.out 2).trans rfl, (blk_cell BK259.out 3).trans rfl, (blk_cell BK259.out 4).trans rfl, (blk_cell BK285.out 0).trans rfl, (blk_cell BK285.out 1).trans rfl, (blk_cell BK285.out 2).trans rfl, (blk_cell BK285.out 3).trans rfl, (blk_cell BK285.out 4).trans rfl, (blk_cell BK296.out 0).trans rfl, (blk_cell BK296.out 1).trans rfl, (blk_cell BK296.out 2).trans rfl, (blk_cell BK296.out 3).trans rfl, (blk_cell BK296.out 4).trans rfl⟩ (fun hHeld => ?_)
                  clear hK K
                  refine norm_ (a' := ?_) ?_ ?_
                  rotate_left
                  · show Act.put _ (some 56) _ = _
                    simp only [Act.put, List.setIfInBounds_toArray, List.set_cons_zero, List.set_cons_succ, i64_w, i32_w]
                    rfl
                  refine one_ (i := 13) (N := some 57) #[true, true, true, true, true, true, true, true, true, true, true, true, true, true, false, false, false, false, false, false, false, false, false, false, false, false, false, false] rfl rfl (one_of HT_.out (by kernel_rfl)) (by decide) (fun K hK => ?_)
                  refine goes_ Tryd.func21 (by kernel_rfl) rfl #[.agg #[.int .u64 t298, .int .u64 t299, .int .u64 t300, .slice Ao53 t301.length co53, .slice Ao54 t304.length co54]] (by rfl) rfl rfl (by (try simp only [List.map_toArray, List.map_cons, List.map_nil]); first | done | rfl | (simp only [List.length_drop, List.length_take]; rfl)) ?_
                  with_reducible refine (bourseref12_Edit_Check.calls kj4 t298 t299 t300 _ _ t301 _ _ t304 t307 _ ?side1 ?side2 ?side3 ?side4 A24.out).mono ?_
                  (case side1 => repeat (first | exact (Kd.R_reads' HO303.out).2.2 | (with_reducible refine Kd.C_alloc ?_ _) | (with_reducible refine Kd.C_drewN ?_ _) | (with_reducible refine Kd.C_drew ?_)))
                  (case side2 => exact (Kd.R_reads' HO303.out).2.1)
                  (case side3 => repeat (first | exact (Kd.R_reads' HO306.out).2.2 | (with_reducible refine Kd.C_alloc ?_ _) | (with_reducible refine Kd.C_drewN ?_ _) | (with_reducible refine Kd.C_drew ?_)))
                  (case side4 => exact (Kd.R_reads' HO306.out).2.1)
                  rintro e w55 ⟨rfl, hb⟩
                  refine ⟨_, rfl, ?_⟩
                  have n0_ := Aside0.mk (Kd.R_below (by (with_reducible repeat (first | apply Kd.R_alloc | apply Kd.R_drewN | apply Kd.R_drew)); exact HO269.out) hb)
                  have n1_ := Aside0.mk (Kd.R_below (by (with_reducible repeat (first | apply Kd.R_alloc | apply Kd.R_drewN | apply Kd.R_drew)); exact HO272.out) hb)
                  have n2_ := Aside0.mk (Kd.R_below (by (with_reducible repeat (first | apply Kd.R_alloc | apply Kd.R_drewN | apply Kd.R_drew)); exact HO280.out) hb)
                  have n3_ := Aside0.mk (Kd.R_below (by (with_reducible repeat (first | apply Kd.R_alloc | apply Kd.R_drewN | apply Kd.R_drew)); exact HO283.out) hb)
                  have n4_ := Aside0.mk (Kd.R_below (by (with_reducible repeat (first | apply Kd.R_alloc | apply Kd.R_drewN | apply Kd.R_drew)); exact HO291.out) hb)
                  have n5_ := Aside0.mk (Kd.R_below (by (with_reducible repeat (first | apply Kd.R_alloc | apply Kd.R_drewN | apply Kd.R_drew)); exact HO294.out) hb)
                  have n6_ := Aside0.mk (Kd.R_below (by (with_reducible repeat (first | apply Kd.R_alloc | apply Kd.R_drewN | apply Kd.R_drew)); exact HO303.out) hb)
                  have n7_ := Aside0.mk (Kd.R_below (by (with_reducible repeat (first | apply Kd.R_alloc | apply Kd.R_drewN | apply Kd.R_drew)); exact HO306.out) hb)
                  have n8_ := Aside0.mk (blk_below (g := gb259) (o := .cells #[.int .u64 a0_0, .int .u64 a0_1, .int .u64 a0_2, .slice A0_3 l0_3.length c0_3, .slice A0_4 l0_4.length c0_4] 26 (0, 0)) (by (with_reducible repeat (first | refine blk_drewN ?_ _ | refine blk_drew ?_ | refine blk_alloc ?_ _)); exact BK259.out) hb)
                  have n9_ := Aside0.mk (blk_below (g := gb285) (o := .cells #[.int .u64 t275, .int .u64 t276, .int .u64 t277, .slice Ao40 t278.length co40, .slice Ao41 t281.length co41] 26 (0, 0)) (by (with_reducible repeat (first | refine blk_drewN ?_ _ | refine blk_drew ?_ | refine blk_alloc ?_ _)); exact BK285.out) hb)
                  have n10_ := Aside0.mk (blk_below (g := gb296) (o := .cells #[.int .u64 t286, .int .u64 t287, .int .u64 t288, .slice Ao47 t289.length co47, .slice Ao48 t292.length co48] 36 (0, 0)) (by (with_reducible repeat (first | refine blk_drewN ?_ _ | refine blk_drew ?_ | refine blk_alloc ?_ _)); exact BK296.out) hb)
                  have n11_ := Aside0.mk (below_step (by repeat (first | (with_reducible first | exact HB.out | apply below_alloc | apply pw_below_drewN | apply below_drew1 | refine below_set ?_ GE259.out | refine below_set ?_ GE285.out | refine below_set ?_ GE296.out) | exact HB.out)) hb)
                  clear HO269
                  clear HO272
                  clear HO280
                  clear HO283
                  clear HO291
                  clear HO294
                  clear HO303
                  clear HO306
                  clear BK259
                  clear BK285
                  clear BK296
                  clear HB
                  have HO269 := n0_
                  have HO272 := n1_
                  have HO280 := n2_
                  have HO283 := n3_
                  have HO291 := n4_
                  have HO294 := n5_
                  have HO303 := n6_
                  have HO306 := n7_
                  have BK259 := n8_
                  have BK285 := n9_
                  have BK296 := n10_
                  have HB := n11_
                  clear n0_ n1_ n2_ n3_ n4_ n5_ n6_ n7_ n8_ n9_ n10_ n11_
                  (try clear hb)
                  (try clear hb2)
                  (try clear hk)
                  (try clear hi)
                  refine hK.out _ _ ⟨(blk_cell BK259.out 0).trans rfl, (blk_cell BK259.out 1).trans rfl, (blk_cell BK259.out 2).trans rfl, (blk_cell BK259.out 3).trans rfl, (blk_cell BK259.out 4).trans rfl, (blk_cell BK285.out 0).trans rfl, (blk_cell BK285.out 1).trans rfl, (blk_cell BK285.out 2).trans rfl, (blk_cell BK285.out 3).trans rfl, (blk_cell BK285.out 4).trans rfl, (blk_cell BK296.out 0).trans rfl, (blk_cell BK296.out 1).trans rfl, (blk_cell BK296.out 2).trans rfl, (blk_cell BK296.out 3).trans rfl, (blk_cell BK296.out 4).trans rfl⟩ (fun hHeld => ?_)
                  clear hK K
                  refine norm_ (a' := ?_) ?_ ?_
                  rotate_left
                  · show Act.put _ (some 57) _ = _
                    simp only [Act.put, List.setIfInBounds_toArray, List.set_cons_zero, List.set_cons_succ, i64_w, i32_w]
                    rfl
                  refine pure_ (i := 14) (N := some 58) (v := ?_) (a' := ?_) #[true, true, true, true, true, true, true, true, true, true, true, true, true, true, true, false, false, false, false, false, false, false, false, false, false, false, false, false] rfl rfl (any_of HT_.out (by kernel_rfl)) (fun _ _ _ h => h) (Or.inl ⟨by rfl, ?_⟩) ?_ ?_
                  rotate_left
                  · intro w'
                    go_simp
                    with_reducible rfl
                  rotate_left
                  · simp only [Act.put, List.setIfInBounds_toArray, List.set_cons_zero, List.set_cons_succ, i64_w, i32_w]
                    rfl
                  refine pure_ (i := 15) (N := some 59) (v := ?_) (a' := ?_) #[true, true, true, true, true, true, true, true, true, true, true, true, true, true, true, true, false, false, false, false, false, false, false, false, false, false, false, false] rfl rfl (any_of HT_.out (by kernel_rfl)) (fun _ _ _ h => h) (Or.inl ⟨by rfl, ?_⟩) ?_ ?_
                  rotate_left
                  · intro w'
                    go_simp
                    with_reducible rfl
                  rotate_left
                  · simp only [Act.put, List.setIfInBounds_toArray, List.set_cons_zero, List.set_cons_succ, i64_w, i32_w]
                    rfl
                  refine pure_ (i := 16) (N := some 60) (v := ?_) (a' := ?_) #[true, true, true, true, true, true, true, true, true, true, true, true, true, true, true, true, true, false, false, false, false, false, false, false, false, false, false, false] rfl rfl (any_of HT_.out (by kernel_rfl)) (fun _ _ _ h => h) (Or.inl ⟨by rfl, ?_⟩) ?_ ?_
                  rotate_left
                  · intro w'
                    go_simp
                    with_reducible rfl
                  rotate_left
                  · simp only [Act.put, List.setIfInBounds_toArray, List.set_cons_zero, List.set_cons_succ, i64_w, i32_w]
                    rfl
                  refine take_ (i := 17) (N := some 61) (v := ?_) (a' := ?_) #[true, true, true, true, true, true, true, true, true, true, true, true, true, true, true, true, true, true, false, false, false, false, false, false, false, false, false, false] rfl rfl (take_ofW HT_.out HW_.out (by kernel_rfl)) (fun _ _ _ h => h) (Or.inl ⟨by rfl, ?_⟩) hHeld ?_ ?_
                  rotate_left
                  · rintro w' ⟨s0, s1, s2, s3, s4, s5, s6, s7, s8, s9, s10, s11, s12, s13, s14⟩
                    go_simp
                    with_reducible rfl
                  rotate_left
                  · simp only [Act.put, List.setIfInBounds_toArray, List.set_cons_zero, List.set_cons_succ, i64_w, i32_w]
                    rfl
                  refine take_ (i := 19) (N := some 63) (v := ?_) (a' := ?_) #[true, true, true, true, true, true, true, true, true, true, true, true, true, true, true, true, true, true, false, true, false, false, false, false, false, false, false, false] rfl rfl (take_ofW HT_.out HW_.out (by kernel_rfl)) (fun _ _ _ h => h) (Or.inl ⟨by rfl, ?_⟩) hHeld ?_ ?_
                  rotate_left
                  · rintro w' ⟨s0, s1, s2, s3, s4, s5, s6, s7, s8, s9, s10, s11, s12, s13, s14⟩
                    go_simp
                    with_reducible rfl
                  rotate_left
                  · simp only [Act.put, List.setIfInBounds_toArray, List.set_cons_zero, List.set_cons_succ, i64_w, i32_w]
                    rfl
                  refine one_ (i := 18) (N := some 62) #[true, true, true, true, true, true, true, true, true, true, true, true, true, true, true, true, true, true, true, true, false, false, false, false, false, false, false, false] rfl rfl (one_of HT_.out (by kernel_rfl)) (by decide) (fun K hK => ?_)
                  refine goes_ Tryd.func16 (by kernel_rfl) rfl #[.agg #[.int .u64 t275, .int .u64 t276, .int .u64 t277, .slice Ao40 t278.length co40, .slice Ao41 t281.length co41]] (by rfl) rfl rfl (by (try simp only [List.map_toArray, List.map_cons, List.map_nil]); first | done | rfl | (simp only [List.length_drop, List.length_take]; rfl)) ?_
                  with_reducible refine (bourselaw12_To.calls kj4 t275 t276 t277 _ _ t278 _ _ t281 t308 t309 t310 t311 t314 _ ?side1 ?side2 ?side3 ?side4 A26.out).mono ?_
                  (case side1 => repeat (first | exact (Kd.R_reads' HO280.out).2.2 | (with_reducible refine Kd.C_alloc ?_ _) | (with_reducible refine Kd.C_drewN ?_ _) | (with_reducible refine Kd.C_drew ?_)))
                  (case side2 => exact (Kd.R_reads' HO280.out).2.1)
                  (case side3 => repeat (first | exact (Kd.R_reads' HO283.out).2.2 | (with_reducible refine Kd.C_alloc ?_ _) | (with_reducible refine Kd.C_drewN ?_ _) | (with_reducible refine Kd.C_drew ?_)))
                  (case side4 => exact (Kd.R_reads' HO283.out).2.1)
                  rintro e w56 ⟨v312, v315, rfl, ho0, ho1, hb⟩
                  refine ⟨_, rfl, ?_⟩
                  have n0_ := Aside0.mk (Kd.R_elder' (by (with_reducible repeat (first | apply Kd.R_alloc | apply Kd.R_drewN | apply Kd.R_drew)); exact HO269.out) (Kd.R_base ho0) hb)
                  have n1_ := Aside0.mk (Kd.R_elder' (by (with_reducible repeat (first | apply Kd.R_alloc | apply Kd.R_drewN | apply Kd.R_drew)); exact HO272.out) (Kd.R_base ho1) hb)
                  have n2_ := Aside0.mk (Kd.R_below (by (with_reducible repeat (first | apply Kd.R_alloc | apply Kd.R_drewN | apply Kd.R_drew)); exact HO280.out) hb)
                  have n3_ := Aside0.mk (Kd.R_below (by (with_reducible repeat (first | apply Kd.R_alloc | apply Kd.R_drewN | apply Kd.R_drew)); exact HO283.out) hb)
                  have n4_ := Aside0.mk (Kd.R_elder' (by (with_reducible repeat (first | apply Kd.R_alloc | apply Kd.R_drewN | apply Kd.R_drew)); exact HO291.out) (Kd.R_base ho0) hb)
                  have n5_ := Aside0.mk (Kd.R_elder' (by (with_reducible repeat (first | apply Kd.R_alloc | apply Kd.R_drewN | apply Kd.R_drew)); exact HO294.out) (Kd.R_base ho1) hb)
                  have n6_ := Aside0.mk (Kd.R_elder' (by (with_reducible repeat (first | apply Kd.R_alloc | apply Kd.R_drewN | apply Kd.R_drew)); exact HO303.out) (Kd.R_base ho0) hb)
                  have n7_ := Aside0.mk (Kd.R_elder' (by (with_reducible repeat (first | apply Kd.R_alloc | apply Kd.R_drewN | apply Kd.R_drew)); exact HO306.out) (Kd.R_base ho1) hb)
                  have n8_ := Aside0.mk (Kd.R_lower (Kd.R_new' (Kd.R_new' (Kd.R_new' ho0 (Kd.R_lt (by (with_reducible repeat (first | apply Kd.R_alloc | apply Kd.R_drewN | apply Kd.R_drew)); exact HO269.out))) (Kd.R_lt (by (with_reducible repeat (first | apply Kd.R_alloc | apply Kd.R_drewN | apply Kd.R_drew)); exact HO291.out))) (Kd.R_lt (by (with_reducible repeat (first | apply Kd.R_alloc | apply Kd.R_drewN | apply Kd.R_drew)); exact HO303.out))) (below_size (by repeat (first | (with_reducible first | exact HB.out | apply below_alloc | apply pw_below_drewN | apply below_drew1 | refine below_set ?_ GE259.out | refine below_set ?_ GE285.out | refine below_set ?_ GE296.out) | exact HB.out))))
                  have n9_ := Aside0.mk (Kd.R_lower (Kd.R_new' (Kd.R_new' (Kd.R_new' ho1 (Kd.R_lt (by (with_reducible repeat (first | apply Kd.R_alloc | apply Kd.R_drewN | apply Kd.R_drew)); exact HO272.out))) (Kd.R_lt (by (with_reducible repeat (first | apply Kd.R_alloc | apply Kd.R_drewN | apply Kd.R_drew)); exact HO294.out))) (Kd.R_lt (by (with_reducible repeat (first | apply Kd.R_alloc | apply Kd.R_drewN | apply Kd.R_drew)); exact HO306.out))) (below_size (by repeat (first | (with_reducible first | exact HB.out | apply below_alloc | apply pw_below_drewN | apply below_drew1 | refine below_set ?_ GE259.out | refine below_set ?_ GE285.out | refine below_set ?_ GE296.out) | exact HB.out))))
                  have n10_ := Aside0.mk (blk_below (g := gb259) (o := .cells #[.int .u64 a0_0, .int .u64 a0_1, .int .u64 a0_2, .slice A0_3 l0_3.length c0_3, .slice A0_4 l0_4.length c0_4] 26 (0, 0)) (by (with_reducible repeat (first | refine blk_drewN ?_ _ | refine blk_drew ?_ | refine blk_alloc ?_ _)); exact BK259.out) hb)
                  have n11_ := Aside0.mk (blk_below (g := gb285) (o := .cells #[.int .u64 t275, .int .u64 t276, .int .u64 t277, .slice Ao40 t278.length co40, .slice Ao41 t281.length co41] 26 (0, 0)) (by (with_reducible repeat (first | refine blk_drewN ?_ _ | refine blk_drew ?_ | refine blk_alloc ?_ _)); exact BK285.out) hb)
                  have n12_ := Aside0.mk (blk_below (g := gb296) (o := .cells #[.int .u64 t286, .int .u64 t287, .int .u64 t288, .slice Ao47 t289.length co47, .slice Ao48 t292.length co48] 36 (0, 0)) (by (with_reducible repeat (first | refine blk_drewN ?_ _ | refine blk_drew ?_ | refine blk_alloc ?_ _)); exact BK296.out) hb)
                  have n13_ := Aside0.mk (below_step (by repeat (first | (with_reducible first | exact HB.out | apply below_alloc | apply pw_below_drewN | apply below_drew1 | refine below_set ?_ GE259.out | refine below_set ?_ GE285.out | refine below_set ?_ GE296.out) | exact HB.out)) hb)
                  clear HO269
                  clear HO272
                  clear HO280
                  clear HO283
                  clear HO291
                  clear HO294
                  clear HO303
                  clear HO306
                  clear BK259
                  clear BK285
                  clear BK296
                  clear HB
                  have HO269 := n0_
                  have HO272 := n1_
                  have HO280 := n2_
                  have HO283 := n3_
                  have HO291 := n4_
                  have HO294 := n5_
                  have HO303 := n6_
                  have HO306 := n7_
                  have HO313 := n8_
                  have HO316 := n9_
                  have BK259 := n10_
                  have BK285 := n11_
                  have BK296 := n12_
                  have HB := n13_
                  clear n0_ n1_ n2_ n3_ n4_ n5_ n6_ n7_ n8_ n9_ n10_ n11_ n12_ n13_
                  (try clear hb)
                  (try clear hb2)
                  (try clear hk)
                  (try clear hi)
                  (try clear ho0)
                  (try clear ho1)
                  obtain ⟨Ao57, co57, eo57⟩ := Kd.R_slice HO313.out
                  (first | subst eo57 | (injection eo57 with f1_ f2_ f3_; have f4_ := f1_.symm; have f5_ := f3_.symm; clear f1_ f2_ f3_; subst f4_; subst f5_))
                  obtain ⟨Ao58, co58, eo58⟩ := Kd.R_slice HO316.out
                  (first | subst eo58 | (injection eo58 with f1_ f2_ f3_; have f4_ := f1_.symm; have f5_ := f3_.symm; clear f1_ f2_ f3_; subst f4_; subst f5_))
                  refine hK.out _ _ ⟨(blk_cell BK259.out 0).trans rfl, (blk_cell BK259.out 1).trans rfl, (blk_cell BK259.out 2).trans rfl, (blk_cell BK259.out 3).trans rfl, (blk_cell BK259.out 4).trans rfl, (blk_cell BK285.out 0).trans rfl, (blk_cell BK285.out 1).trans rfl, (blk_cell BK285.out 2).trans rfl, (blk_cell BK285.out 3).trans rfl, (blk_cell BK285.out 4).trans rfl, (blk_cell BK296.out 0).trans rfl, (blk_cell BK296.out 1).trans rfl, (blk_cell BK296.out 2).trans rfl, (blk_cell BK296.out 3).trans rfl, (blk_cell BK296.out 4).trans rfl⟩ (fun hHeld => ?_)
                  clear hK K
                  refine norm_ (a' := ?_) ?_ ?_
                  rotate_left
                  · show Act.put _ (some 62) _ = _
                    simp only [Act.put, List.setIfInBounds_toArray, List.set_cons_zero, List.set_cons_succ, i64_w, i32_w]
                    rfl
                  refine one_ (i := 20) (N := some 64) #[true, true, true, true, true, true, true, true, true, true, true, true, true, true, true, true, true, true, true, true, true, false, false, false, false, false, false, false] rfl rfl (one_of HT_.out (by kernel_rfl)) (by decide) (fun K hK => ?_)
                  refine goes_ Tryd.func22 (by kernel_rfl) rfl #[.agg #[.int .u64 t308, .int .u64 t309, .int .u64 t310, .slice Ao57 t311.length co57, .slice Ao58 t314.length co58], .agg #[.int .u64 t286, .int .u64 t287, .int .u64 t288, .slice Ao47 t289.length co47, .slice Ao48 t292.length co48]] (by rfl) rfl rfl (by (try simp only [List.map_toArray, List.map_cons, List.map_nil]); first | done | rfl | (simp only [List.length_drop, List.length_take]; rfl)) ?_
                  with_reducible refine (bourseref12_Same.calls kj4 t308 t309 t310 _ _ t311 _ _ t314 t286 t287 t288 _ _ t289 _ _ t292 true _ ?side1 ?side2 ?side3 ?side4 ?side5 ?side6 ?side7 ?side8 A27.out).mono ?_
                  (case side1 => repeat (first | exact (Kd.R_reads' HO313.out).2.2 | (with_reducible refine Kd.C_alloc ?_ _) | (with_reducible refine Kd.C_drewN ?_ _) | (with_reducible refine Kd.C_drew ?_)))
                  (case side2 => exact (Kd.R_reads' HO313.out).2.1)
                  (case side3 => repeat (first | exact (Kd.R_reads' HO316.out).2.2 | (with_reducible refine Kd.C_alloc ?_ _) | (with_reducible refine Kd.C_drewN ?_ _) | (with_reducible refine Kd.C_drew ?_)))
                  (case side4 => exact (Kd.R_reads' HO316.out).2.1)
                  (case side5 => repeat (first | exact (Kd.R_reads' HO291.out).2.2 | (with_reducible refine Kd.C_alloc ?_ _) | (with_reducible refine Kd.C_drewN ?_ _) | (with_reducible refine Kd.C_drew ?_)))
                  (case side6 => exact (Kd.R_reads' HO291.out).2.1)
                  (case side7 => repeat (first | exact (Kd.R_reads' HO294.out).2.2 | (with_reducible refine Kd.C_alloc ?_ _) | (with_reducible refine Kd.C_drewN ?_ _) | (with_reducible refine Kd.C_drew ?_)))
                  (case side8 => exact (Kd.R_reads' HO294.out).2.1)
                  rintro e w59 ⟨rfl, hb⟩
                  refine ⟨_, rfl, ?_⟩
                  have n0_ := Aside0.mk (Kd.R_below (by (with_reducible repeat (first | apply Kd.R_alloc | apply Kd.R_drewN | apply Kd.R_drew)); exact HO269.out) hb)
                  have n1_ := Aside0.mk (Kd.R_below (by (with_reducible repeat (first | apply Kd.R_alloc | apply Kd.R_drewN | apply Kd.R_drew)); exact HO272.out) hb)
                  have n2_ := Aside0.mk (Kd.R_below (by (with_reducible repeat (first | apply Kd.R_alloc | apply Kd.R_drewN | apply Kd.R_drew)); exact HO280.out) hb)
                  have n3_ := Aside0.mk (Kd.R_below (by (with_reducible repeat (first | apply Kd.R_alloc | apply Kd.R_drewN | apply Kd.R_drew)); exact HO283.out) hb)
                  have n4_ := Aside0.mk (Kd.R_below (by (with_reducible repeat (first | apply Kd.R_alloc | apply Kd.R_drewN | apply Kd.R_drew)); exact HO291.out) hb)
                  have n5_ := Aside0.mk (Kd.R_below (by (with_reducible repeat (first | apply Kd.R_alloc | apply Kd.R_drewN | apply Kd.R_drew)); exact HO294.out) hb)
                  have n6_ := Aside0.mk (Kd.R_below (by (with_reducible repeat (first | apply Kd.R_alloc | apply Kd.R_drewN | apply Kd.R_drew)); exact HO303.out) hb)
                  have n7_ := Aside0.mk (Kd.R_below (by (with_reducible repeat (first | apply Kd.R_alloc | apply Kd.R_drewN | apply Kd.R_drew)); exact HO306.out) hb)
                  have n8_ := Aside0.mk (Kd.R_below (by (with_reducible repeat (first | apply Kd.R_alloc | apply Kd.R_drewN | apply Kd.R_drew)); exact HO313.out) hb)
                  have n9_ := Aside0.mk (Kd.R_below (by (with_reducible repeat (first | apply Kd.R_alloc | apply Kd.R_drewN | apply Kd.R_drew)); exact HO316.out) hb)
                  have n10_ := Aside0.mk (blk_below (g := gb259) (o := .cells #[.int .u64 a0_0, .int .u64 a0_1, .int .u64 a0_2, .slice A0_3 l0_3.length c0_3, .slice A0_4 l0_4.length c0_4] 26 (0, 0)) (by (with_reducible repeat (first | refine blk_drewN ?_ _ | refine blk_drew ?_ | refine blk_alloc ?_ _)); exact BK259.out) hb)
                  have n11_ := Aside0.mk (blk_below (g := gb285) (o := .cells #[.int .u64 t275, .int .u64 t276, .int .u64 t277, .slice Ao40 t278.length co40, .slice Ao41 t281.length co41] 26 (0, 0)) (by (with_reducible repeat (first | refine blk_drewN ?_ _ | refine blk_drew ?_ | refine blk_alloc ?_ _)); exact BK285.out) hb)
                  have n12_ := Aside0.mk (blk_below (g := gb296) (o := .cells #[.int .u64 t286, .int .u64 t287, .int .u64 t288, .slice Ao47 t289.length co47, .slice Ao48 t292.length co48] 36 (0, 0)) (by (with_reducible repeat (first | refine blk_drewN ?_ _ | refine blk_drew ?_ | refine blk_alloc ?_ _)); exact BK296.out) hb)
                  have n13_ := Aside0.mk (below_step (by repeat (first | (with_reducible first | exact HB.out | apply below_alloc | apply pw_below_drewN | apply below_drew1 | refine below_set ?_ GE259.out | refine below_set ?_ GE285.out | refine below_set ?_ GE296.out) | exact HB.out)) hb)
                  clear HO269
                  clear HO272
                  clear HO280
                  clear HO283
                  clear HO291
                  clear HO294
                  clear HO303
                  clear HO306
                  clear HO313
                  clear HO316
                  clear BK259
                  clear BK285
                  clear BK296
                  clear HB
                  have HO269 := n0_
                  have HO272 := n1_
                  have HO280 := n2_
                  have HO283 := n3_
                  have HO291 := n4_
                  have HO294 := n5_
                  have HO303 := n6_
                  have HO306 := n7_
                  have HO313 := n8_
                  have HO316 := n9_
                  have BK259 := n10_
                  have BK285 := n11_
                  have BK296 := n12_
                  have HB := n13_
                  clear n0_ n1_ n2_ n3_ n4_ n5_ n6_ n7_ n8_ n9_ n10_ n11_ n12_ n13_
                  (try clear hb)
                  (try clear hb2)
                  (try clear hk)
                  (try clear hi)
                  refine hK.out _ _ ⟨(blk_cell BK259.out 0).trans rfl, (blk_cell BK259.out 1).trans rfl, (blk_cell BK259.out 2).trans rfl, (blk_cell BK259.out 3).trans rfl, (blk_cell BK259.out 4).trans rfl, (blk_cell BK285.out 0).trans rfl, (blk_cell BK285.out 1).trans rfl, (blk_cell BK285.out 2).trans rfl, (blk_cell BK285.out 3).trans rfl, (blk_cell BK285.out 4).trans rfl, (blk_cell BK296.out 0).trans rfl, (blk_cell BK296.out 1).trans rfl, (blk_cell BK296.out 2).trans rfl, (blk_cell BK296.out 3).trans rfl, (blk_cell BK296.out 4).trans rfl⟩ (fun hHeld => ?_)
                  clear hK K
                  refine norm_ (a' := ?_) ?_ ?_
                  rotate_left
                  · show Act.put _ (some 64) _ = _
                    simp only [Act.put, List.setIfInBounds_toArray, List.set_cons_zero, List.set_cons_succ, i64_w, i32_w]
                    rfl
                  refine pure_ (i := 21) (N := some 65) (v := ?_) (a' := ?_) #[true, true, true, true, true, true, true, true, true, true, true, true, true, true, true, true, true, true, true, true, true, true, false, false, false, false, false, false] rfl rfl (any_of HT_.out (by kernel_rfl)) (fun _ _ _ h => h) (Or.inl ⟨by rfl, ?_⟩) ?_ ?_
                  rotate_left
                  · intro w'
                    go_simp
                    with_reducible rfl
                  rotate_left
                  · simp only [Act.put, List.setIfInBounds_toArray, List.set_cons_zero, List.set_cons_succ, i64_w, i32_w]
                    rfl
                  refine pure_ (i := 22) (N := some 66) (v := ?_) (a' := ?_) #[true, true, true, true, true, true, true, true, true, true, true, true, true, true, true, true, true, true, true, true, true, true, true, false, false, false, false, false] rfl rfl (any_of HT_.out (by kernel_rfl)) (fun _ _ _ h => h) (Or.inl ⟨by rfl, ?_⟩) ?_ ?_
                  rotate_left
                  · intro w'
                    go_simp
                    with_reducible rfl
                  rotate_left
                  · simp only [Act.put, List.setIfInBounds_toArray, List.set_cons_zero, List.set_cons_succ, i64_w, i32_w]
                    rfl
                  refine pure_ (i := 23) (N := some 67) (v := ?_) (a' := ?_) #[true, true, true, true, true, true, true, true, true, true, true, true, true, true, true, true, true, true, true, true, true, true, true, true, false, false, false, false] rfl rfl (any_of HT_.out (by kernel_rfl)) (fun _ _ _ h => h) (Or.inl ⟨by rfl, ?_⟩) ?_ ?_
                  rotate_left
                  · intro w'
                    go_simp
                    with_reducible rfl
                  rotate_left
                  · simp only [Act.put, List.setIfInBounds_toArray, List.set_cons_zero, List.set_cons_succ, i64_w, i32_w]
                    rfl
                  refine pure_ (i := 24) (N := some 68) (v := ?_) (a' := ?_) #[true, true, true, true, true, true, true, true, true, true, true, true, true, true, true, true, true, true, true, true, true, true, true, true, true, false, false, false] rfl rfl (any_of HT_.out (by kernel_rfl)) (fun _ _ _ h => h) (Or.inl ⟨by rfl, ?_⟩) ?_ ?_
                  rotate_left
                  · intro w'
                    go_simp
                    with_reducible rfl
                  rotate_left
                  · simp only [Act.put, List.setIfInBounds_toArray, List.set_cons_zero, List.set_cons_succ, i64_w, i32_w]
                    rfl
                  refine pure_ (i := 25) (N := some 69) (v := ?_) (a' := ?_) #[true, true, true, true, true, true, true, true, true, true, true, true, true, true, true, true, true, true, true, true, true, true, true, true, true, true, false, false] rfl rfl (any_of HT_.out (by kernel_rfl)) (fun _ _ _ h => h) (Or.inl ⟨by rfl, ?_⟩) ?_ ?_
                  rotate_left
                  · intro w'
                    go_simp
                    with_reducible rfl
                  rotate_left
                  · simp only [Act.put, List.setIfInBounds_toArray, List.set_cons_zero, List.set_cons_succ, i64_w, i32_w]
                    rfl
                  refine pure_ (i := 26) (N := some 70) (v := ?_) (a' := ?_) #[true, true, true, true, true, true, true, true, true, true, true, true, true, true, true, true, true, true, true, true, true, true, true, true, true, true, true, false] rfl rfl (any_of HT_.out (by kernel_rfl)) (fun _ _ _ h => h) (Or.inl ⟨by rfl, ?_⟩) ?_ ?_
                  rotate_left
                  · intro w'
                    go_simp
                    with_reducible rfl
                  rotate_left
                  · simp only [Act.put, List.setIfInBounds_toArray, List.set_cons_zero, List.set_cons_succ, i64_w, i32_w]
                    rfl
                  refine pure_ (i := 27) (N := some 4) (v := ?_) (a' := ?_) #[true, true, true, true, true, true, true, true, true, true, true, true, true, true, true, true, true, true, true, true, true, true, true, true, true, true, true, true] rfl rfl (any_of HT_.out (by kernel_rfl)) (fun _ _ _ h => h) (Or.inl ⟨by rfl, ?_⟩) ?_ ?_
                  rotate_left
                  · intro w'
                    go_simp
                    with_reducible rfl
                  rotate_left
                  · simp only [Act.put, List.setIfInBounds_toArray, List.set_cons_zero, List.set_cons_succ, i64_w, i32_w]
                    rfl
                  refine done_ (done_of HT_.out (by kernel_rfl)) ?_
                  try go_wp2
                  go_ret
                  exact ⟨by first | rfl | (simp [errW_none, errW_some] <;> rfl) | (simp [*, errW_none, errW_some] <;> rfl), by repeat (first | (with_reducible first | exact HB.out | apply below_alloc | apply pw_below_drewN | apply below_drew1 | refine below_set ?_ GE259.out | refine below_set ?_ GE285.out | refine below_set ?_ GE296.out) | exact HB.out)⟩
                · rw [if_neg c28] at H; exact absurd H (by simp)
              · rw [if_neg c25] at H; exact absurd H (by simp)
            · rw [if_neg c21] at H; exact absurd H (by simp)
          · rw [if_neg c20] at H; exact absurd H (by simp)
  · rw [if_neg c4] at H; exact absurd H (by simp)
end Go.Proofs.YteilnbnnhocciaaDoor.K

/-! F3 -/
set_option linter.unusedVariables false
namespace Go.Proofs.YteilnbnnhocciaaDoor.E
open Go.RowKit Go.Proofs.YteilnbnnhocciaaDoorW.PrintWords Go.Proofs.YteilnbnnhocciaaDoorW.PrintMore Go.Proofs.YteilnbnnhocciaaDoorM Go.Proofs.YteilnbnnhocciaaDoor.K
theorem parse_both (s : ByteArray) (hs : s.size ≤ 140737488351232) : ∃ lg nx sq c g err, edit_Parse.f s = some (lg, nx, sq, c, g, err) ∧ bourseref12_Parse.f s = some (lg, nx, sq, c.map c107, g.map c111, err) ∧ c.length ≤ 200 ∧ g.length ≤ 200 := by
  have hw : WF s 0 := ⟨by decide, by omega, hs⟩
  obtain ⟨v1, p1, e1, h1, w1, b1, s1⟩ := num_good.total s 0 0 hw
  obtain ⟨v2, p2, e2, h2, w2, b2, s2⟩ := num_good.total s p1 e1 w1
  obtain ⟨v3, p3, e3, h3, w3, b3, s3⟩ := num_good.total s p2 e2 w2
  obtain ⟨n4, p4, e4, h4, w4, b4, s4⟩ := count_good.total s p3 e3 w3
  obtain ⟨c, p5, e5, h5, w5, s5⟩ := comes_total n4.toNat s p4 e4 [] w4 (by
    by_cases h : e4 = 0
    · have := (s4 h).2.1; left; simp; omega
    · exact .inr h)
  obtain ⟨n6, p6, e6, h6, w6, b6, s6⟩ := count_good.total s p5 e5 w5
  obtain ⟨g, p7, e7, h7, w7, s7⟩ := gones_total n6.toNat s p6 e6 [] w6 (by
    by_cases h : e6 = 0
    · have := (s6 h).2.1; left; simp; omega
    · exact .inr h)
  obtain ⟨z, h8, hz⟩ := end_f s p7 e7 w7
  have hf : edit_Parse.f s = some (edit_Parse.fin v1 v2 v3 c g z) := by
    unfold edit_Parse.f
    simp only [h1, h2, h3, h4, Option.bind_some, if_pos b4, h5, List.nil_append, h6, if_pos b6, h7, h8]
  have k5 := comes_eq n4.toNat s p4 e4 [] w4
  rw [h5] at k5
  simp only [Option.map_some, List.map_nil, List.nil_append] at k5
  have k7 := gones_eq n6.toNat s p6 e6 [] w6
  rw [h7] at k7
  simp only [Option.map_some, List.map_nil, List.nil_append] at k7
  have hg : bourseref12_Parse.f s = some (bourseref12_Parse.fin v1 v2 v3 (c.map c107) (g.map c111) z (if z = 0 then edit_Edit_Check.val c g else 0)) := by
    unfold bourseref12_Parse.f
    simp only [num_eq 0 hw, h1, num_eq e1 w1, h2, num_eq e2 w2, h3, count_eq e3 w3, h4, Option.bind_some, if_pos b4, k5, count_eq e5 w5, h6, if_pos b6, k7, end_eq e7 w7, h8, check_eq 2000 (Nat.le_refl _)]
    by_cases hz0 : z = 0
    · rw [if_pos hz0, if_pos hz0]
    · rw [if_neg hz0, if_neg hz0]
  rw [hf, hg]
  unfold edit_Parse.fin bourseref12_Parse.fin
  by_cases hz0 : z = 0
  · rw [if_pos hz0, if_pos hz0, if_pos hz0]
    by_cases hv : edit_Edit_Check.val c g = 0
    · rw [if_pos hv, if_pos hv]
      refine ⟨_, _, _, _, _, _, rfl, rfl, ?_⟩
      unfold edit_Edit_Check.val at hv
      by_cases k1 : 200 < c.length ∨ 200 < g.length
      · rw [if_pos k1] at hv; cases hv
      · omega
    · rw [if_neg hv, if_neg hv]
      exact ⟨_, _, _, _, _, _, rfl, rfl, by simp, by simp⟩
  · rw [if_neg hz0, if_neg hz0]
    exact ⟨_, _, _, _, _, _, rfl, rfl, by simp, by simp⟩
theorem one_B (x : Int) : strOfNums [x] = B [UInt8.ofNat x.toNat] := list_ext rfl
theorem refnum_l : ∀ (d n k : Nat) (acc : List UInt8), n < 128 ^ (d + 1) → n < 18446744073709551616 → d < k → acc.length + d ≤ 1000000000 → bourseref03_Num.l0 k (n : Int) (B acc) = some (B (acc ++ enc n)) := by
  intro d
  induction d with
  | zero =>
    intro n k acc h h64 hk hl
    obtain ⟨k, rfl⟩ : ∃ k', k = k' + 1 := ⟨k - 1, by omega⟩
    have h1 : n < 128 := by simpa using h
    rw [bourseref03_Num.l0, if_neg (by omega)]
    simp only [Option.bind_some]
    rw [one_B, B_size, B_size, if_pos (by simp; omega), B_app, enc_small h1, show (((n : Int)) % 256).toNat = n by omega]
  | succ d ih =>
    intro n k acc h h64 hk hl
    obtain ⟨k, rfl⟩ : ∃ k', k = k' + 1 := ⟨k - 1, by omega⟩
    by_cases h1 : n < 128
    · rw [bourseref03_Num.l0, if_neg (by omega)]
      simp only [Option.bind_some]
      rw [one_B, B_size, B_size, if_pos (by simp; omega), B_app, enc_small h1, show (((n : Int)) % 256).toNat = n by omega]
    · have e1 : Int.tmod (n : Int) 128 = ((n % 128 : Nat) : Int) := by rw [Int.tmod_eq_emod_of_nonneg (by omega)]; omega
      have e2 : Int.tdiv (n : Int) 128 = ((n / 128 : Nat) : Int) := by rw [Int.tdiv_eq_ediv_of_nonneg (by omega)]; omega
      have e3 : IntKind.u64.wrap (128 + ((n % 128 : Nat) : Int)) % 256 = ((n % 128 + 128 : Nat) : Int) := by rw [IntKind.wrap_u64]; omega
      have e4 : IntKind.u64.wrap ((n / 128 : Nat) : Int) = ((n / 128 : Nat) : Int) := by rw [IntKind.wrap_u64]; omega
      have h2 : n / 128 < 128 ^ (d + 1) := by rw [Nat.div_lt_iff_lt_mul (by decide)]; rw [Nat.pow_succ] at h; exact h
      rw [bourseref03_Num.l0, if_pos (by omega)]
      simp only [Option.bind_some]
      rw [e1, e2, e3, e4, one_B, Int.toNat_natCast, B_size, B_size, if_pos (by simp; omega), B_app, ih (n / 128) k (acc ++ [UInt8.ofNat (n % 128 + 128)]) h2 (by omega) (by omega) (by simp; omega), enc_big h1]
      simp only [List.append_assoc, List.cons_append, List.nil_append]
theorem refnum_I (k : Nat) (hk : 10 ≤ k) (v : Int) (h : u64 v) : bourseref03_Num.f k v = some (B (encI v)) := by
  obtain ⟨n, rfl⟩ := Int.eq_ofNat_of_zero_le h.1
  have h2 := h.2
  have h9 : (128 : Nat) ^ (9 + 1) = 1180591620717411303424 := by decide
  have := refnum_l 9 n k [] (by rw [h9]; omega) (by omega) (by omega) (by simp)
  simpa [bourseref03_Num.f, encI, B] using this
theorem reftext_f (k : Nat) (hk : 10 ≤ k) (t : ByteArray) (h : t.size ≤ 100000) : bourseref03_Text.f k t = some (B (encT t)) := by
  unfold bourseref03_Text.f
  have hw : IntKind.u64.wrap ((t.size : Int)) = (t.size : Int) := by rw [IntKind.wrap_u64]; omega
  rw [hw, refnum_I k hk _ ⟨by omega, by omega⟩]
  simp only [Option.bind_some]
  have hle : (encI (t.size : Int)).length ≤ 10 := enc_le (by omega)
  rw [B_size, if_pos (by omega)]
  have h2 : encI (t.size : Int) = enc t.size := by rw [encI, Int.toNat_natCast]
  rw [h2, encT]
  first | rfl | (congr 1; rw [← B_app, ← B_of])
theorem refbytes_l1 : ∀ (d k i : Nat) (acc : List UInt8) (g : List S111), i + d = g.length → d + 11 ≤ k → g.length ≤ 200 → (∀ a ∈ g, ok111 a) → acc.length + d * 20 ≤ 1000000 →
    bourseref12_Edit_Bytes.l1 k (B acc) (g.map c111) (g.length : Int) (i : Int) = some (B (acc ++ (g.drop i).flatMap ser111), 0) := by
  intro d
  induction d with
  | zero =>
    intro k i acc g hi hk hg ho hl
    obtain ⟨k, rfl⟩ : ∃ k', k = k' + 1 := ⟨k - 1, by omega⟩
    rw [bourseref12_Edit_Bytes.l1, if_neg (by omega), List.drop_of_length_le (by omega)]
    simp
  | succ d ih =>
    intro k i acc g hi hk hg ho hl
    obtain ⟨k, rfl⟩ : ∃ k', k = k' + 1 := ⟨k - 1, by omega⟩
    have hlt : i < g.length := by omega
    have ha := ho g[i] (List.getElem_mem hlt)
    rw [bourseref12_Edit_Bytes.l1, if_pos (by omega), if_pos (by omega), if_pos (by rw [List.length_map]; omega), rd115c hlt, c111_0, c111_1]
    have hw : IntKind.u64.wrap (g[i]).f0 = (g[i]).f0 := by rw [IntKind.wrap_u64]; have := ha.1; omega
    rw [hw, refnum_I k (by omega) _ ⟨ha.1.1, by have := ha.1.2; omega⟩, refnum_I k (by omega) _ ha.2]
    have hs := ser111_le ha
    have he : ser111 g[i] = encI (g[i]).f0 ++ encI (g[i]).f1 := rfl
    have hsz : (ser111 g[i]).length = (encI (g[i]).f0).length + (encI (g[i]).f1).length := by rw [he, List.length_append]
    simp only [Option.bind_some, B_app, B_size, List.length_append]
    rw [if_pos (by omega), if_pos (by omega), List.append_assoc, ← he, w64 hlt hg, ih k (i + 1) (acc ++ ser111 g[i]) g (by omega) (by omega) hg ho (by simp; omega), List.drop_eq_getElem_cons hlt, List.flatMap_cons]
    simp only [List.append_assoc]
set_option maxRecDepth 20000 in
theorem refbytes_l0 : ∀ (d k i : Nat) (acc : List UInt8) (c : List S107) (g : List S111) (x y z : Int) (cc : List S114), i + d = c.length → d + g.length + 20 ≤ k → c.length ≤ 200 → g.length ≤ 200 → (∀ a ∈ c, ok107 a) → (∀ a ∈ g, ok111 a) → acc.length + d * 460 ≤ 200000 →
    bourseref12_Edit_Bytes.l0 k (B acc) (c.map c107) (c.length : Int) (i : Int) x y z cc (g.map c111) = some (B (acc ++ ((c.drop i).flatMap ser107 ++ (enc g.length ++ g.flatMap ser111))), 0) := by
  intro d
  induction d with
  | zero =>
    intro k i acc c g x y z cc hi hk hc hg ho ho2 hl
    obtain ⟨k, rfl⟩ : ∃ k', k = k' + 1 := ⟨k - 1, by omega⟩
    rw [bourseref12_Edit_Bytes.l0, if_neg (by omega), List.drop_of_length_le (by omega), List.length_map]
    have hw : IntKind.u64.wrap (g.length : Int) = (g.length : Int) := by rw [IntKind.wrap_u64]; omega
    rw [hw, refnum_I k (by omega) _ ⟨by omega, by omega⟩]
    have he : encI (g.length : Int) = enc g.length := by simp [encI]
    have hle : (enc g.length).length ≤ 10 := enc_le (by omega)
    simp only [Option.bind_some, B_app, B_size, he]
    rw [if_pos (by omega)]
    have := refbytes_l1 g.length k 0 (acc ++ enc g.length) g (by omega) (by omega) hg ho2 (by simp; omega)
    simpa using this
  | succ d ih =>
    intro k i acc c g x y z cc hi hk hc hg ho ho2 hl
    obtain ⟨k, rfl⟩ : ∃ k', k = k' + 1 := ⟨k - 1, by omega⟩
    have hlt : i < c.length := by omega
    have ha := ho c[i] (List.getElem_mem hlt)
    rw [bourseref12_Edit_Bytes.l0, if_pos (by omega), if_pos (by omega), if_pos (by rw [List.length_map]; omega), rd114c hlt, c107_0, c107_1, c107_2, c107_3, c107_4, c107_5]
    have hw : IntKind.u64.wrap (c[i]).f0 = (c[i]).f0 := by rw [IntKind.wrap_u64]; have := ha.1; omega
    have hs := ser107_le ha
    obtain ⟨h0, h1, h2, h3, h4, h5⟩ := ha
    rw [hw, refnum_I k (by omega) _ ⟨h0.1, by omega⟩, refnum_I k (by omega) _ h1, refnum_I k (by omega) _ h2, refnum_I k (by omega) _ h3, reftext_f k (by omega) _ (by omega), reftext_f k (by omega) _ (by omega)]
    have he : ser107 c[i] = encI (c[i]).f0 ++ (encI (c[i]).f1.f0 ++ (encI (c[i]).f1.f1 ++ (encI (c[i]).f1.f2 ++ (encT (c[i]).f1.f3 ++ encT (c[i]).f1.f4)))) := rfl
    have hsz : (ser107 c[i]).length = (encI (c[i]).f0).length + ((encI (c[i]).f1.f0).length + ((encI (c[i]).f1.f1).length + ((encI (c[i]).f1.f2).length + ((encT (c[i]).f1.f3).length + (encT (c[i]).f1.f4).length)))) := by rw [he]; simp only [List.length_append]
    simp only [Option.bind_some, B_app, B_size, List.length_append]
    rw [if_pos (by omega), if_pos (by omega), if_pos (by omega), if_pos (by omega), if_pos (by omega), if_pos (by omega)]
    have hap : acc ++ encI (c[i]).f0 ++ encI (c[i]).f1.f0 ++ encI (c[i]).f1.f1 ++ encI (c[i]).f1.f2 ++ encT (c[i]).f1.f3 ++ encT (c[i]).f1.f4 = acc ++ ser107 c[i] := by rw [he]; simp only [List.append_assoc]
    rw [hap, w64 hlt hc, ih k (i + 1) (acc ++ ser107 c[i]) c g x y z cc (by omega) (by omega) hc hg ho ho2 (by simp; omega), List.drop_eq_getElem_cons hlt, List.flatMap_cons]
    simp only [List.append_assoc]
theorem refbytes_f (k : Nat) (hk : 2000 ≤ k) {lg nx sq : Int} {c : List S107} {g : List S111} (h : okE lg nx sq c g) (hv : edit_Edit_Check.val c g = 0) : bourseref12_Edit_Bytes.f k lg nx sq (c.map c107) (g.map c111) = some (B (serE lg nx sq c g), 0) := by
  have hcl := h.hcl
  have hgl := h.hgl
  unfold bourseref12_Edit_Bytes.f
  rw [check_eq k hk, List.length_map]
  simp only [Option.bind_some]
  have hw : IntKind.u64.wrap (c.length : Int) = (c.length : Int) := by rw [IntKind.wrap_u64]; omega
  rw [if_pos hv, hw, refnum_I k (by omega) _ h.hlg, refnum_I k (by omega) _ h.hnx, refnum_I k (by omega) _ h.hsq, refnum_I k (by omega) _ ⟨by omega, by omega⟩]
  have l1 : (encI lg).length ≤ 10 := enc_le (by have := h.hlg.1; have := h.hlg.2; omega)
  have l2 : (encI nx).length ≤ 10 := enc_le (by have := h.hnx.1; have := h.hnx.2; omega)
  have l3 : (encI sq).length ≤ 10 := enc_le (by have := h.hsq.1; have := h.hsq.2; omega)
  have l4 : (enc c.length).length ≤ 10 := enc_le (by omega)
  have he : encI (c.length : Int) = enc c.length := by simp [encI]
  simp only [Option.bind_some, B_app, B_size, List.length_append, he]
  rw [if_pos (by omega), if_pos (by omega), if_pos (by omega)]
  have := refbytes_l0 c.length k 0 (encI lg ++ encI nx ++ encI sq ++ enc c.length) c g lg nx sq (c.map c107) (by omega) (by omega) hcl hgl h.hc h.hg (by simp; omega)
  rw [show ((0 : Nat) : Int) = 0 from rfl] at this
  rw [this]
  simp [serE]
theorem refbytes_bad (k : Nat) (hk : 2000 ≤ k) {lg nx sq : Int} {c : List S107} {g : List S111} (hv : edit_Edit_Check.val c g ≠ 0) : bourseref12_Edit_Bytes.f k lg nx sq (c.map c107) (g.map c111) = some (⟨#[]⟩, edit_Edit_Check.val c g) := by
  unfold bourseref12_Edit_Bytes.f
  rw [check_eq k hk]
  simp only [Option.bind_some]
  rw [if_neg hv]
theorem light_l0' : ∀ (d k i : Nat) (x : List S107) (u v w : Int) (c : List S107) (g : List S111), i + d = x.length → d < k → x.length ≤ 9223372036854775807 → ∃ b, bourselaw12_Light.l0 k x (x.length : Int) (i : Int) u v w c g = some b ∧ (b = true → c.length ≤ 210 ∧ g.length ≤ 210) := by
  intro d
  induction d with
  | zero =>
    intro k i x u v w c g hi hk hx
    obtain ⟨k, rfl⟩ : ∃ k', k = k' + 1 := ⟨k - 1, by omega⟩
    rw [bourselaw12_Light.l0, if_neg (by omega)]
    by_cases h : (c.length : Int) ≤ 210
    · rw [if_pos h]
      exact ⟨_, rfl, fun h2 => by have := of_decide_eq_true h2; omega⟩
    · rw [if_neg h]
      exact ⟨_, rfl, fun h2 => by cases h2⟩
  | succ d ih =>
    intro k i x u v w c g hi hk hx
    obtain ⟨k, rfl⟩ : ∃ k', k = k' + 1 := ⟨k - 1, by omega⟩
    rw [bourselaw12_Light.l0, if_pos (by omega), if_pos (by omega), if_pos (by omega)]
    split
    · exact ⟨_, rfl, fun h2 => by cases h2⟩
    · split
      · exact ⟨_, rfl, fun h2 => by cases h2⟩
      · rw [wrap_in (by omega) (by omega), show (i : Int) + 1 = ((i + 1 : Nat) : Int) by omega]
        exact ih k (i + 1) x u v w c g (by omega) (by omega) hx
theorem editBytes_j0 (k : Nat) (hk : 3000 ≤ k) (s : ByteArray) (hs : s.size ≤ 140737488351232) (q : Bool) (a b d : Int) (c : List S107) (g : List S111) (hc : c.length ≤ 210) (hg : g.length ≤ 210) (hA : edit_Edit_Check.val c g = 0 → okE a b d c g) :
    bourselaw12_EditBytes.j0 (k + 1) s q a b d c g = some true := by
  rw [bourselaw12_EditBytes.j0]
  by_cases hq : q = true
  · rw [if_pos hq]
  · rw [if_neg hq]
    obtain ⟨lg, nx, sq, pc, pg, err, h1, h2, h3, h4⟩ := parse_both s hs
    have hchk : edit_Edit_Check.f a b d c g = some (edit_Edit_Check.val c g) := rfl
    have hsame := same_self k lg nx sq (pc.map c107) (pg.map c111) (by simp; omega) (by simp; omega) (by simp; omega)
    by_cases hv : edit_Edit_Check.val c g = 0
    · have ho := hA hv
      simp only [bytes_f k (by omega) ho hv, to_eq k a b d c g (by omega) (by omega) (by omega), refbytes_f k (by omega) ho hv, h1, h2, hchk, check_eq k (by omega), to_eq k lg nx sq pc pg (by omega) (by omega) (by omega), hsame, Option.bind_some, if_true, beq_self_eq_true]
    · simp only [bytes_bad k hv, to_eq k a b d c g (by omega) (by omega) (by omega), refbytes_bad k (by omega) hv, h1, h2, hchk, check_eq k (by omega), to_eq k lg nx sq pc pg (by omega) (by omega) (by omega), hsame, Option.bind_some, if_true, beq_self_eq_true]
theorem editBytes (a b d : Int) (c : List S107) (g : List S111) (s : ByteArray) (hs : s.size ≤ 140737488351232) (h1 : u64 a) (h2 : u64 b) (h3 : u64 d) (hc : ∀ x ∈ c, arg107 x) (hg : ∀ x ∈ g, arg111 x) (hl : c.length ≤ 9223372036854775807) :
    ∃ k, bourselaw12_EditBytes.f k a b d c g s = some true := by
  refine ⟨c.length + 3000 + 1, ?_⟩
  unfold bourselaw12_EditBytes.f bourselaw12_awake.f
  simp only [Option.bind_some]
  rw [if_pos (by trivial)]
  obtain ⟨x, hx, hx2⟩ := light_l0' c.length (c.length + 3000 + 1) 0 c a b d c g (by omega) (by omega) hl
  have hx' : bourselaw12_Light.f (c.length + 3000 + 1) a b d c g = some x := hx
  rw [hx']
  simp only [Option.bind_some]
  by_cases ht : x = true
  · obtain ⟨k1, k2⟩ := hx2 ht
    rw [if_pos ht]
    exact editBytes_j0 (c.length + 3000) (by omega) s hs _ a b d c g k1 k2 (fun hv => check_ok hv h1 h2 h3 hc hg)
  · rw [if_neg ht, bourselaw12_EditBytes.j0, if_pos rfl]
end Go.Proofs.YteilnbnnhocciaaDoor.E

/-! M3 -/
set_option linter.unusedVariables false
namespace Go.Proofs.YteilnbnnhocciaaDoorM
open Go.RowKit Go.Proofs.YteilnbnnhocciaaDoorW.PrintWords
def Opens (P : Program) (t : TypeId) {α : Type} (d : Kd α) (G : α → Prop) : Prop :=
  ∀ {H : Type} (enc : TypeId × Value → H) (w : World) (base : Nat) (spare : Nat → Bool) (held : Bool) (n : Nat) (cs : List Value) (x : DataW H × List MemPlace), DataW.trod enc P w base spare held n t cs = some x → ∃ a, d.K w a cs ∧ G a
variable {P : Program}
theorem opens_int {t : TypeId} {k : IntKind} (ht : P.underlying t = some (.int k)) : Opens P t (Kd.int k) (fun n => (Lit.int k n).wf = true) := by
  intro H enc w base spare held n cs x h
  obtain ⟨m, rfl, _, hw⟩ := DataW.trod_int ht h
  exact ⟨m, rfl, hw⟩
theorem opens_string {t : TypeId} (ht : P.underlying t = some .string) : Opens P t Kd.string (fun s => s.size ≤ maxLen) := by
  intro H enc w base spare held n cs x h
  obtain ⟨s, rfl, _, hs⟩ := DataW.trod_string ht h
  exact ⟨s, rfl, hs⟩
theorem Opens.iso {t : TypeId} {α β : Type} {d : Kd α} {G : α → Prop} (h : Opens P t d G) (f : β → α) (g : α → β) (hg : ∀ a, f (g a) = a) : Opens P t (Kd.iso d f) (fun y => G (f y)) := by
  intro H enc w base spare held n cs x hx
  obtain ⟨a, hK, hG⟩ := h enc w base spare held n cs x hx
  exact ⟨g a, (by rw [hg]; exact hK : d.K w (f (g a)) cs), by show G (f (g a)); rw [hg]; exact hG⟩
theorem Opens.good {t : TypeId} {α : Type} {d : Kd α} {G G' : α → Prop} (h : Opens P t d G) (hg : ∀ a, G a → G' a) : Opens P t d G' := by
  intro H enc w base spare held n cs x hx
  obtain ⟨a, hK, hG⟩ := h enc w base spare held n cs x hx
  exact ⟨a, hK, hg a hG⟩
def OpensF (P : Program) (fs : List Field) (off : Nat) {α : Type} (d : Kd α) (G : α → Prop) : Prop :=
  ∀ {H : Type} (enc : TypeId × Value → H) (w : World) (base : Nat) (spare : Nat → Bool) (held : Bool) (n : Nat) (cs : List Value), cs.length = off + d.sz →
    (∀ f ∈ fs, ∃ y, DataW.trod enc P w base spare held n f.type ((cs.drop f.offset).take (P.cellsOf f.type)) = some y) → ∃ a, d.K w a (cs.drop off) ∧ G a
theorem opensF_one {f : Field} {off : Nat} {α : Type} {d : Kd α} {G : α → Prop} (h : Opens P f.type d G) (ho : f.offset = off) (hs : P.cellsOf f.type = d.sz) : OpensF P [f] off d G := by
  intro H enc w base spare held n cs hl hf
  obtain ⟨y, hy⟩ := hf f (by simp)
  rw [ho, List.take_of_length_le (by rw [List.length_drop]; omega)] at hy
  exact h enc w base spare held n _ _ hy
theorem opensF_cons {f : Field} {fs : List Field} {off : Nat} {α β : Type} {d : Kd α} {G : α → Prop} {d' : Kd β} {G' : β → Prop} (h : Opens P f.type d G) (ho : f.offset = off) (hs : P.cellsOf f.type = d.sz)
    (hr : OpensF P fs (off + d.sz) d' G') : OpensF P (f :: fs) off (Kd.pair d d') (fun x => G x.1 ∧ G' x.2) := by
  intro H enc w base spare held n cs hl hf
  obtain ⟨y, hy⟩ := hf f (by simp)
  rw [ho, hs] at hy
  obtain ⟨a, hK, hG⟩ := h enc w base spare held n _ _ hy
  obtain ⟨b, hK', hG'⟩ := hr enc w base spare held n cs (by rw [hl]; show off + (d.sz + d'.sz) = _; omega) (fun g hg => hf g (by simp [hg]))
  refine ⟨(a, b), ⟨_, _, ?_, hK, hK'⟩, hG, hG'⟩
  rw [← List.drop_drop, List.take_append_drop]
theorem opens_struct {t : TypeId} {fs : List Field} {α : Type} {d : Kd α} {G : α → Prop} (ht : P.underlying t = some (.struct fs.toArray)) (hs : P.cellsOf t = d.sz) (h : OpensF P fs 0 d G) : Opens P t d G := by
  intro H enc w base spare held n cs x hx
  obtain ⟨xs, m, _, _, hl, hlen, hf⟩ := DataW.trod_struct ht hx
  obtain ⟨a, hK, hG⟩ := h enc w base spare held m cs (by rw [hl, hs]; omega) (fun f hm => by
    obtain ⟨i, hi, hfi⟩ := List.getElem_of_mem hm
    have h1 := hf i f (by simp [hi, hfi])
    rw [h1]
    have hlt : i < xs.length := by rw [hlen]; simpa using hi
    exact ⟨xs[i], List.getElem?_eq_getElem hlt⟩)
  exact ⟨a, by simpa using hK, hG⟩
theorem add_of_add' (a : Addr) (i j : Nat) : (a.add i).add j = a.add (i + j) := by
  unfold Addr.add
  by_cases hi : i = 0 <;> by_cases hj : j = 0 <;> simp [hi, hj, Nat.add_assoc]
theorem list_of {α : Type} {n : Nat} {p : Nat → α → Prop} (h : ∀ i, i < n → ∃ x, p i x) : ∃ l : List α, l.length = n ∧ ∀ i (hi : i < l.length), p i l[i] := by
  induction n with
  | zero => exact ⟨[], rfl, fun i hi => absurd hi (Nat.not_lt_zero _)⟩
  | succ n ih =>
    obtain ⟨l, hl, hp⟩ := ih (fun i hi => h i (by omega))
    obtain ⟨x, hx⟩ := h n (by omega)
    refine ⟨l ++ [x], by simp [hl], fun i hi => ?_⟩
    by_cases hi' : i < l.length
    · rw [List.getElem_append_left hi']; exact hp i hi'
    · have hn : i = n := by simp [hl] at hi; omega
      subst hn
      rw [List.getElem_append_right (by omega)]
      simpa [hl] using hx
theorem opens_slice {t e : TypeId} {α : Type} {d : Kd α} {G : α → Prop} (ht : P.underlying t = some (.slice e)) (hs : P.cellsOf e = d.sz) (h : Opens P e d G) : Opens P t (Kd.slice e d) (fun l => ∀ x ∈ l, G x) := by
  intro H enc w base spare held n cs x hx
  rcases DataW.trod_slice ht hx with ⟨rfl, _⟩ | ⟨a, len, cap, elems, rest, m, _, rfl, _, hb, hl, hm, hlen, hel, _, _⟩
  · exact ⟨[], ⟨none, 0, rfl, Nat.le_refl _, Kd.C_nil _ _⟩, fun x hx => by cases hx⟩
  · obtain ⟨l, hll, hp⟩ := list_of (n := len) (p := fun i a' => ∃ c, w.cells? base (a.add (i * P.cellsOf e)) (P.cellsOf e) = some c ∧ d.K w a' c ∧ G a') (fun i hi => by
      have h1 := hel i hi
      rw [List.getElem?_eq_getElem (by omega)] at h1
      obtain ⟨c, hc, hy⟩ := Option.bind_eq_some_iff.mp h1
      obtain ⟨a', hK, hG⟩ := h enc w base spare held m c _ hy
      exact ⟨a', c, hc, hK, hG⟩)
    refine ⟨l, ⟨some a, cap, by rw [hll], by omega, rfl, by unfold maxLen at hm; omega, fun _ => ⟨a, rfl, fun j p hj => ?_⟩⟩, fun x hx => ?_⟩
    · have hjl : j < l.length := (List.getElem?_eq_some_iff.1 hj).1
      obtain ⟨c, hc, hK, _⟩ := hp j hjl
      obtain rfl : l[j] = p := by rw [List.getElem?_eq_getElem hjl] at hj; exact Option.some.inj hj
      obtain ⟨_, hcl, hcell⟩ := World.cells?_some hc
      refine ⟨c, by rw [hcl, hs], hK, fun i u hu => ?_⟩
      have hi : i < P.cellsOf e := by rw [← hcl]; exact (List.getElem?_eq_some_iff.1 hu).1
      rw [← hs, ← add_of_add', hcell i hi, hu]
    · obtain ⟨i, hi, rfl⟩ := List.getElem_of_mem hx
      obtain ⟨c, _, _, hG⟩ := hp i hi
      exact hG
end Go.Proofs.YteilnbnnhocciaaDoorM

/-! R0 -/
set_option linter.unusedVariables false
namespace Go.Proofs.YteilnbnnhocciaaDoor.R0
open Go.ChangeShapes Go.WideShapes Go.ChangeAt Go.RowKit Go.Lib Go.Shelf
open Go.ChangeMaps (open_string shut_string)
open Go.Proofs.YteilnbnnhocciaaDoorM Go.Proofs.YteilnbnnhocciaaDoorW.PrintWords Go.Proofs.YteilnbnnhocciaaDoor.K Go.Proofs.YteilnbnnhocciaaDoor.E
theorem own : ownKnob Tryd.prog.godebug = none := by kernel_rfl
theorem laidOut : laidOutB Tryd.prog = true := by kernel_rfl
def cellsOfData : DataW Unit → Array Value
  | .agg l => (l.map fun
    | .lit (.int k n) => Value.int k n
    | _ => Value.bool false).toArray
  | _ => #[]
noncomputable def laidWorld (os : Os) : World :=
  let w0 := World.holding Tryd.prog os ⟨#[], #[], []⟩
  let put (h : Array Obj) (g : Nat) (cs : Array Value) : Array Obj := h.modify g fun
    | .cells _ t frozen => .cells cs t frozen
    | o => o
  { w0 with heap := put (put (put w0.heap 2 (cellsOfData Rows.laid_internal_strconv_uint64pow10)) 4 (cellsOfData Rows.laid_math_bits_deBruijn32tab)) 5 (cellsOfData Rows.laid_math_bits_deBruijn64tab) }
theorem laid_met (os : Os) (args : Array Value) : laidMet Tryd.prog Rows.editBytesRow.laid ((laidWorld os).forCall (fun _ _ => 0) ⟨#[], args, []⟩).memory :=
  (LaidIn.of_run [2, 4, 5] 8 (by kernel_rfl) (by kernel_rfl) (by kernel_rfl) (by kernel_rfl)).met
def w64 (n : Int) : Prop := (Lit.int .u64 n).wf = true
theorem u64_of {n : Int} (h : w64 n) : u64 n := by
  simp [w64, Lit.wf, IntKind.min, IntKind.max, IntKind.signed, IntKind.bits] at h
  exact ⟨by omega, by omega⟩
section
attribute [local irreducible] Opens OpensF
set_option maxRecDepth 10000
theorem opens97 : Opens Tryd.prog 97 k97 (fun x => w64 x.f0 ∧ w64 x.f1 ∧ w64 x.f2) := by
  unfold k97
  refine (Opens.iso (opens_struct Tryd.underlying97 (by kernel_rfl) (opensF_cons (opens_int Tryd.underlying22) rfl (by kernel_rfl) (opensF_cons (opens_int Tryd.underlying22) rfl (by kernel_rfl) (opensF_cons (opens_int Tryd.underlying22) rfl (by kernel_rfl)
    (opensF_cons (opens_string Tryd.underlying9) rfl (by kernel_rfl) (opensF_one (opens_string Tryd.underlying9) rfl (by kernel_rfl))))))) _ (fun a => ⟨a.1, a.2.1, a.2.2.1, a.2.2.2.1, a.2.2.2.2⟩) (fun _ => rfl)).good ?_
  rintro x ⟨h1, h2, h3, _⟩
  exact ⟨h1, h2, h3⟩
theorem opens107 : Opens Tryd.prog 107 k107 arg107 := by
  unfold k107
  refine (Opens.iso (opens_struct Tryd.underlying107 (by kernel_rfl) (opensF_cons (opens_int Tryd.underlying3) rfl (by kernel_rfl) (opensF_one opens97 rfl (by kernel_rfl)))) _ (fun a => ⟨a.1, a.2⟩) (fun _ => rfl)).good ?_
  rintro x ⟨_, h1, h2, h3⟩
  exact ⟨u64_of h1, u64_of h2, u64_of h3⟩
theorem opens111 : Opens Tryd.prog 111 k111 arg111 := by
  unfold k111
  refine (Opens.iso (opens_struct Tryd.underlying111 (by kernel_rfl) (opensF_cons (opens_int Tryd.underlying3) rfl (by kernel_rfl) (opensF_one (opens_int Tryd.underlying22) rfl (by kernel_rfl)))) _ (fun a => ⟨a.1, a.2⟩) (fun _ => rfl)).good ?_
  rintro x ⟨_, h1⟩
  exact u64_of h1
def k26 : Kd (Int × Int × Int × List S107 × List S111) := Kd.pair (Kd.int .u64) (Kd.pair (Kd.int .u64) (Kd.pair (Kd.int .u64) (Kd.pair (Kd.slice 107 k107) (Kd.slice 111 k111))))
theorem opens26 : Opens Tryd.prog 26 k26 (fun x => w64 x.1 ∧ w64 x.2.1 ∧ w64 x.2.2.1 ∧ (∀ a ∈ x.2.2.2.1, arg107 a) ∧ ∀ a ∈ x.2.2.2.2, arg111 a) :=
  opens_struct Tryd.underlying26 (by kernel_rfl) (opensF_cons (opens_int Tryd.underlying22) rfl (by kernel_rfl) (opensF_cons (opens_int Tryd.underlying22) rfl (by kernel_rfl) (opensF_cons (opens_int Tryd.underlying22) rfl (by kernel_rfl)
    (opensF_cons (opens_slice Tryd.underlying23 (by kernel_rfl) opens107) rfl (by kernel_rfl) (opensF_one (opens_slice Tryd.underlying24 (by kernel_rfl) opens111) rfl (by kernel_rfl))))))
end
set_option maxRecDepth 100000 in
theorem open26 {H : Type} {enc : TypeId × Value → H} {W : World} {base base' : Nat} {sp : Nat → Bool} {held : Bool} {v : Value} {d : DataW H} {p : List MemPlace}
    (hv : Value.okWide Tryd.prog W .any base 26 v) (h : DataW.Trod enc Tryd.prog W base' sp held 26 v d p) :
    ∃ (a b e : Int) (A : Option Addr) (c : Nat) (l : List S107) (A' : Option Addr) (c' : Nat) (l' : List S111), v = .agg #[.int .u64 a, .int .u64 b, .int .u64 e, .slice A l.length c, .slice A' l'.length c'] ∧
      u64 a ∧ u64 b ∧ u64 e ∧ (∀ x ∈ l, arg107 x) ∧ (∀ x ∈ l', arg111 x) ∧ Kd.C k107 W A l.length l ∧ l.length ≤ c ∧ Kd.C k111 W A' l'.length l' ∧ l'.length ≤ c' := by
  obtain ⟨cs, rfl, _⟩ := okWide_struct Tryd.underlying26 hv
  obtain ⟨m, hm⟩ := h
  obtain ⟨⟨a, b, e, l, l'⟩, hK, hG⟩ := opens26 enc W base' sp held m _ _ hm
  obtain ⟨g1, g2, g3, g4, g5⟩ := hG
  obtain ⟨_, _, hcs, rfl, _, _, rfl, rfl, _, _, rfl, rfl, _, _, rfl, ⟨A, c, rfl, hl, hC⟩, ⟨A', c', rfl, hl', hC'⟩⟩ := hK
  refine ⟨a, b, e, A, c, l, A', c', l', ?_, u64_of g1, u64_of g2, u64_of g3, g4, g5, hC, hl, hC', hl'⟩
  simp only [Value.cells] at hcs
  obtain ⟨cs⟩ := cs
  simp at hcs
  subst hcs
  rfl
end Go.Proofs.YteilnbnnhocciaaDoor.R0

/-! R3 -/
set_option linter.unusedVariables false
namespace Go.Proofs.YteilnbnnhocciaaDoor.R3
open Go.ChangeShapes Go.WideShapes Go.ChangeAt Go.RowKit Go.Lib Go.Shelf
open Go.ChangeMaps (open_string shut_string)
open Go.Proofs.YteilnbnnhocciaaDoorM Go.Proofs.YteilnbnnhocciaaDoorW.PrintWords Go.Proofs.YteilnbnnhocciaaDoor.K Go.Proofs.YteilnbnnhocciaaDoor.E Go.Proofs.YteilnbnnhocciaaDoor.R0
set_option maxRecDepth 100000 in
theorem lifted (os : Os) (started : os.Started) (H : Type) (enc : TypeId × Value → H) :
    ReturnsInHanded {} Tryd.checked os 3 .any (fun w args => (Rows.editBytesSpec.pre enc Tryd.prog Tryd.f3 [] false w args ∧ laidMet Tryd.prog Rows.editBytesRow.laid w) ∧ sizedMet enc Tryd.prog Tryd.f3 (OpenSpec.ofChange Rows.editBytesSpec) false w args)
      (Rows.editBytesSpec.post enc Tryd.prog Tryd.f3 false true false false) := by
  refine returnsInHanded_of_change_and (C := Tryd.checked) (X := fun w _ => laidMet Tryd.prog Rows.editBytesRow.laid w) (fun _ _ _ hh h => h.of_heap hh) own started (by kernel_rfl) Tryd.func3
    (ChangeSpec.witness_at (enc := enc) (C := Tryd.checked) (os := os) (X := fun w _ => laidMet Tryd.prog Rows.editBytesRow.laid w) false (laidWorld os)
      #[.agg #[.int .u64 0, .int .u64 0, .int .u64 0, .slice none 0 0, .slice none 0 0], .string ByteArray.empty] 8
      rfl (by kernel_rfl) (by kernel_rfl) (by kernel_rfl) (by kernel_rfl) (by kernel_rfl) (laid_met os _)) ?_
  intro W base args ds gs before hval0 hW hcnd hsz0 _ _
  have hsz : (DataW.weightsEach Tryd.prog (Tryd.f3.params.toList ++ Rows.editBytesSpec.plain.varTypes Tryd.prog) (ds ++ gs)).all (· ≤ reachBytes) = true := hsz0
  have hval : ∀ (j : Nat) t v, Tryd.f3.params[j]? = some t → args[j]? = some v → Value.okWide Tryd.prog W .any base t v := hval0
  have hW' := hW
  obtain ⟨p, q, hA0, hV, rfl, hfz, hnd⟩ := hW
  have hA : DataW.TrodAll enc Tryd.prog W 0 (fun _ => true) true Tryd.f3.params.toList args.toList ds p := hA0
  rw [Tryd.params3] at hA hval hsz
  obtain ⟨v0, v2, d0, d2, p0, p2, rfl, rfl, rfl, h0, h2⟩ := trodAll_two hA
  obtain ⟨rfl, rfl⟩ := trodVars_none hV
  have hk0 := h0
  have lt0 : ∀ x ∈ p0, x.block < W.heap.size := by obtain ⟨m, hm⟩ := hk0; exact DataW.trod_lt m _ _ _ hm
  obtain ⟨a, b, e, A, c, l, A', c', l', rfl, ha, hb, he, hl, hl', hC, hc, hC', hc'⟩ := open26 (hval 0 26 v0 rfl rfl) h0
  obtain ⟨s, rfl, rfl, rfl, hs⟩ := open_string Tryd.underlying9 (hval 1 9 v2 rfl rfl) h2
  have ws : s.size ≤ 140737488351232 := by
    have z := sized_string hsz (j := 1) (t := 9) rfl rfl
    rw [Array.length_toList] at z
    exact z
  clear hA0 hval0 hsz0 hsz
  obtain ⟨k, hr⟩ := editBytes a b e l l' s ws ha hb he hl hl' (Kd.C_max hC)
  refine (bourselaw12_EditBytes.calls k a b e A c l A' c' l' s true W hC hc hC' hc' hr).mono ?_
  rintro r W' ⟨rfl, bel⟩
  exact ⟨_, rfl, _, _, _, [], _, [], hW', trodAll_mk1 (shut_bool Tryd.underlying4 _), (trodAll_cons_mk (Below.trod laidOut (by kernel_rfl) (of_decide_eq_true (by kernel_rfl)) hk0 bel lt0) (trodAll_cons_mk (shut_string Tryd.underlying9 hs) trodAll_mk0)), rfl, bel.frame _, fun h => by cases h⟩
theorem over : Rows.editBytesRow.holds Tryd.pinned (OpenSpec.ofChange Rows.editBytesSpec) :=
  OpenClaim.holds_of_wide 3 Tryd.f3 rfl rfl rfl rfl rfl rfl rfl ⟨rfl, rfl, rfl, rfl, rfl⟩ rfl rfl rfl rfl rfl (by kernel_rfl) Tryd.func3 (by kernel_rfl) (of_decide_eq_true (by kernel_rfl))
    (by unfold Func.isWrapper; first | (rw [if_pos (by decide +kernel)]; kernel_rfl) | (rw [if_neg (by decide +kernel)]; exact ⟨rfl, rfl⟩))
    (fun os started H enc _ => lifted os started H enc)
end Go.Proofs.YteilnbnnhocciaaDoor.R3
namespace Go.Proofs.YteilnbnnhocciaaDoor
theorem editBytes_holds : Rows.EditBytesSaid := R3.over
end Go.Proofs.YteilnbnnhocciaaDoor

/-! C3 -/
namespace Go.Proofs.YteilnbnnhocciaaDoor
open Go
theorem editBytesCard_holds : Rows.EditBytesCardSaid :=
  Claim7.holds_tied_plain_at .later [] [.data, .data, .data] true (true, "bc9cca30e6bcb58c3d7b40caaba0da34bdf01bc2fab1082ae4b270bbcf37ee66") true
    editBytes_holds (fun _ h => by cases h) (by kernel_rfl) (fun _ h => by cases h) editBytes_row_tie rfl ⟨rfl, rfl⟩ (by kernel_rfl) rfl
    (fun f fn hf hfn => by
      obtain rfl : f = 3 := Option.some.inj ((show Tryd.prog.funcNamed "bourse/bourselaw12.EditBytes" = some 3 by kernel_rfl).symm.trans hf) |>.symm
      obtain rfl : fn = Tryd.f3 := (Option.some.inj (Tryd.func3.symm.trans hfn)).symm
      exact ⟨by kernel_rfl, fun j t ht => by
        rw [Tryd.params3] at ht
        have h3 : t = 26 ∨ t = 9 := by
          rcases j with _ | _ | j
          · exact .inl (by simpa using ht.symm)
          · exact .inr (by simpa using ht.symm)
          · simp at ht
        rcases h3 with rfl | rfl
        · exact (show Tryd.prog.wantsStandIn 26 = false by kernel_rfl)
        · exact (show Tryd.prog.wantsStandIn 9 = false by kernel_rfl)⟩)
    (by kernel_rfl)
end Go.Proofs.YteilnbnnhocciaaDoor
