/- EditBytes is true for every input: the card, tied (part 4 of 7; packed by program out of the texts named below) -/
import Derived.Test.YteilnbnnhocciaaDoorXA3

/-! K27 -/
namespace Go.Proofs.YteilnbnnhocciaaDoor.K
open Go.RowKit Go.Proofs.YteilnbnnhocciaaDoorW.PrintWords Go.Proofs.YteilnbnnhocciaaDoorW.PrintLast Go.Proofs.YteilnbnnhocciaaDoorW.PrintMore Go.Proofs.YteilnbnnhocciaaDoorM
attribute [local go_sem] max2_int min2_int max_two min_two max_three min_three max_four min_four
attribute [local go_sem] gtr_run leq_run geq_run
set_option linter.unusedVariables false
set_option linter.unusedSimpArgs false
mutual
def bourseref12_Edit_Check.j0 : Nat → Bool → Int → Int → Int → List (S114) → List (S115) → Option (Int)
  | 0, _, _, _, _, _, _ => none
  | k + 1, x18, x195000, x195001, x195002, x195003, x195004 => if x18 = true then (some 6) else (bourseref12_Edit_Check.l0 k x195003 (x195003.length : Int) 0 x195000 x195001 x195002 x195003 x195004)
def bourseref12_Edit_Check.l0 : Nat → List (S114) → Int → Int → Int → Int → Int → List (S114) → List (S115) → Option (Int)
  | 0, _, _, _, _, _, _, _, _ => none
  | k + 1, x20, x21, x22, x195000, x195001, x195002, x195003, x195004 => if x22 < x21 then (if 0 ≤ x22 then (if x22 < (x20.length : Int) then (if ((rd_T114 x20 x22).f0) < 0 then (bourseref12_Edit_Check.j2 k x20 x21 x22 true x195000 x195001 x195002 x195003 x195004 ((rd_T114 x20 x22).f0) ((rd_T114 x20 x22).f1.f0) ((rd_T114 x20 x22).f1.f1) ((rd_T114 x20 x22).f1.f2) ((rd_T114 x20 x22).f1.f3) ((rd_T114 x20 x22).f1.f4)) else (bourseref12_Edit_Check.j2 k x20 x21 x22 (decide (((rd_T114 x20 x22).f0) > 3)) x195000 x195001 x195002 x195003 x195004 ((rd_T114 x20 x22).f0) ((rd_T114 x20 x22).f1.f0) ((rd_T114 x20 x22).f1.f1) ((rd_T114 x20 x22).f1.f2) ((rd_T114 x20 x22).f1.f3) ((rd_T114 x20 x22).f1.f4))) else (none)) else (none)) else (bourseref12_Edit_Check.l2 k x195004 (x195004.length : Int) 0)
def bourseref12_Edit_Check.j2 : Nat → List (S114) → Int → Int → Bool → Int → Int → Int → List (S114) → List (S115) → Int → Int → Int → Int → ByteArray → ByteArray → Option (Int)
  | 0, _, _, _, _, _, _, _, _, _, _, _, _, _, _, _ => none
  | k + 1, x20, x21, x22, x33, x195000, x195001, x195002, x195003, x195004, x197000, x197001, x197002, x197003, x197004, x197005 => if x33 = true then (some 21) else ((some (([x197004, x197005] : List ByteArray) : List ByteArray)).bind fun y197 => (bourseref12_Edit_Check.l1 k x20 x21 x22 y197 (y197.length : Int) 0 x195000 x195001 x195002 x195003 x195004 x197000 x197001 x197002 x197003 x197004 x197005))
def bourseref12_Edit_Check.l1 : Nat → List (S114) → Int → Int → List ByteArray → Int → Int → Int → Int → Int → List (S114) → List (S115) → Int → Int → Int → Int → ByteArray → ByteArray → Option (Int)
  | 0, _, _, _, _, _, _, _, _, _, _, _, _, _, _, _, _, _ => none
  | k + 1, x20, x21, x22, x40, x41, x42, x195000, x195001, x195002, x195003, x195004, x197000, x197001, x197002, x197003, x197004, x197005 => if x42 < x41 then (if 0 ≤ x42 then (if x42 < (x40.length : Int) then (if ((rdOf ByteArray.empty x40 x42).size : Int) < 1 then (some 19) else (if ((rdOf ByteArray.empty x40 x42).size : Int) > 200 then (some 19) else (bourseref12_Edit_Check.l1 k x20 x21 x22 x40 x41 (wrap64 (x42 + 1)) x195000 x195001 x195002 x195003 x195004 x197000 x197001 x197002 x197003 x197004 x197005))) else (none)) else (none)) else (if (Op.bytesLess x197005.toList x197004.toList) = true then (some 19) else (if x197001 = 0 then (some 8) else (bourseref12_Edit_Check.l0 k x20 x21 (wrap64 (x22 + 1)) x195000 x195001 x195002 x195003 x195004)))
def bourseref12_Edit_Check.l2 : Nat → List (S115) → Int → Int → Option (Int)
  | 0, _, _, _ => none
  | k + 1, x68, x69, x70 => if x70 < x69 then (if 0 ≤ x70 then (if x70 < (x68.length : Int) then (if ((rd_T115 x68 x70).f0) < 0 then (some 21) else (if ((rd_T115 x68 x70).f0) > 3 then (some 21) else (bourseref12_Edit_Check.l2 k x68 x69 (wrap64 (x70 + 1))))) else (none)) else (none)) else (some 0)
end
def bourseref12_Edit_Check.f (k : Nat) (a0_0 : Int) (a0_1 : Int) (a0_2 : Int) (l0_3 : List (S114)) (l0_4 : List (S115)) : Option (Int) := if (l0_3.length : Int) > 200 then (bourseref12_Edit_Check.j0 k true a0_0 a0_1 a0_2 l0_3 l0_4) else (bourseref12_Edit_Check.j0 k (decide ((l0_4.length : Int) > 200)) a0_0 a0_1 a0_2 l0_3 l0_4)
set_option maxHeartbeats 8000000 in
set_option maxRecDepth 100000 in
theorem bourseref12_Edit_Check.calls (k : Nat) (a0_0 : Int) (a0_1 : Int) (a0_2 : Int) (A0_3 : Option Addr) (c0_3 : Nat) (l0_3 : List (S114)) (A0_4 : Option Addr) (c0_4 : Nat) (l0_4 : List (S115)) (r : Int) (w : World) (hr0_3 : Kd.C k114 w A0_3 l0_3.length l0_3) (hc0_3 : l0_3.length ≤ c0_3) (hr0_4 : Kd.C k115 w A0_4 l0_4.length l0_4) (hc0_4 : l0_4.length ≤ c0_4) (h : bourseref12_Edit_Check.f k a0_0 a0_1 a0_2 l0_3 l0_4 = some r) :
    Calls Tryd.prog 21 #[.agg #[.int .u64 a0_0, .int .u64 a0_1, .int .u64 a0_2, .slice A0_3 l0_3.length c0_3, .slice A0_4 l0_4.length c0_4]] w fun e w' => e = .returned (.int .i64 r) ∧ Below w.heap.size w w' := by
  have hu36 := Tryd.underlying36
  have hu114 := Tryd.underlying114
  have hu115 := Tryd.underlying115
  have HR0_3 := Aside0.mk hr0_3
  have HC0_3 := Aside0.mk hc0_3
  clear hr0_3 hc0_3
  have HR0_4 := Aside0.mk hr0_4
  have HC0_4 := Aside0.mk hc0_4
  clear hr0_4 hc0_4
  have HB := Aside0.mk (Below.refl w.heap.size w)
  have H : (if (l0_3.length : Int) > 200 then (bourseref12_Edit_Check.j0 k true a0_0 a0_1 a0_2 l0_3 l0_4) else (bourseref12_Edit_Check.j0 k (decide ((l0_4.length : Int) > 200)) a0_0 a0_1 a0_2 l0_3 l0_4)) = some r := h
  clear h
  have HC2 := Aside0.mk H
  clear H
  go_enter Tryd.func21, Tryd.ntmps21
  go_upto_region 1 with (first | ((with_reducible refine gate_dst (N := 1) rfl ?_); (try (refine gate_guard (by rfl) ?_; dsimp only)); refine box_event ?hg (N := 1) ?hd (cs := #[.int .u64 a0_0, .int .u64 a0_1, .int .u64 a0_2, .slice A0_3 l0_3.length c0_3, .slice A0_4 l0_4.length c0_4]) (t := 36) ?hr ?_; (case hd => rfl); (case hg => rfl); (case hr => first | (go_simp; done) | (go_simp; rfl)); intro gb194 hg w3 hbox hb; have n0_ := Aside0.mk (below_step (by repeat (first | (with_reducible first | exact HB.out | apply below_alloc | apply pw_below_drewN | apply below_drew1) | exact HB.out)) hb); have n1_ := Aside0.mk (hbox); have n2_ := Aside0.mk ((by rw [hg]; exact (below_size (by repeat (first | (with_reducible first | exact HB.out | apply below_alloc | apply pw_below_drewN | apply below_drew1) | exact HB.out))) : w.heap.size ≤ gb194)); have n3_ := Aside0.mk ((by rw [hg]; exact (below_size (by repeat (first | (with_reducible first | exact HB.out | apply below_alloc | apply pw_below_drewN | apply below_drew1) | exact HB.out))) : w.heap.size ≤ gb194)); clear HB; have HB := n0_; have BK194 := n1_; have GW194 := n2_; have GE194 := n3_; clear n0_ n1_ n2_ n3_; clear hb hbox hg))
  (try simp only [Act.put, List.setIfInBounds_toArray, List.set_cons_zero, List.set_cons_succ])
  go_cut [18] (fun v18 wc => ∃ (kq : Nat) (x18_1 : Bool), v18 = .bool x18_1 ∧ Aside0 (bourseref12_Edit_Check.j0 kq x18_1 a0_0 a0_1 a0_2 l0_3 l0_4 = some r) ∧ Aside0 (kq ≤ k) ∧ Aside0 (wc.heap[gb194]? = some (.cells #[.int .u64 a0_0, .int .u64 a0_1, .int .u64 a0_2, (.slice A0_3 l0_3.length c0_3), (.slice A0_4 l0_4.length c0_4)] 36 (0, 0))) ∧ Aside0 (Below w.heap.size w wc))
  case first =>
    have H := HC2.out
    clear HC2
    by_cases c4 : (l0_3.length : Int) > 200
    · rw [if_pos c4] at H
      have c4b0 : decide (200 < (l0_3.length : Int)) = true := decide_eq_true c4
      have c4b1 : decide (200 < l0_3.length) = true := decide_eq_true (by omega)
      clear c4
      (first | rw [c4b0] | (simp only [i64_w, i32_w]; rw [c4b0]) | skip)
      have H' := Aside0.mk H
      clear H
      have hcz5_0 : w3.cell? ⟨gb194, 0, none⟩ = some (.int .u64 a0_0) := (blk_cell BK194.out 0).trans rfl
      have hcz5_1 : w3.cell? ⟨gb194, 1, none⟩ = some (.int .u64 a0_1) := (blk_cell BK194.out 1).trans rfl
      have hcz5_2 : w3.cell? ⟨gb194, 2, none⟩ = some (.int .u64 a0_2) := (blk_cell BK194.out 2).trans rfl
      have hcz5_3 : w3.cell? ⟨gb194, 3, none⟩ = some (.slice A0_3 l0_3.length c0_3) := (blk_cell BK194.out 3).trans rfl
      have hcz5_4 : w3.cell? ⟨gb194, 4, none⟩ = some (.slice A0_4 l0_4.length c0_4) := (blk_cell BK194.out 4).trans rfl
      have hfz5_0 := blk_frozen BK194.out 0
      have hfz5_1 := blk_frozen BK194.out 1
      have hfz5_2 := blk_frozen BK194.out 2
      have hfz5_3 := blk_frozen BK194.out 3
      have hfz5_4 := blk_frozen BK194.out 4
      go_wp2
      go_meet
      case rel => exact ⟨_, (true), (by first | rfl | (simp; done) | (simp [*]; done)), H', ⟨by first | omega | exact Nat.le_refl _⟩, ⟨by (with_reducible repeat (first | refine blk_drewN ?_ _ | refine blk_drew ?_ | refine blk_alloc ?_ _)); exact BK194.out⟩, ⟨by repeat (first | (with_reducible first | exact HB.out | apply below_alloc | apply pw_below_drewN | apply below_drew1 | refine below_set ?_ GE194.out) | exact HB.out)⟩⟩
    · rw [if_neg c4] at H
      have c4b0 : decide (200 < (l0_3.length : Int)) = false := decide_eq_false c4
      have c4b1 : decide (200 < l0_3.length) = false := decide_eq_false (by omega)
      clear c4
      (first | rw [c4b0] | (simp only [i64_w, i32_w]; rw [c4b0]) | skip)
      have H' := Aside0.mk H
      clear H
      have hcz6_0 : w3.cell? ⟨gb194, 0, none⟩ = some (.int .u64 a0_0) := (blk_cell BK194.out 0).trans rfl
      have hcz6_1 : w3.cell? ⟨gb194, 1, none⟩ = some (.int .u64 a0_1) := (blk_cell BK194.out 1).trans rfl
      have hcz6_2 : w3.cell? ⟨gb194, 2, none⟩ = some (.int .u64 a0_2) := (blk_cell BK194.out 2).trans rfl
      have hcz6_3 : w3.cell? ⟨gb194, 3, none⟩ = some (.slice A0_3 l0_3.length c0_3) := (blk_cell BK194.out 3).trans rfl
      have hcz6_4 : w3.cell? ⟨gb194, 4, none⟩ = some (.slice A0_4 l0_4.length c0_4) := (blk_cell BK194.out 4).trans rfl
      have hfz6_0 := blk_frozen BK194.out 0
      have hfz6_1 := blk_frozen BK194.out 1
      have hfz6_2 := blk_frozen BK194.out 2
      have hfz6_3 := blk_frozen BK194.out 3
      have hfz6_4 := blk_frozen BK194.out 4
      go_wp2
      go_meet
      case rel => exact ⟨_, (decide ((l0_4.length : Int) > 200)), (by first | rfl | (simp; done) | (simp [*]; done)), H', ⟨by first | omega | exact Nat.le_refl _⟩, ⟨by (with_reducible repeat (first | refine blk_drewN ?_ _ | refine blk_drew ?_ | refine blk_alloc ?_ _)); exact BK194.out⟩, ⟨by repeat (first | (with_reducible first | exact HB.out | apply below_alloc | apply pw_below_drewN | apply below_drew1 | refine below_set ?_ GE194.out) | exact HB.out)⟩⟩
  case rest =>
    clear HC2
    try clear c2
    try clear p2
    try clear c4
    try clear c4b0
    try clear c4b1
    try clear hcz5_0
    try clear hcz5_1
    try clear hcz5_2
    try clear hcz5_3
    try clear hcz5_4
    try clear hcz6_0
    try clear hcz6_1
    try clear hcz6_2
    try clear hcz6_3
    try clear hcz6_4
    try clear hfz5_0
    try clear hfz5_1
    try clear hfz5_2
    try clear hfz5_3
    try clear hfz5_4
    try clear hfz6_0
    try clear hfz6_1
    try clear hfz6_2
    try clear hfz6_3
    try clear hfz6_4
    obtain ⟨kq, x18_1, rfl, HA, HJ1, BK194, HB⟩ := hcut
    cases kq with
    | zero => exact absurd HA.out (by simp [bourseref12_Edit_Check.j0])
    | succ kj1 =>
      have H := HA.out
      clear HA
      simp only [bourseref12_Edit_Check.j0] at H
      by_cases c7 : x18_1 = true
      · subst c7
        have H1 : (some 6) = some r := by rw [if_pos rfl] at H; exact H
        clear H
        have H := H1
        clear H1
        obtain rfl := Option.some.inj H
        go_wp2
        go_ret
        exact ⟨by first | rfl | (simp [errW_none, errW_some] <;> rfl) | (simp [*, errW_none, errW_some] <;> rfl), by repeat (first | (with_reducible first | exact HB.out | apply below_alloc | apply pw_below_drewN | apply below_drew1 | refine below_set ?_ GE194.out) | exact HB.out)⟩
      · replace c7 := Bool.eq_false_iff.mpr c7
        subst c7
        have H1 : (bourseref12_Edit_Check.l0 kj1 l0_3 (l0_3.length : Int) 0 a0_0 a0_1 a0_2 l0_3 l0_4) = some r := by rw [if_neg (show ¬ (false = true) by decide)] at H; exact H
        clear H
        have H := H1
        clear H1
        have H' := Aside0.mk H
        clear H
        have hcz8_0 : wc.cell? ⟨gb194, 0, none⟩ = some (.int .u64 a0_0) := (blk_cell BK194.out 0).trans rfl
        have hcz8_1 : wc.cell? ⟨gb194, 1, none⟩ = some (.int .u64 a0_1) := (blk_cell BK194.out 1).trans rfl
        have hcz8_2 : wc.cell? ⟨gb194, 2, none⟩ = some (.int .u64 a0_2) := (blk_cell BK194.out 2).trans rfl
        have hcz8_3 : wc.cell? ⟨gb194, 3, none⟩ = some (.slice A0_3 l0_3.length c0_3) := (blk_cell BK194.out 3).trans rfl
        have hcz8_4 : wc.cell? ⟨gb194, 4, none⟩ = some (.slice A0_4 l0_4.length c0_4) := (blk_cell BK194.out 4).trans rfl
        have hfz8_0 := blk_frozen BK194.out 0
        have hfz8_1 := blk_frozen BK194.out 1
        have hfz8_2 := blk_frozen BK194.out 2
        have hfz8_3 := blk_frozen BK194.out 3
        have hfz8_4 := blk_frozen BK194.out 4
        go_wp2
        go_loopg [22] kj1 (fun kq v22 w' => ∃ (x22_2 : Int), v22 = .int .i64 x22_2 ∧ Aside0 (bourseref12_Edit_Check.l0 kq l0_3 (l0_3.length : Int) x22_2 a0_0 a0_1 a0_2 l0_3 l0_4 = some r) ∧ Aside0 (kq ≤ kj1) ∧ Aside0 (w'.heap[gb194]? = some (.cells #[.int .u64 a0_0, .int .u64 a0_1, .int .u64 a0_2, (.slice A0_3 l0_3.length c0_3), (.slice A0_4 l0_4.length c0_4)] 36 (0, 0))) ∧ Aside0 (Below w.heap.size w w'))
        case atStart => exact ⟨(0), (by first | rfl | (simp; done) | (simp [*]; done)), H', ⟨Nat.le_refl _⟩, ⟨by (with_reducible repeat (first | refine blk_drewN ?_ _ | refine blk_drew ?_ | refine blk_alloc ?_ _)); exact BK194.out⟩, ⟨by repeat (first | (with_reducible first | exact HB.out | apply below_alloc | apply pw_below_drewN | apply below_drew1 | refine below_set ?_ GE194.out) | exact HB.out)⟩⟩
        case round =>
          clear H'
          try clear c2
          try clear p2
          try clear c4
          try clear c4b0
          try clear c4b1
          try clear c7
          try clear hcz5_0
          try clear hcz5_1
          try clear hcz5_2
          try clear hcz5_3
          try clear hcz5_4
          try clear hcz6_0
          try clear hcz6_1
          try clear hcz6_2
          try clear hcz6_3
          try clear hcz6_4
          try clear hcz8_0
          try clear hcz8_1
          try clear hcz8_2
          try clear hcz8_3
          try clear hcz8_4
          try clear hfz5_0
          try clear hfz5_1
          try clear hfz5_2
          try clear hfz5_3
          try clear hfz5_4
          try clear hfz6_0
          try clear hfz6_1
          try clear hfz6_2
          try clear hfz6_3
          try clear hfz6_4
          try clear hfz8_0
          try clear hfz8_1
          try clear hfz8_2
          try clear hfz8_3
          try clear hfz8_4
          try clear p2
          obtain ⟨x22_2, rfl, HA, HK2, BK194, HB⟩ := hrel
          cases gk with
          | zero => exact absurd HA.out (by simp [bourseref12_Edit_Check.l0])
          | succ k2 =>
            have H := HA.out
            clear HA
            simp only [bourseref12_Edit_Check.l0] at H
            by_cases c9 : x22_2 < (l0_3.length : Int)
            · rw [if_pos c9] at H
              have c9b0 : decide (x22_2 < (l0_3.length : Int)) = true := decide_eq_true c9
              clear c9
              by_cases c10 : 0 ≤ x22_2
              · rw [if_pos c10] at H
                have c10b0 : decide (0 ≤ x22_2) = true := decide_eq_true c10
                clear c10
                by_cases c11 : x22_2 < (l0_3.length : Int)
                · rw [if_pos c11] at H
                  have c11b0 : decide (x22_2 < (l0_3.length : Int)) = true := decide_eq_true c11
                  clear c11
                  have HC12 := Aside0.mk H
                  clear H
                  have p195 : 0 ≤ (x22_2 : Int) := of_decide_eq_true (by first | (with_reducible assumption) | assumption)
                  have q195 : x22_2 < (l0_3.length : Int) := of_decide_eq_true (by first | (with_reducible assumption) | assumption)
                  obtain ⟨ad195, e195, hx195_0, hx195_1, hx195_2, hx195_3, hx195_4, hx195_5⟩ := at_T114 HR0_3.out x22_2 p195 q195
                  cases e195
                  replace hx195_0 := (HB.out.cell (World.block_lt_of_cell? w _ hx195_0)).trans hx195_0
                  replace hx195_1 := (HB.out.cell (World.block_lt_of_cell? w _ hx195_1)).trans hx195_1
                  replace hx195_2 := (HB.out.cell (World.block_lt_of_cell? w _ hx195_2)).trans hx195_2
                  replace hx195_3 := (HB.out.cell (World.block_lt_of_cell? w _ hx195_3)).trans hx195_3
                  replace hx195_4 := (HB.out.cell (World.block_lt_of_cell? w _ hx195_4)).trans hx195_4
                  replace hx195_5 := (HB.out.cell (World.block_lt_of_cell? w _ hx195_5)).trans hx195_5
                  replace p195 := eq_true p195
                  replace q195 := eq_true q195
                  go_upto_region 6 with (first | ((with_reducible refine gate_dst (N := 4) rfl ?_); (try (refine gate_guard (by rfl) ?_; dsimp only)); refine box_event ?hg (N := 4) ?hd (cs := #[.int .i64 0, .int .u64 0, .int .u64 0, .int .u64 0, .string (⟨#[]⟩ : ByteArray), .string (⟨#[]⟩ : ByteArray)]) (t := 114) ?hr ?_; (case hd => rfl); (case hg => rfl); (case hr => first | (go_simp; done) | (go_simp; rfl)); intro gb196 hg w13 hbox hb; have n0_ := Aside0.mk (blk_below (g := gb194) (o := .cells #[.int .u64 a0_0, .int .u64 a0_1, .int .u64 a0_2, .slice (some ad195) l0_3.length c0_3, .slice A0_4 l0_4.length c0_4] 36 (0, 0)) (by (with_reducible repeat (first | refine blk_drewN ?_ _ | refine blk_drew ?_ | refine blk_alloc ?_ _)); exact BK194.out) hb); have n1_ := Aside0.mk (below_step (by repeat (first | (with_reducible first | exact HB.out | apply below_alloc | apply pw_below_drewN | apply below_drew1 | refine below_set ?_ GE194.out) | exact HB.out)) hb); have n2_ := Aside0.mk (hbox); have n3_ := Aside0.mk ((by rw [hg]; exact (below_size (by repeat (first | (with_reducible first | exact HB.out | apply below_alloc | apply pw_below_drewN | apply below_drew1 | refine below_set ?_ GE194.out) | exact HB.out))) : w.heap.size ≤ gb196)); have n4_ := Aside0.mk ((by rw [hg]; exact (below_size (by repeat (first | (with_reducible first | exact HB.out | apply below_alloc | apply pw_below_drewN | apply below_drew1 | refine below_set ?_ GE194.out) | exact HB.out))) : w.heap.size ≤ gb196)); have n5_ := Aside0.mk ((by rw [hg]; exact Nat.ne_of_lt (blk_lt (g := gb194) (o := .cells #[.int .u64 a0_0, .int .u64 a0_1, .int .u64 a0_2, .slice (some ad195) l0_3.length c0_3, .slice A0_4 l0_4.length c0_4] 36 (0, 0)) (by (with_reducible repeat (first | refine blk_drewN ?_ _ | refine blk_drew ?_ | refine blk_alloc ?_ _)); exact BK194.out)) : gb194 ≠ gb196)); have n6_ := Aside0.mk ((by rw [hg]; exact Nat.ne_of_gt (blk_lt (g := gb194) (o := .cells #[.int .u64 a0_0, .int .u64 a0_1, .int .u64 a0_2, .slice (some ad195) l0_3.length c0_3, .slice A0_4 l0_4.length c0_4] 36 (0, 0)) (by (with_reducible repeat (first | refine blk_drewN ?_ _ | refine blk_drew ?_ | refine blk_alloc ?_ _)); exact BK194.out)) : gb196 ≠ gb194)); clear BK194; clear HB; have BK194 := n0_; have HB := n1_; have BK196 := n2_; have GW196 := n3_; have GE196 := n4_; have NB194_196 := n5_; have NB196_194 := n6_; clear n0_ n1_ n2_ n3_ n4_ n5_ n6_; clear hb hbox hg; have hnb14 := NB196_194.out; have hnc14 := NB194_196.out; have hcz15_0 : w13.cell? ⟨gb196, 0, none⟩ = some (.int .i64 0) := (blk_cell BK196.out 0).trans rfl; have hcz15_1 : w13.cell? ⟨gb196, 1, none⟩ = some (.int .u64 0) := (blk_cell BK196.out 1).trans rfl; have hcz15_2 : w13.cell? ⟨gb196, 2, none⟩ = some (.int .u64 0) := (blk_cell BK196.out 2).trans rfl; have hcz15_3 : w13.cell? ⟨gb196, 3, none⟩ = some (.int .u64 0) := (blk_cell BK196.out 3).trans rfl; have hcz15_4 : w13.cell? ⟨gb196, 4, none⟩ = some (.string (⟨#[]⟩ : ByteArray)) := (blk_cell BK196.out 4).trans rfl; have hcz15_5 : w13.cell? ⟨gb196, 5, none⟩ = some (.string (⟨#[]⟩ : ByteArray)) := (blk_cell BK196.out 5).trans rfl; have hfz15_0 := blk_frozen BK196.out 0; have hfz15_1 := blk_frozen BK196.out 1; have hfz15_2 := blk_frozen BK196.out 2; have hfz15_3 := blk_frozen BK196.out 3; have hfz15_4 := blk_frozen BK196.out 4; have hfz15_5 := blk_frozen BK196.out 5))
                  (try simp only [Act.put, List.setIfInBounds_toArray, List.set_cons_zero, List.set_cons_succ])
                  go_cut [33] (fun v33 wc => ∃ (kq : Nat) (x33_11 : Bool), v33 = .bool x33_11 ∧ Aside0 (bourseref12_Edit_Check.j2 kq l0_3 (l0_3.length : Int) x22_2 x33_11 a0_0 a0_1 a0_2 l0_3 l0_4 ((rd_T114 l0_3 x22_2).f0) ((rd_T114 l0_3 x22_2).f1.f0) ((rd_T114 l0_3 x22_2).f1.f1) ((rd_T114 l0_3 x22_2).f1.f2) ((rd_T114 l0_3 x22_2).f1.f3) ((rd_T114 l0_3 x22_2).f1.f4) = some r) ∧ Aside0 (kq ≤ k2) ∧ Aside0 (wc.heap[gb194]? = some (.cells #[.int .u64 a0_0, .int .u64 a0_1, .int .u64 a0_2, (.slice (some ad195) l0_3.length c0_3), (.slice A0_4 l0_4.length c0_4)] 36 (0, 0))) ∧ Aside0 (wc.heap[gb196]? = some (.cells #[.int .i64 ((rd_T114 l0_3 x22_2).f0), .int .u64 ((rd_T114 l0_3 x22_2).f1.f0), .int .u64 ((rd_T114 l0_3 x22_2).f1.f1), .int .u64 ((rd_T114 l0_3 x22_2).f1.f2), .string ((rd_T114 l0_3 x22_2).f1.f3), .string ((rd_T114 l0_3 x22_2).f1.f4)] 114 (0, 0))) ∧ Aside0 (Below w.heap.size w wc))
                  case first =>
                    have H := HC12.out
                    clear HC12
                    by_cases c16 : ((rd_T114 l0_3 x22_2).f0) < 0
                    · rw [if_pos c16] at H
                      have c16b0 : decide (((rd_T114 l0_3 x22_2).f0) < 0) = true := decide_eq_true c16
                      clear c16
                      (first | rw [c16b0] | (simp only [i64_w, i32_w]; rw [c16b0]) | skip)
                      have H' := Aside0.mk H
                      clear H
                      have hnb17 := NB196_194.out
                      have hnc17 := NB194_196.out
                      have hcz18_0 : w13.cell? ⟨gb196, 0, none⟩ = some (.int .i64 0) := (blk_cell BK196.out 0).trans rfl
                      have hcz18_1 : w13.cell? ⟨gb196, 1, none⟩ = some (.int .u64 0) := (blk_cell BK196.out 1).trans rfl
                      have hcz18_2 : w13.cell? ⟨gb196, 2, none⟩ = some (.int .u64 0) := (blk_cell BK196.out 2).trans rfl
                      have hcz18_3 : w13.cell? ⟨gb196, 3, none⟩ = some (.int .u64 0) := (blk_cell BK196.out 3).trans rfl
                      have hcz18_4 : w13.cell? ⟨gb196, 4, none⟩ = some (.string (⟨#[]⟩ : ByteArray)) := (blk_cell BK196.out 4).trans rfl
                      have hcz18_5 : w13.cell? ⟨gb196, 5, none⟩ = some (.string (⟨#[]⟩ : ByteArray)) := (blk_cell BK196.out 5).trans rfl
                      have hfz18_0 := blk_frozen BK196.out 0
                      have hfz18_1 := blk_frozen BK196.out 1
                      have hfz18_2 := blk_frozen BK196.out 2
                      have hfz18_3 := blk_frozen BK196.out 3
                      have hfz18_4 := blk_frozen BK196.out 4
                      have hfz18_5 := blk_frozen BK196.out 5
                      go_wp2
                      go_meet
                      case rel => exact ⟨_, (true), (by first | rfl | (simp; done) | (simp [*]; done)), H', ⟨by have := HJ1.out; have := HK2.out; first | omega | exact Nat.le_refl _⟩, ⟨by (with_reducible repeat (first | refine blk_drewN ?_ _ | refine blk_drew ?_ | refine blk_alloc ?_ _)); refine blk_far ?_ NB194_196.out _; (with_reducible repeat (first | refine blk_drewN ?_ _ | refine blk_drew ?_ | refine blk_alloc ?_ _)); refine blk_far ?_ NB194_196.out _; (with_reducible repeat (first | refine blk_drewN ?_ _ | refine blk_drew ?_ | refine blk_alloc ?_ _)); refine blk_far ?_ NB194_196.out _; (with_reducible repeat (first | refine blk_drewN ?_ _ | refine blk_drew ?_ | refine blk_alloc ?_ _)); refine blk_far ?_ NB194_196.out _; (with_reducible repeat (first | refine blk_drewN ?_ _ | refine blk_drew ?_ | refine blk_alloc ?_ _)); refine blk_far ?_ NB194_196.out _; (with_reducible repeat (first | refine blk_drewN ?_ _ | refine blk_drew ?_ | refine blk_alloc ?_ _)); refine blk_far ?_ NB194_196.out _; (with_reducible repeat (first | refine blk_drewN ?_ _ | refine blk_drew ?_ | refine blk_alloc ?_ _)); exact BK194.out⟩, ⟨by (with_reducible repeat (first | refine blk_drewN ?_ _ | refine blk_drew ?_ | refine blk_alloc ?_ _)); refine blk_put (cs := #[.int .i64 ((rd_T114 l0_3 x22_2).f0), .int .u64 ((rd_T114 l0_3 x22_2).f1.f0), .int .u64 ((rd_T114 l0_3 x22_2).f1.f1), .int .u64 ((rd_T114 l0_3 x22_2).f1.f2), .string ((rd_T114 l0_3 x22_2).f1.f3), .string (⟨#[]⟩ : ByteArray)]) ?_ 5 _ rfl; (with_reducible repeat (first | refine blk_drewN ?_ _ | refine blk_drew ?_ | refine blk_alloc ?_ _)); refine blk_put (cs := #[.int .i64 ((rd_T114 l0_3 x22_2).f0), .int .u64 ((rd_T114 l0_3 x22_2).f1.f0), .int .u64 ((rd_T114 l0_3 x22_2).f1.f1), .int .u64 ((rd_T114 l0_3 x22_2).f1.f2), .string (⟨#[]⟩ : ByteArray), .string (⟨#[]⟩ : ByteArray)]) ?_ 4 _ rfl; (with_reducible repeat (first | refine blk_drewN ?_ _ | refine blk_drew ?_ | refine blk_alloc ?_ _)); refine blk_put (cs := #[.int .i64 ((rd_T114 l0_3 x22_2).f0), .int .u64 ((rd_T114 l0_3 x22_2).f1.f0), .int .u64 ((rd_T114 l0_3 x22_2).f1.f1), .int .u64 0, .string (⟨#[]⟩ : ByteArray), .string (⟨#[]⟩ : ByteArray)]) ?_ 3 _ rfl; (with_reducible repeat (first | refine blk_drewN ?_ _ | refine blk_drew ?_ | refine blk_alloc ?_ _)); refine blk_put (cs := #[.int .i64 ((rd_T114 l0_3 x22_2).f0), .int .u64 ((rd_T114 l0_3 x22_2).f1.f0), .int .u64 0, .int .u64 0, .string (⟨#[]⟩ : ByteArray), .string (⟨#[]⟩ : ByteArray)]) ?_ 2 _ rfl; (with_reducible repeat (first | refine blk_drewN ?_ _ | refine blk_drew ?_ | refine blk_alloc ?_ _)); refine blk_put (cs := #[.int .i64 ((rd_T114 l0_3 x22_2).f0), .int .u64 0, .int .u64 0, .int .u64 0, .string (⟨#[]⟩ : ByteArray), .string (⟨#[]⟩ : ByteArray)]) ?_ 1 _ rfl; (with_reducible repeat (first | refine blk_drewN ?_ _ | refine blk_drew ?_ | refine blk_alloc ?_ _)); refine blk_put (cs := #[.int .i64 0, .int .u64 0, .int .u64 0, .int .u64 0, .string (⟨#[]⟩ : ByteArray), .string (⟨#[]⟩ : ByteArray)]) ?_ 0 _ rfl; (with_reducible repeat (first | refine blk_drewN ?_ _ | refine blk_drew ?_ | refine blk_alloc ?_ _)); exact BK196.out⟩, ⟨by repeat (first | (with_reducible first | exact HB.out | apply below_alloc | apply pw_below_drewN | apply below_drew1 | refine below_set ?_ GE194.out | refine below_set ?_ GE196.out) | exact HB.out)⟩⟩
                    · rw [if_neg c16] at H
                      have c16b0 : decide (((rd_T114 l0_3 x22_2).f0) < 0) = false := decide_eq_false c16
                      clear c16
                      (first | rw [c16b0] | (simp only [i64_w, i32_w]; rw [c16b0]) | skip)
                      have H' := Aside0.mk H
                      clear H
                      have hnb19 := NB196_194.out
                      have hnc19 := NB194_196.out
                      have hcz20_0 : w13.cell? ⟨gb196, 0, none⟩ = some (.int .i64 0) := (blk_cell BK196.out 0).trans rfl
                      have hcz20_1 : w13.cell? ⟨gb196, 1, none⟩ = some (.int .u64 0) := (blk_cell BK196.out 1).trans rfl
                      have hcz20_2 : w13.cell? ⟨gb196, 2, none⟩ = some (.int .u64 0) := (blk_cell BK196.out 2).trans rfl
                      have hcz20_3 : w13.cell? ⟨gb196, 3, none⟩ = some (.int .u64 0) := (blk_cell BK196.out 3).trans rfl
                      have hcz20_4 : w13.cell? ⟨gb196, 4, none⟩ = some (.string (⟨#[]⟩ : ByteArray)) := (blk_cell BK196.out 4).trans rfl
                      have hcz20_5 : w13.cell? ⟨gb196, 5, none⟩ = some (.string (⟨#[]⟩ : ByteArray)) := (blk_cell BK196.out 5).trans rfl
                      have hfz20_0 := blk_frozen BK196.out 0
                      have hfz20_1 := blk_frozen BK196.out 1
                      have hfz20_2 := blk_frozen BK196.out 2
                      have hfz20_3 := blk_frozen BK196.out 3
                      have hfz20_4 := blk_frozen BK196.out 4
                      have hfz20_5 := blk_frozen BK196.out 5
                      go_wp2
                      go_meet
                      case rel => exact ⟨_, (decide (((rd_T114 l0_3 x22_2).f0) > 3)), (by first | rfl | (simp; done) | (simp [*]; done)), H', ⟨by have := HJ1.out; have := HK2.out; first | omega | exact Nat.le_refl _⟩, ⟨by (with_reducible repeat (first | refine blk_drewN ?_ _ | refine blk_drew ?_ | refine blk_alloc ?_ _)); refine blk_far ?_ NB194_196.out _; (with_reducible repeat (first | refine blk_drewN ?_ _ | refine blk_drew ?_ | refine blk_alloc ?_ _)); refine blk_far ?_ NB194_196.out _; (with_reducible repeat (first | refine blk_drewN ?_ _ | refine blk_drew ?_ | refine blk_alloc ?_ _)); refine blk_far ?_ NB194_196.out _; (with_reducible repeat (first | refine blk_drewN ?_ _ | refine blk_drew ?_ | refine blk_alloc ?_ _)); refine blk_far ?_ NB194_196.out _; (with_reducible repeat (first | refine blk_drewN ?_ _ | refine blk_drew ?_ | refine blk_alloc ?_ _)); refine blk_far ?_ NB194_196.out _; (with_reducible repeat (first | refine blk_drewN ?_ _ | refine blk_drew ?_ | refine blk_alloc ?_ _)); refine blk_far ?_ NB194_196.out _; (with_reducible repeat (first | refine blk_drewN ?_ _ | refine blk_drew ?_ | refine blk_alloc ?_ _)); exact BK194.out⟩, ⟨by (with_reducible repeat (first | refine blk_drewN ?_ _ | refine blk_drew ?_ | refine blk_alloc ?_ _)); refine blk_put (cs := #[.int .i64 ((rd_T114 l0_3 x22_2).f0), .int .u64 ((rd_T114 l0_3 x22_2).f1.f0), .int .u64 ((rd_T114 l0_3 x22_2).f1.f1), .int .u64 ((rd_T114 l0_3 x22_2).f1.f2), .string ((rd_T114 l0_3 x22_2).f1.f3), .string (⟨#[]⟩ : ByteArray)]) ?_ 5 _ rfl; (with_reducible repeat (first | refine blk_drewN ?_ _ | refine blk_drew ?_ | refine blk_alloc ?_ _)); refine blk_put (cs := #[.int .i64 ((rd_T114 l0_3 x22_2).f0), .int .u64 ((rd_T114 l0_3 x22_2).f1.f0), .int .u64 ((rd_T114 l0_3 x22_2).f1.f1), .int .u64 ((rd_T114 l0_3 x22_2).f1.f2), .string (⟨#[]⟩ : ByteArray), .string (⟨#[]⟩ : ByteArray)]) ?_ 4 _ rfl; (with_reducible repeat (first | refine blk_drewN ?_ _ | refine blk_drew ?_ | refine blk_alloc ?_ _)); refine blk_put (cs := #[.int .i64 ((rd_T114 l0_3 x22_2).f0), .int .u64 ((rd_T114 l0_3 x22_2).f1.f0), .int .u64 ((rd_T114 l0_3 x22_2).f1.f1), .int .u64 0, .string (⟨#[]⟩ : ByteArray), .string (⟨#[]⟩ : ByteArray)]) ?_ 3 _ rfl; (with_reducible repeat (first | refine blk_drewN ?_ _ | refine blk_drew ?_ | refine blk_alloc ?_ _)); refine blk_put (cs := #[.int .i64 ((rd_T114 l0_3 x22_2).f0), .int .u64 ((rd_T114 l0_3 x22_2).f1.f0), .int .u64 0, .int .u64 0, .string (⟨#[]⟩ : ByteArray), .string (⟨#[]⟩ : ByteArray)]) ?_ 2 _ rfl; (with_reducible repeat (first | refine blk_drewN ?_ _ | refine blk_drew ?_ | refine blk_alloc ?_ _)); refine blk_put (cs := #[.int .i64 ((rd_T114 l0_3 x22_2).f0), .int .u64 0, .int .u64 0, .int .u64 0, .string (⟨#[]⟩ : ByteArray), .string (⟨#[]⟩ : ByteArray)]) ?_ 1 _ rfl; (with_reducible repeat (first | refine blk_drewN ?_ _ | refine blk_drew ?_ | refine blk_alloc ?_ _)); refine blk_put (cs := #[.int .i64 0, .int .u64 0, .int .u64 0, .int .u64 0, .string (⟨#[]⟩ : ByteArray), .string (⟨#[]⟩ : ByteArray)]) ?_ 0 _ rfl; (with_reducible repeat (first | refine blk_drewN ?_ _ | refine blk_drew ?_ | refine blk_alloc ?_ _)); exact BK196.out⟩, ⟨by repeat (first | (with_reducible first | exact HB.out | apply below_alloc | apply pw_below_drewN | apply below_drew1 | refine below_set ?_ GE194.out | refine below_set ?_ GE196.out) | exact HB.out)⟩⟩
                  case rest =>
                    clear HC12
                    try clear c1
                    try clear p1
                    try clear q1
                    try clear hx1
                    try clear c2
                    try clear p2
                    try clear c4
                    try clear c4b0
                    try clear c4b1
                    try clear c7
                    try clear c9
                    try clear c9b0
                    try clear c10
                    try clear c10b0
                    try clear c11
                    try clear c11b0
                    try clear c14
                    try clear c16
                    try clear c16b0
                    try clear c17
                    try clear c19
                    try clear p19
                    try clear q19
                    try clear hx19
                    try clear hcz15_0
                    try clear hcz15_1
                    try clear hcz15_2
                    try clear hcz15_3
                    try clear hcz15_4
                    try clear hcz15_5
                    try clear hcz18_0
                    try clear hcz18_1
                    try clear hcz18_2
                    try clear hcz18_3
                    try clear hcz18_4
                    try clear hcz18_5
                    try clear hcz20_0
                    try clear hcz20_1
                    try clear hcz20_2
                    try clear hcz20_3
                    try clear hcz20_4
                    try clear hcz20_5
                    try clear hcz5_0
                    try clear hcz5_1
                    try clear hcz5_2
                    try clear hcz5_3
                    try clear hcz5_4
                    try clear hcz6_0
                    try clear hcz6_1
                    try clear hcz6_2
                    try clear hcz6_3
                    try clear hcz6_4
                    try clear hcz8_0
                    try clear hcz8_1
                    try clear hcz8_2
                    try clear hcz8_3
                    try clear hcz8_4
                    try clear hfz15_0
                    try clear hfz15_1
                    try clear hfz15_2
                    try clear hfz15_3
                    try clear hfz15_4
                    try clear hfz15_5
                    try clear hfz18_0
                    try clear hfz18_1
                    try clear hfz18_2
                    try clear hfz18_3
                    try clear hfz18_4
                    try clear hfz18_5
                    try clear hfz20_0
                    try clear hfz20_1
                    try clear hfz20_2
                    try clear hfz20_3
                    try clear hfz20_4
                    try clear hfz20_5
                    try clear hfz5_0
                    try clear hfz5_1
                    try clear hfz5_2
                    try clear hfz5_3
                    try clear hfz5_4
                    try clear hfz6_0
                    try clear hfz6_1
                    try clear hfz6_2
                    try clear hfz6_3
                    try clear hfz6_4
                    try clear hfz8_0
                    try clear hfz8_1
                    try clear hfz8_2
                    try clear hfz8_3
                    try clear hfz8_4
                    try clear hx195_0
                    try clear hx195_1
                    try clear hx195_2
                    try clear hx195_3
                    try clear hx195_4
                    try clear hx195_5
                    try clear p195
                    try clear p2
                    try clear q195
                    obtain ⟨kq, x33_11, rfl, HA, HJ11, BK194, BK196, HB⟩ := hcut
                    cases kq with
                    | zero => exact absurd HA.out (by simp [bourseref12_Edit_Check.j2])
                    | succ kj11 =>
                      have H := HA.out
                      clear HA
                      simp only [bourseref12_Edit_Check.j2] at H
                      by_cases c21 : x33_11 = true
                      · subst c21
                        have H1 : (some 21) = some r := by rw [if_pos rfl] at H; exact H
                        clear H
                        have H := H1
                        clear H1
                        obtain rfl := Option.some.inj H
                        go_wp2
                        go_ret
                        exact ⟨by first | rfl | (simp [errW_none, errW_some] <;> rfl) | (simp [*, errW_none, errW_some] <;> rfl), by repeat (first | (with_reducible first | exact HB.out | apply below_alloc | apply pw_below_drewN | apply below_drew1 | refine below_set ?_ GE194.out | refine below_set ?_ GE196.out) | exact HB.out)⟩
                      · replace c21 := Bool.eq_false_iff.mpr c21
                        subst c21
                        have H1 : ((some (([((rd_T114 l0_3 x22_2).f1.f3), ((rd_T114 l0_3 x22_2).f1.f4)] : List ByteArray) : List ByteArray)).bind fun y197 => (bourseref12_Edit_Check.l1 kj11 l0_3 (l0_3.length : Int) x22_2 y197 (y197.length : Int) 0 a0_0 a0_1 a0_2 l0_3 l0_4 ((rd_T114 l0_3 x22_2).f0) ((rd_T114 l0_3 x22_2).f1.f0) ((rd_T114 l0_3 x22_2).f1.f1) ((rd_T114 l0_3 x22_2).f1.f2) ((rd_T114 l0_3 x22_2).f1.f3) ((rd_T114 l0_3 x22_2).f1.f4))) = some r := by rw [if_neg (show ¬ (false = true) by decide)] at H; exact H
                        clear H
                        have H := H1
                        clear H1
                        obtain ⟨y197, hy197⟩ : ∃ y_ : List ByteArray, y_ = (([((rd_T114 l0_3 x22_2).f1.f3), ((rd_T114 l0_3 x22_2).f1.f4)] : List ByteArray)) := ⟨_, rfl⟩
                        replace H : (bourseref12_Edit_Check.l1 kj11 l0_3 (l0_3.length : Int) x22_2 y197 (y197.length : Int) 0 a0_0 a0_1 a0_2 l0_3 l0_4 ((rd_T114 l0_3 x22_2).f0) ((rd_T114 l0_3 x22_2).f1.f0) ((rd_T114 l0_3 x22_2).f1.f1) ((rd_T114 l0_3 x22_2).f1.f2) ((rd_T114 l0_3 x22_2).f1.f3) ((rd_T114 l0_3 x22_2).f1.f4)) = some r := by first | (rw [hy197]; with_reducible exact H) | (have H2_ := (Option.bind_some _ _).symm.trans H; rw [hy197]; with_reducible exact H2_) | (have H2_ := (Option.bind_some _ _).symm.trans H; with_reducible exact H2_) | with_reducible exact H | (rw [hy197]; exact H) | exact H
                        have Ny197 := Aside0.mk hy197
                        clear hy197
                        have H' := Aside0.mk H
                        clear H
                        have hnb22 := NB196_194.out
                        have hnc22 := NB194_196.out
                        have hcz23_0 : wc.cell? ⟨gb196, 0, none⟩ = some (.int .i64 ((rd_T114 l0_3 x22_2).f0)) := (blk_cell BK196.out 0).trans rfl
                        have hcz23_1 : wc.cell? ⟨gb196, 1, none⟩ = some (.int .u64 ((rd_T114 l0_3 x22_2).f1.f0)) := (blk_cell BK196.out 1).trans rfl
                        have hcz23_2 : wc.cell? ⟨gb196, 2, none⟩ = some (.int .u64 ((rd_T114 l0_3 x22_2).f1.f1)) := (blk_cell BK196.out 2).trans rfl
                        have hcz23_3 : wc.cell? ⟨gb196, 3, none⟩ = some (.int .u64 ((rd_T114 l0_3 x22_2).f1.f2)) := (blk_cell BK196.out 3).trans rfl
                        have hcz23_4 : wc.cell? ⟨gb196, 4, none⟩ = some (.string ((rd_T114 l0_3 x22_2).f1.f3)) := (blk_cell BK196.out 4).trans rfl
                        have hcz23_5 : wc.cell? ⟨gb196, 5, none⟩ = some (.string ((rd_T114 l0_3 x22_2).f1.f4)) := (blk_cell BK196.out 5).trans rfl
                        have hfz23_0 := blk_frozen BK196.out 0
                        have hfz23_1 := blk_frozen BK196.out 1
                        have hfz23_2 := blk_frozen BK196.out 2
                        have hfz23_3 := blk_frozen BK196.out 3
                        have hfz23_4 := blk_frozen BK196.out 4
                        have hfz23_5 := blk_frozen BK196.out 5
                        go_wp2_with (first | ((with_reducible refine gate_dst (N := 40) rfl ?_); (try (refine gate_guard (by rfl) ?_; dsimp only)); refine Kd.R_lit Kd.string _ 9 ?hg (N := 40) ?hd (xs := ([((rd_T114 l0_3 x22_2).f1.f3), ((rd_T114 l0_3 x22_2).f1.f4)] : List ByteArray)) (inner := [.string ((rd_T114 l0_3 x22_2).f1.f3), .string ((rd_T114 l0_3 x22_2).f1.f4)]) (ok := fun _ => True) (okp := fun _ => True) ?hr ?hp (fun _ hk => hk) trivial (Below.refl _ _) (Nat.le_refl _) (by simp) ?_; (case hd => rfl); (case hg => rfl); (case hr => first | (go_simp; done) | (go_simp; rfl)); (case hp => exact (Reps.one (show Kd.M Kd.string _ _ _ ((rd_T114 l0_3 x22_2).f1.f3) [.string ((rd_T114 l0_3 x22_2).f1.f3)] from rfl) (Reps.one (show Kd.M Kd.string _ _ _ ((rd_T114 l0_3 x22_2).f1.f4) [.string ((rd_T114 l0_3 x22_2).f1.f4)] from rfl) (Reps.none _ _)))); intro v198 w24 ho25 hb hg_ hnew_; clear hg_ hnew_; (first | rw [← Ny197.out] at ho25 | (simp only [Int.reduceToNat] at ho25; rw [← Ny197.out] at ho25)); have n0_ := Aside0.mk (Kd.R_lower ho25 (below_size (by repeat (first | (with_reducible first | exact HB.out | apply below_alloc | apply pw_below_drewN | apply below_drew1 | refine below_set ?_ GE194.out | refine below_set ?_ GE196.out) | exact HB.out)))); have n1_ := Aside0.mk (blk_below (g := gb194) (o := .cells #[.int .u64 a0_0, .int .u64 a0_1, .int .u64 a0_2, .slice (some ad195) l0_3.length c0_3, .slice A0_4 l0_4.length c0_4] 36 (0, 0)) (by (with_reducible repeat (first | refine blk_drewN ?_ _ | refine blk_drew ?_ | refine blk_alloc ?_ _)); exact BK194.out) hb); have n2_ := Aside0.mk (blk_below (g := gb196) (o := .cells #[.int .i64 ((rd_T114 l0_3 x22_2).f0), .int .u64 ((rd_T114 l0_3 x22_2).f1.f0), .int .u64 ((rd_T114 l0_3 x22_2).f1.f1), .int .u64 ((rd_T114 l0_3 x22_2).f1.f2), .string ((rd_T114 l0_3 x22_2).f1.f3), .string ((rd_T114 l0_3 x22_2).f1.f4)] 114 (0, 0)) (by (with_reducible repeat (first | refine blk_drewN ?_ _ | refine blk_drew ?_ | refine blk_alloc ?_ _)); exact BK196.out) hb); have n3_ := Aside0.mk (below_step (by repeat (first | (with_reducible first | exact HB.out | apply below_alloc | apply pw_below_drewN | apply below_drew1 | refine below_set ?_ GE194.out | refine below_set ?_ GE196.out) | exact HB.out)) hb); clear BK194; clear BK196; clear HB; have HO199 := n0_; have BK194 := n1_; have BK196 := n2_; have HB := n3_; clear n0_ n1_ n2_ n3_; clear hb ho25; obtain ⟨Ao26, co26, eo26⟩ := Kd.R_slice HO199.out; subst eo26))
                        go_loopg [42] kj11 (fun kq v42 w' => ∃ (x42_4 : Int), v42 = .int .i64 x42_4 ∧ Aside0 (bourseref12_Edit_Check.l1 kq l0_3 (l0_3.length : Int) x22_2 y197 (y197.length : Int) x42_4 a0_0 a0_1 a0_2 l0_3 l0_4 ((rd_T114 l0_3 x22_2).f0) ((rd_T114 l0_3 x22_2).f1.f0) ((rd_T114 l0_3 x22_2).f1.f1) ((rd_T114 l0_3 x22_2).f1.f2) ((rd_T114 l0_3 x22_2).f1.f3) ((rd_T114 l0_3 x22_2).f1.f4) = some r) ∧ Aside0 (kq ≤ kj11) ∧ Aside0 (Kd.R Kd.string 9 w' w.heap.size (fun _ => True) (.slice Ao26 y197.length co26) y197) ∧ Aside0 (w'.heap[gb194]? = some (.cells #[.int .u64 a0_0, .int .u64 a0_1, .int .u64 a0_2, (.slice (some ad195) l0_3.length c0_3), (.slice A0_4 l0_4.length c0_4)] 36 (0, 0))) ∧ Aside0 (w'.heap[gb196]? = some (.cells #[.int .i64 ((rd_T114 l0_3 x22_2).f0), .int .u64 ((rd_T114 l0_3 x22_2).f1.f0), .int .u64 ((rd_T114 l0_3 x22_2).f1.f1), .int .u64 ((rd_T114 l0_3 x22_2).f1.f2), .string ((rd_T114 l0_3 x22_2).f1.f3), .string ((rd_T114 l0_3 x22_2).f1.f4)] 114 (0, 0))) ∧ Aside0 (Below w.heap.size w w'))
                        case atStart => exact ⟨(0), (by first | rfl | (simp; done) | (simp [*]; done)), H', ⟨Nat.le_refl _⟩, ⟨by (with_reducible repeat (first | apply Kd.R_alloc | apply Kd.R_drewN | apply Kd.R_drew)); exact HO199.out⟩, ⟨by (with_reducible repeat (first | refine blk_drewN ?_ _ | refine blk_drew ?_ | refine blk_alloc ?_ _)); exact BK194.out⟩, ⟨by (with_reducible repeat (first | refine blk_drewN ?_ _ | refine blk_drew ?_ | refine blk_alloc ?_ _)); exact BK196.out⟩, ⟨by repeat (first | (with_reducible first | exact HB.out | apply below_alloc | apply pw_below_drewN | apply below_drew1 | refine below_set ?_ GE194.out | refine below_set ?_ GE196.out) | exact HB.out)⟩⟩
                        case round =>
                          clear H'
                          try clear c1
                          try clear p1
                          try clear q1
                          try clear hx1
                          try clear c2
                          try clear p2
                          try clear c4
                          try clear c4b0
                          try clear c4b1
                          try clear c7
                          try clear c9
                          try clear c9b0
                          try clear c10
                          try clear c10b0
                          try clear c11
                          try clear c11b0
                          try clear c14
                          try clear c16
                          try clear c16b0
                          try clear c17
                          try clear c19
                          try clear p19
                          try clear q19
                          try clear hx19
                          try clear c21
                          try clear c22
                          try clear hcz15_0
                          try clear hcz15_1
                          try clear hcz15_2
                          try clear hcz15_3
                          try clear hcz15_4
                          try clear hcz15_5
                          try clear hcz18_0
                          try clear hcz18_1
                          try clear hcz18_2
                          try clear hcz18_3
                          try clear hcz18_4
                          try clear hcz18_5
                          try clear hcz20_0
                          try clear hcz20_1
                          try clear hcz20_2
                          try clear hcz20_3
                          try clear hcz20_4
                          try clear hcz20_5
                          try clear hcz23_0
                          try clear hcz23_1
                          try clear hcz23_2
                          try clear hcz23_3
                          try clear hcz23_4
                          try clear hcz23_5
                          try clear hcz5_0
                          try clear hcz5_1
                          try clear hcz5_2
                          try clear hcz5_3
                          try clear hcz5_4
                          try clear hcz6_0
                          try clear hcz6_1
                          try clear hcz6_2
                          try clear hcz6_3
                          try clear hcz6_4
                          try clear hcz8_0
                          try clear hcz8_1
                          try clear hcz8_2
                          try clear hcz8_3
                          try clear hcz8_4
                          try clear hfz15_0
                          try clear hfz15_1
                          try clear hfz15_2
                          try clear hfz15_3
                          try clear hfz15_4
                          try clear hfz15_5
                          try clear hfz18_0
                          try clear hfz18_1
                          try clear hfz18_2
                          try clear hfz18_3
                          try clear hfz18_4
                          try clear hfz18_5
                          try clear hfz20_0
                          try clear hfz20_1
                          try clear hfz20_2
                          try clear hfz20_3
                          try clear hfz20_4
                          try clear hfz20_5
                          try clear hfz23_0
                          try clear hfz23_1
                          try clear hfz23_2
                          try clear hfz23_3
                          try clear hfz23_4
                          try clear hfz23_5
                          try clear hfz5_0
                          try clear hfz5_1
                          try clear hfz5_2
                          try clear hfz5_3
                          try clear hfz5_4
                          try clear hfz6_0
                          try clear hfz6_1
                          try clear hfz6_2
                          try clear hfz6_3
                          try clear hfz6_4
                          try clear hfz8_0
                          try clear hfz8_1
                          try clear hfz8_2
                          try clear hfz8_3
                          try clear hfz8_4
                          try clear hx195_0
                          try clear hx195_1
                          try clear hx195_2
                          try clear hx195_3
                          try clear hx195_4
                          try clear hx195_5
                          try clear p1
                          try clear p19
                          try clear p195
                          try clear p2
                          try clear q1
                          try clear q19
                          try clear q195
                          obtain ⟨x42_4, rfl, HA, HK4, HO_40, BK194, BK196, HB⟩ := hrel
                          cases gk with
                          | zero => exact absurd HA.out (by simp [bourseref12_Edit_Check.l1])
                          | succ k4 =>
                            have H := HA.out
                            clear HA
                            simp only [bourseref12_Edit_Check.l1] at H
                            by_cases c27 : x42_4 < (y197.length : Int)
                            · rw [if_pos c27] at H
                              have c27b0 : decide (x42_4 < (y197.length : Int)) = true := decide_eq_true c27
                              clear c27
                              by_cases c28 : 0 ≤ x42_4
                              · rw [if_pos c28] at H
                                have c28b0 : decide (0 ≤ x42_4) = true := decide_eq_true c28
                                clear c28
                                by_cases c29 : x42_4 < (y197.length : Int)
                                · rw [if_pos c29] at H
                                  have c29b0 : decide (x42_4 < (y197.length : Int)) = true := decide_eq_true c29
                                  clear c29
                                  by_cases c30 : ((rdOf ByteArray.empty y197 x42_4).size : Int) < 1
                                  · rw [if_pos c30] at H
                                    have c30b0 : decide (((rdOf ByteArray.empty y197 x42_4).size : Int) < 1) = true := decide_eq_true c30
                                    have c30b1 : decide ((rdOf ByteArray.empty y197 x42_4).size < 1) = true := decide_eq_true (by omega)
                                    clear c30
                                    obtain rfl := Option.some.inj H
                                    have p200 : 0 ≤ (x42_4 : Int) := of_decide_eq_true (by first | (with_reducible assumption) | assumption)
                                    have q200 : x42_4 < (y197.length : Int) := of_decide_eq_true (by first | (with_reducible assumption) | assumption)
                                    obtain ⟨ad200, e200, hx200_0⟩ := Kd.at_string (Kd.R_reads' HO_40.out).2.2 x42_4 p200 q200
                                    cases e200
                                    replace p200 := eq_true p200
                                    replace q200 := eq_true q200
                                    go_wp2
                                    go_ret
                                    exact ⟨by first | rfl | (simp [errW_none, errW_some] <;> rfl) | (simp [*, errW_none, errW_some] <;> rfl), by repeat (first | (with_reducible first | exact HB.out | apply below_alloc | apply pw_below_drewN | apply below_drew1 | refine below_set ?_ GE194.out | refine below_set ?_ GE196.out) | exact HB.out)⟩
                                  · rw [if_neg c30] at H
                                    have c30b0 : decide (((rdOf ByteArray.empty y197 x42_4).size : Int) < 1) = false := decide_eq_false c30
                                    have c30b1 : decide ((rdOf ByteArray.empty y197 x42_4).size < 1) = false := decide_eq_false (by omega)
                                    clear c30
                                    by_cases c31 : ((rdOf ByteArray.empty y197 x42_4).size : Int) > 200
                                    · rw [if_pos c31] at H
                                      have c31b0 : decide (200 < ((rdOf ByteArray.empty y197 x42_4).size : Int)) = true := decide_eq_true c31
                                      have c31b1 : decide (200 < (rdOf ByteArray.empty y197 x42_4).size) = true := decide_eq_true (by omega)
                                      clear c31
                                      obtain rfl := Option.some.inj H
                                      have p200 : 0 ≤ (x42_4 : Int) := of_decide_eq_true (by first | (with_reducible assumption) | assumption)
                                      have q200 : x42_4 < (y197.length : Int) := of_decide_eq_true (by first | (with_reducible assumption) | assumption)
                                      obtain ⟨ad200, e200, hx200_0⟩ := Kd.at_string (Kd.R_reads' HO_40.out).2.2 x42_4 p200 q200
                                      cases e200
                                      replace p200 := eq_true p200
                                      replace q200 := eq_true q200
                                      go_wp2
                                      go_ret
                                      exact ⟨by first | rfl | (simp [errW_none, errW_some] <;> rfl) | (simp [*, errW_none, errW_some] <;> rfl), by repeat (first | (with_reducible first | exact HB.out | apply below_alloc | apply pw_below_drewN | apply below_drew1 | refine below_set ?_ GE194.out | refine below_set ?_ GE196.out) | exact HB.out)⟩
                                    · rw [if_neg c31] at H
                                      have c31b0 : decide (200 < ((rdOf ByteArray.empty y197 x42_4).size : Int)) = false := decide_eq_false c31
                                      have c31b1 : decide (200 < (rdOf ByteArray.empty y197 x42_4).size) = false := decide_eq_false (by omega)
                                      clear c31
                                      have H' := Aside0.mk H
                                      clear H
                                      have p200 : 0 ≤ (x42_4 : Int) := of_decide_eq_true (by first | (with_reducible assumption) | assumption)
                                      have q200 : x42_4 < (y197.length : Int) := of_decide_eq_true (by first | (with_reducible assumption) | assumption)
                                      obtain ⟨ad200, e200, hx200_0⟩ := Kd.at_string (Kd.R_reads' HO_40.out).2.2 x42_4 p200 q200
                                      cases e200
                                      replace p200 := eq_true p200
                                      replace q200 := eq_true q200
                                      go_wp2
                                      go_roundg k4
                                      case measure => have := HJ1.out; have := HK2.out; have := HJ11.out; have := HK4.out; omega
                                      case rel => exact ⟨(wrap64 (x42_4 + 1)), (by first | rfl | (simp; done) | (simp [*]; done)), H', ⟨by have := HJ1.out; have := HK2.out; have := HJ11.out; have := HK4.out; omega⟩, ⟨by (with_reducible repeat (first | apply Kd.R_alloc | apply Kd.R_drewN | apply Kd.R_drew)); exact HO_40.out⟩, ⟨by (with_reducible repeat (first | refine blk_drewN ?_ _ | refine blk_drew ?_ | refine blk_alloc ?_ _)); exact BK194.out⟩, ⟨by (with_reducible repeat (first | refine blk_drewN ?_ _ | refine blk_drew ?_ | refine blk_alloc ?_ _)); exact BK196.out⟩, ⟨by repeat (first | (with_reducible first | exact HB.out | apply below_alloc | apply pw_below_drewN | apply below_drew1 | refine below_set ?_ GE194.out | refine below_set ?_ GE196.out) | exact HB.out)⟩⟩
                                · rw [if_neg c29] at H
                                  exact absurd H (by simp)
                              · rw [if_neg c28] at H
                                exact absurd H (by simp)
                            · rw [if_neg c27] at H
                              have c27b0 : decide (x42_4 < (y197.length : Int)) = false := decide_eq_false c27
                              clear c27
                              by_cases c32 : (Op.bytesLess ((rd_T114 l0_3 x22_2).f1.f4).toList ((rd_T114 l0_3 x22_2).f1.f3).toList) = true
                              · rw [if_pos c32] at H
                                have c32b0 : (Op.bytesLess ((rd_T114 l0_3 x22_2).f1.f4).toList ((rd_T114 l0_3 x22_2).f1.f3).toList) = true := c32
                                clear c32
                                obtain rfl := Option.some.inj H
                                have hnb33 := NB196_194.out
                                have hnc33 := NB194_196.out
                                have hcz34_0 : wr.cell? ⟨gb196, 0, none⟩ = some (.int .i64 ((rd_T114 l0_3 x22_2).f0)) := (blk_cell BK196.out 0).trans rfl
                                have hcz34_1 : wr.cell? ⟨gb196, 1, none⟩ = some (.int .u64 ((rd_T114 l0_3 x22_2).f1.f0)) := (blk_cell BK196.out 1).trans rfl
                                have hcz34_2 : wr.cell? ⟨gb196, 2, none⟩ = some (.int .u64 ((rd_T114 l0_3 x22_2).f1.f1)) := (blk_cell BK196.out 2).trans rfl
                                have hcz34_3 : wr.cell? ⟨gb196, 3, none⟩ = some (.int .u64 ((rd_T114 l0_3 x22_2).f1.f2)) := (blk_cell BK196.out 3).trans rfl
                                have hcz34_4 : wr.cell? ⟨gb196, 4, none⟩ = some (.string ((rd_T114 l0_3 x22_2).f1.f3)) := (blk_cell BK196.out 4).trans rfl
                                have hcz34_5 : wr.cell? ⟨gb196, 5, none⟩ = some (.string ((rd_T114 l0_3 x22_2).f1.f4)) := (blk_cell BK196.out 5).trans rfl
                                have hfz34_0 := blk_frozen BK196.out 0
                                have hfz34_1 := blk_frozen BK196.out 1
                                have hfz34_2 := blk_frozen BK196.out 2
                                have hfz34_3 := blk_frozen BK196.out 3
                                have hfz34_4 := blk_frozen BK196.out 4
                                have hfz34_5 := blk_frozen BK196.out 5
                                go_wp2
                                go_ret
                                exact ⟨by first | rfl | (simp [errW_none, errW_some] <;> rfl) | (simp [*, errW_none, errW_some] <;> rfl), by repeat (first | (with_reducible first | exact HB.out | apply below_alloc | apply pw_below_drewN | apply below_drew1 | refine below_set ?_ GE194.out | refine below_set ?_ GE196.out) | exact HB.out)⟩
                              · rw [if_neg c32] at H
                                have c32b0 : (Op.bytesLess ((rd_T114 l0_3 x22_2).f1.f4).toList ((rd_T114 l0_3 x22_2).f1.f3).toList) = false := by simpa using c32
                                clear c32
                                by_cases c35 : ((rd_T114 l0_3 x22_2).f1.f0) = 0
                                · rw [if_pos c35] at H
                                  have c35b0 : (((rd_T114 l0_3 x22_2).f1.f0) == 0) = true := beq_iff_eq.mpr c35
                                  have c35b1 : (((rd_T114 l0_3 x22_2).f1.f0) != 0) = false := bne_eq_false_iff_eq.mpr c35
                                  clear c35
                                  obtain rfl := Option.some.inj H
                                  have hnb36 := NB196_194.out
                                  have hnc36 := NB194_196.out
                                  have hcz37_0 : wr.cell? ⟨gb196, 0, none⟩ = some (.int .i64 ((rd_T114 l0_3 x22_2).f0)) := (blk_cell BK196.out 0).trans rfl
                                  have hcz37_1 : wr.cell? ⟨gb196, 1, none⟩ = some (.int .u64 ((rd_T114 l0_3 x22_2).f1.f0)) := (blk_cell BK196.out 1).trans rfl
                                  have hcz37_2 : wr.cell? ⟨gb196, 2, none⟩ = some (.int .u64 ((rd_T114 l0_3 x22_2).f1.f1)) := (blk_cell BK196.out 2).trans rfl
                                  have hcz37_3 : wr.cell? ⟨gb196, 3, none⟩ = some (.int .u64 ((rd_T114 l0_3 x22_2).f1.f2)) := (blk_cell BK196.out 3).trans rfl
                                  have hcz37_4 : wr.cell? ⟨gb196, 4, none⟩ = some (.string ((rd_T114 l0_3 x22_2).f1.f3)) := (blk_cell BK196.out 4).trans rfl
                                  have hcz37_5 : wr.cell? ⟨gb196, 5, none⟩ = some (.string ((rd_T114 l0_3 x22_2).f1.f4)) := (blk_cell BK196.out 5).trans rfl
                                  have hfz37_0 := blk_frozen BK196.out 0
                                  have hfz37_1 := blk_frozen BK196.out 1
                                  have hfz37_2 := blk_frozen BK196.out 2
                                  have hfz37_3 := blk_frozen BK196.out 3
                                  have hfz37_4 := blk_frozen BK196.out 4
                                  have hfz37_5 := blk_frozen BK196.out 5
                                  go_wp2
                                  go_ret
                                  exact ⟨by first | rfl | (simp [errW_none, errW_some] <;> rfl) | (simp [*, errW_none, errW_some] <;> rfl), by repeat (first | (with_reducible first | exact HB.out | apply below_alloc | apply pw_below_drewN | apply below_drew1 | refine below_set ?_ GE194.out | refine below_set ?_ GE196.out) | exact HB.out)⟩
                                · rw [if_neg c35] at H
                                  have c35b0 : (((rd_T114 l0_3 x22_2).f1.f0) == 0) = false := beq_eq_false_iff_ne.mpr c35
                                  have c35b1 : (((rd_T114 l0_3 x22_2).f1.f0) != 0) = true := bne_iff_ne.mpr c35
                                  have H' := Aside0.mk H
                                  clear H
                                  have hnb38 := NB196_194.out
                                  have hnc38 := NB194_196.out
                                  have hcz39_0 : wr.cell? ⟨gb196, 0, none⟩ = some (.int .i64 ((rd_T114 l0_3 x22_2).f0)) := (blk_cell BK196.out 0).trans rfl
                                  have hcz39_1 : wr.cell? ⟨gb196, 1, none⟩ = some (.int .u64 ((rd_T114 l0_3 x22_2).f1.f0)) := (blk_cell BK196.out 1).trans rfl
                                  have hcz39_2 : wr.cell? ⟨gb196, 2, none⟩ = some (.int .u64 ((rd_T114 l0_3 x22_2).f1.f1)) := (blk_cell BK196.out 2).trans rfl
                                  have hcz39_3 : wr.cell? ⟨gb196, 3, none⟩ = some (.int .u64 ((rd_T114 l0_3 x22_2).f1.f2)) := (blk_cell BK196.out 3).trans rfl
                                  have hcz39_4 : wr.cell? ⟨gb196, 4, none⟩ = some (.string ((rd_T114 l0_3 x22_2).f1.f3)) := (blk_cell BK196.out 4).trans rfl
                                  have hcz39_5 : wr.cell? ⟨gb196, 5, none⟩ = some (.string ((rd_T114 l0_3 x22_2).f1.f4)) := (blk_cell BK196.out 5).trans rfl
                                  have hfz39_0 := blk_frozen BK196.out 0
                                  have hfz39_1 := blk_frozen BK196.out 1
                                  have hfz39_2 := blk_frozen BK196.out 2
                                  have hfz39_3 := blk_frozen BK196.out 3
                                  have hfz39_4 := blk_frozen BK196.out 4
                                  have hfz39_5 := blk_frozen BK196.out 5
                                  go_wp2
                                  go_roundg k4
                                  case measure => have := HJ1.out; have := HK2.out; have := HJ11.out; have := HK4.out; omega
                                  case rel => exact ⟨(wrap64 (x22_2 + 1)), (by first | rfl | (simp; done) | (simp [*]; done)), H', ⟨by have := HJ1.out; have := HK2.out; have := HJ11.out; have := HK4.out; omega⟩, ⟨by (with_reducible repeat (first | refine blk_drewN ?_ _ | refine blk_drew ?_ | refine blk_alloc ?_ _)); exact BK194.out⟩, ⟨by repeat (first | (with_reducible first | exact HB.out | apply below_alloc | apply pw_below_drewN | apply below_drew1 | refine below_set ?_ GE194.out | refine below_set ?_ GE196.out) | exact HB.out)⟩⟩
                · rw [if_neg c11] at H
                  exact absurd H (by simp)
              · rw [if_neg c10] at H
                exact absurd H (by simp)
            · rw [if_neg c9] at H
              have c9b0 : decide (x22_2 < (l0_3.length : Int)) = false := decide_eq_false c9
              clear c9
              have H' := Aside0.mk H
              clear H
              have hcz40_0 : wr.cell? ⟨gb194, 0, none⟩ = some (.int .u64 a0_0) := (blk_cell BK194.out 0).trans rfl
              have hcz40_1 : wr.cell? ⟨gb194, 1, none⟩ = some (.int .u64 a0_1) := (blk_cell BK194.out 1).trans rfl
              have hcz40_2 : wr.cell? ⟨gb194, 2, none⟩ = some (.int .u64 a0_2) := (blk_cell BK194.out 2).trans rfl
              have hcz40_3 : wr.cell? ⟨gb194, 3, none⟩ = some (.slice A0_3 l0_3.length c0_3) := (blk_cell BK194.out 3).trans rfl
              have hcz40_4 : wr.cell? ⟨gb194, 4, none⟩ = some (.slice A0_4 l0_4.length c0_4) := (blk_cell BK194.out 4).trans rfl
              have hfz40_0 := blk_frozen BK194.out 0
              have hfz40_1 := blk_frozen BK194.out 1
              have hfz40_2 := blk_frozen BK194.out 2
              have hfz40_3 := blk_frozen BK194.out 3
              have hfz40_4 := blk_frozen BK194.out 4
              go_wp2
              go_loopg [70] k2 (fun kq v70 w' => ∃ (x70_3 : Int), v70 = .int .i64 x70_3 ∧ Aside0 (bourseref12_Edit_Check.l2 kq l0_4 (l0_4.length : Int) x70_3 = some r) ∧ Aside0 (kq ≤ k2) ∧ Aside0 (w'.heap[gb194]? = some (.cells #[.int .u64 a0_0, .int .u64 a0_1, .int .u64 a0_2, (.slice A0_3 l0_3.length c0_3), (.slice A0_4 l0_4.length c0_4)] 36 (0, 0))) ∧ Aside0 (Below w.heap.size w w'))
              case atStart => exact ⟨(0), (by first | rfl | (simp; done) | (simp [*]; done)), H', ⟨Nat.le_refl _⟩, ⟨by (with_reducible repeat (first | refine blk_drewN ?_ _ | refine blk_drew ?_ | refine blk_alloc ?_ _)); exact BK194.out⟩, ⟨by repeat (first | (with_reducible first | exact HB.out | apply below_alloc | apply pw_below_drewN | apply below_drew1 | refine below_set ?_ GE194.out) | exact HB.out)⟩⟩
              case round =>
                clear H'
                try clear c1
                try clear p1
                try clear q1
                try clear hx1
                try clear c2
                try clear p2
                try clear q2
                try clear hx2
                try clear c3
                try clear c4
                try clear c4b0
                try clear c4b1
                try clear p6
                try clear c7
                try clear c9
                try clear c9b0
                try clear c10
                try clear c10b0
                try clear c11
                try clear c11b0
                try clear c14
                try clear c16
                try clear c16b0
                try clear c17
                try clear c19
                try clear p19
                try clear q19
                try clear hx19
                try clear p20
                try clear q20
                try clear hx20
                try clear c21
                try clear c22
                try clear c27
                try clear c27b0
                try clear c28
                try clear c28b0
                try clear c29
                try clear c29b0
                try clear c30
                try clear c30b0
                try clear c30b1
                try clear c31
                try clear c31b0
                try clear c31b1
                try clear c32
                try clear c32b0
                try clear c33
                try clear c35
                try clear c35b0
                try clear c35b1
                try clear c36
                try clear c38
                try clear hcz15_0
                try clear hcz15_1
                try clear hcz15_2
                try clear hcz15_3
                try clear hcz15_4
                try clear hcz15_5
                try clear hcz18_0
                try clear hcz18_1
                try clear hcz18_2
                try clear hcz18_3
                try clear hcz18_4
                try clear hcz18_5
                try clear hcz20_0
                try clear hcz20_1
                try clear hcz20_2
                try clear hcz20_3
                try clear hcz20_4
                try clear hcz20_5
                try clear hcz23_0
                try clear hcz23_1
                try clear hcz23_2
                try clear hcz23_3
                try clear hcz23_4
                try clear hcz23_5
                try clear hcz34_0
                try clear hcz34_1
                try clear hcz34_2
                try clear hcz34_3
                try clear hcz34_4
                try clear hcz34_5
                try clear hcz37_0
                try clear hcz37_1
                try clear hcz37_2
                try clear hcz37_3
                try clear hcz37_4
                try clear hcz37_5
                try clear hcz39_0
                try clear hcz39_1
                try clear hcz39_2
                try clear hcz39_3
                try clear hcz39_4
                try clear hcz39_5
                try clear hcz40_0
                try clear hcz40_1
                try clear hcz40_2
                try clear hcz40_3
                try clear hcz40_4
                try clear hcz5_0
                try clear hcz5_1
                try clear hcz5_2
                try clear hcz5_3
                try clear hcz5_4
                try clear hcz6_0
                try clear hcz6_1
                try clear hcz6_2
                try clear hcz6_3
                try clear hcz6_4
                try clear hcz8_0
                try clear hcz8_1
                try clear hcz8_2
                try clear hcz8_3
                try clear hcz8_4
                try clear hfz15_0
                try clear hfz15_1
                try clear hfz15_2
                try clear hfz15_3
                try clear hfz15_4
                try clear hfz15_5
                try clear hfz18_0
                try clear hfz18_1
                try clear hfz18_2
                try clear hfz18_3
                try clear hfz18_4
                try clear hfz18_5
                try clear hfz20_0
                try clear hfz20_1
                try clear hfz20_2
                try clear hfz20_3
                try clear hfz20_4
                try clear hfz20_5
                try clear hfz23_0
                try clear hfz23_1
                try clear hfz23_2
                try clear hfz23_3
                try clear hfz23_4
                try clear hfz23_5
                try clear hfz34_0
                try clear hfz34_1
                try clear hfz34_2
                try clear hfz34_3
                try clear hfz34_4
                try clear hfz34_5
                try clear hfz37_0
                try clear hfz37_1
                try clear hfz37_2
                try clear hfz37_3
                try clear hfz37_4
                try clear hfz37_5
                try clear hfz39_0
                try clear hfz39_1
                try clear hfz39_2
                try clear hfz39_3
                try clear hfz39_4
                try clear hfz39_5
                try clear hfz40_0
                try clear hfz40_1
                try clear hfz40_2
                try clear hfz40_3
                try clear hfz40_4
                try clear hfz5_0
                try clear hfz5_1
                try clear hfz5_2
                try clear hfz5_3
                try clear hfz5_4
                try clear hfz6_0
                try clear hfz6_1
                try clear hfz6_2
                try clear hfz6_3
                try clear hfz6_4
                try clear hfz8_0
                try clear hfz8_1
                try clear hfz8_2
                try clear hfz8_3
                try clear hfz8_4
                try clear hx195_0
                try clear hx195_1
                try clear hx195_2
                try clear hx195_3
                try clear hx195_4
                try clear hx195_5
                try clear hx200_0
                try clear p1
                try clear p19
                try clear p195
                try clear p2
                try clear p200
                try clear q1
                try clear q19
                try clear q195
                try clear q200
                obtain ⟨x70_3, rfl, HA, HK3, BK194, HB⟩ := hrel
                cases gk with
                | zero => exact absurd HA.out (by simp [bourseref12_Edit_Check.l2])
                | succ k3 =>
                  have H := HA.out
                  clear HA
                  simp only [bourseref12_Edit_Check.l2] at H
                  by_cases c41 : x70_3 < (l0_4.length : Int)
                  · rw [if_pos c41] at H
                    have c41b0 : decide (x70_3 < (l0_4.length : Int)) = true := decide_eq_true c41
                    clear c41
                    by_cases c42 : 0 ≤ x70_3
                    · rw [if_pos c42] at H
                      have c42b0 : decide (0 ≤ x70_3) = true := decide_eq_true c42
                      clear c42
                      by_cases c43 : x70_3 < (l0_4.length : Int)
                      · rw [if_pos c43] at H
                        have c43b0 : decide (x70_3 < (l0_4.length : Int)) = true := decide_eq_true c43
                        clear c43
                        by_cases c44 : ((rd_T115 l0_4 x70_3).f0) < 0
                        · rw [if_pos c44] at H
                          have c44b0 : decide (((rd_T115 l0_4 x70_3).f0) < 0) = true := decide_eq_true c44
                          clear c44
                          obtain rfl := Option.some.inj H
                          have p201 : 0 ≤ (x70_3 : Int) := of_decide_eq_true (by first | (with_reducible assumption) | assumption)
                          have q201 : x70_3 < (l0_4.length : Int) := of_decide_eq_true (by first | (with_reducible assumption) | assumption)
                          obtain ⟨ad201, e201, hx201_0, hx201_1⟩ := at_T115 HR0_4.out x70_3 p201 q201
                          cases e201
                          replace hx201_0 := (HB.out.cell (World.block_lt_of_cell? w _ hx201_0)).trans hx201_0
                          replace hx201_1 := (HB.out.cell (World.block_lt_of_cell? w _ hx201_1)).trans hx201_1
                          replace p201 := eq_true p201
                          replace q201 := eq_true q201
                          go_wp2_with (first | ((with_reducible refine gate_dst (N := 8) rfl ?_); (try (refine gate_guard (by rfl) ?_; dsimp only)); refine box_event ?hg (N := 8) ?hd (cs := #[.int .i64 0, .int .u64 0]) (t := 115) ?hr ?_; (case hd => rfl); (case hg => rfl); (case hr => first | (go_simp; done) | (go_simp; rfl)); intro gb202 hg w45 hbox hb; have n0_ := Aside0.mk (blk_below (g := gb194) (o := .cells #[.int .u64 a0_0, .int .u64 a0_1, .int .u64 a0_2, .slice A0_3 l0_3.length c0_3, .slice (some ad201) l0_4.length c0_4] 36 (0, 0)) (by (with_reducible repeat (first | refine blk_drewN ?_ _ | refine blk_drew ?_ | refine blk_alloc ?_ _)); exact BK194.out) hb); have n1_ := Aside0.mk (below_step (by repeat (first | (with_reducible first | exact HB.out | apply below_alloc | apply pw_below_drewN | apply below_drew1 | refine below_set ?_ GE194.out) | exact HB.out)) hb); have n2_ := Aside0.mk (hbox); have n3_ := Aside0.mk ((by rw [hg]; exact (below_size (by repeat (first | (with_reducible first | exact HB.out | apply below_alloc | apply pw_below_drewN | apply below_drew1 | refine below_set ?_ GE194.out) | exact HB.out))) : w.heap.size ≤ gb202)); have n4_ := Aside0.mk ((by rw [hg]; exact (below_size (by repeat (first | (with_reducible first | exact HB.out | apply below_alloc | apply pw_below_drewN | apply below_drew1 | refine below_set ?_ GE194.out) | exact HB.out))) : w.heap.size ≤ gb202)); have n5_ := Aside0.mk ((by rw [hg]; exact Nat.ne_of_lt (blk_lt (g := gb194) (o := .cells #[.int .u64 a0_0, .int .u64 a0_1, .int .u64 a0_2, .slice A0_3 l0_3.length c0_3, .slice (some ad201) l0_4.length c0_4] 36 (0, 0)) (by (with_reducible repeat (first | refine blk_drewN ?_ _ | refine blk_drew ?_ | refine blk_alloc ?_ _)); exact BK194.out)) : gb194 ≠ gb202)); have n6_ := Aside0.mk ((by rw [hg]; exact Nat.ne_of_gt (blk_lt (g := gb194) (o := .cells #[.int .u64 a0_0, .int .u64 a0_1, .int .u64 a0_2, .slice A0_3 l0_3.length c0_3, .slice (some ad201) l0_4.length c0_4] 36 (0, 0)) (by (with_reducible repeat (first | refine blk_drewN ?_ _ | refine blk_drew ?_ | refine blk_alloc ?_ _)); exact BK194.out)) : gb202 ≠ gb194)); clear BK194; clear HB; have BK194 := n0_; have HB := n1_; have BK202 := n2_; have GW202 := n3_; have GE202 := n4_; have NB194_202 := n5_; have NB202_194 := n6_; clear n0_ n1_ n2_ n3_ n4_ n5_ n6_; clear hb hbox hg; have hnb46 := NB202_194.out; have hnc46 := NB194_202.out; have hcz47_0 : w45.cell? ⟨gb202, 0, none⟩ = some (.int .i64 0) := (blk_cell BK202.out 0).trans rfl; have hcz47_1 : w45.cell? ⟨gb202, 1, none⟩ = some (.int .u64 0) := (blk_cell BK202.out 1).trans rfl; have hfz47_0 := blk_frozen BK202.out 0; have hfz47_1 := blk_frozen BK202.out 1))
                          go_ret
                          exact ⟨by first | rfl | (simp [errW_none, errW_some] <;> rfl) | (simp [*, errW_none, errW_some] <;> rfl), by repeat (first | (with_reducible first | exact HB.out | apply below_alloc | apply pw_below_drewN | apply below_drew1 | refine below_set ?_ GE194.out | refine below_set ?_ GE202.out) | exact HB.out)⟩
                        · rw [if_neg c44] at H
                          have c44b0 : decide (((rd_T115 l0_4 x70_3).f0) < 0) = false := decide_eq_false c44
                          clear c44
                          by_cases c48 : ((rd_T115 l0_4 x70_3).f0) > 3
                          · rw [if_pos c48] at H
                            have c48b0 : decide (3 < ((rd_T115 l0_4 x70_3).f0)) = true := decide_eq_true c48
                            clear c48
                            obtain rfl := Option.some.inj H
                            have p201 : 0 ≤ (x70_3 : Int) := of_decide_eq_true (by first | (with_reducible assumption) | assumption)
                            have q201 : x70_3 < (l0_4.length : Int) := of_decide_eq_true (by first | (with_reducible assumption) | assumption)
                            obtain ⟨ad201, e201, hx201_0, hx201_1⟩ := at_T115 HR0_4.out x70_3 p201 q201
                            cases e201
                            replace hx201_0 := (HB.out.cell (World.block_lt_of_cell? w _ hx201_0)).trans hx201_0
                            replace hx201_1 := (HB.out.cell (World.block_lt_of_cell? w _ hx201_1)).trans hx201_1
                            replace p201 := eq_true p201
                            replace q201 := eq_true q201
                            go_wp2_with (first | ((with_reducible refine gate_dst (N := 8) rfl ?_); (try (refine gate_guard (by rfl) ?_; dsimp only)); refine box_event ?hg (N := 8) ?hd (cs := #[.int .i64 0, .int .u64 0]) (t := 115) ?hr ?_; (case hd => rfl); (case hg => rfl); (case hr => first | (go_simp; done) | (go_simp; rfl)); intro gb202 hg w49 hbox hb; have n0_ := Aside0.mk (blk_below (g := gb194) (o := .cells #[.int .u64 a0_0, .int .u64 a0_1, .int .u64 a0_2, .slice A0_3 l0_3.length c0_3, .slice (some ad201) l0_4.length c0_4] 36 (0, 0)) (by (with_reducible repeat (first | refine blk_drewN ?_ _ | refine blk_drew ?_ | refine blk_alloc ?_ _)); exact BK194.out) hb); have n1_ := Aside0.mk (below_step (by repeat (first | (with_reducible first | exact HB.out | apply below_alloc | apply pw_below_drewN | apply below_drew1 | refine below_set ?_ GE194.out) | exact HB.out)) hb); have n2_ := Aside0.mk (hbox); have n3_ := Aside0.mk ((by rw [hg]; exact (below_size (by repeat (first | (with_reducible first | exact HB.out | apply below_alloc | apply pw_below_drewN | apply below_drew1 | refine below_set ?_ GE194.out) | exact HB.out))) : w.heap.size ≤ gb202)); have n4_ := Aside0.mk ((by rw [hg]; exact (below_size (by repeat (first | (with_reducible first | exact HB.out | apply below_alloc | apply pw_below_drewN | apply below_drew1 | refine below_set ?_ GE194.out) | exact HB.out))) : w.heap.size ≤ gb202)); have n5_ := Aside0.mk ((by rw [hg]; exact Nat.ne_of_lt (blk_lt (g := gb194) (o := .cells #[.int .u64 a0_0, .int .u64 a0_1, .int .u64 a0_2, .slice A0_3 l0_3.length c0_3, .slice (some ad201) l0_4.length c0_4] 36 (0, 0)) (by (with_reducible repeat (first | refine blk_drewN ?_ _ | refine blk_drew ?_ | refine blk_alloc ?_ _)); exact BK194.out)) : gb194 ≠ gb202)); have n6_ := Aside0.mk ((by rw [hg]; exact Nat.ne_of_gt (blk_lt (g := gb194) (o := .cells #[.int .u64 a0_0, .int .u64 a0_1, .int .u64 a0_2, .slice A0_3 l0_3.length c0_3, .slice (some ad201) l0_4.length c0_4] 36 (0, 0)) (by (with_reducible repeat (first | refine blk_drewN ?_ _ | refine blk_drew ?_ | refine blk_alloc ?_ _)); exact BK194.out)) : gb202 ≠ gb194)); clear BK194; clear HB; have BK194 := n0_; have HB := n1_; have BK202 := n2_; have GW202 := n3_; have GE202 := n4_; have NB194_202 := n5_; have NB202_194 := n6_; clear n0_ n1_ n2_ n3_ n4_ n5_ n6_; clear hb hbox hg; have hnb50 := NB202_194.out; have hnc50 := NB194_202.out; have hcz51_0 : w49.cell? ⟨gb202, 0, none⟩ = some (.int .i64 0) := (blk_cell BK202.out 0).trans rfl; have hcz51_1 : w49.cell? ⟨gb202, 1, none⟩ = some (.int .u64 0) := (blk_cell BK202.out 1).trans rfl; have hfz51_0 := blk_frozen BK202.out 0; have hfz51_1 := blk_frozen BK202.out 1))
                            go_ret
                            exact ⟨by first | rfl | (simp [errW_none, errW_some] <;> rfl) | (simp [*, errW_none, errW_some] <;> rfl), by repeat (first | (with_reducible first | exact HB.out | apply below_alloc | apply pw_below_drewN | apply below_drew1 | refine below_set ?_ GE194.out | refine below_set ?_ GE202.out) | exact HB.out)⟩
                          · rw [if_neg c48] at H
                            have c48b0 : decide (3 < ((rd_T115 l0_4 x70_3).f0)) = false := decide_eq_false c48
                            clear c48
                            have H' := Aside0.mk H
                            clear H
                            have p201 : 0 ≤ (x70_3 : Int) := of_decide_eq_true (by first | (with_reducible assumption) | assumption)
                            have q201 : x70_3 < (l0_4.length : Int) := of_decide_eq_true (by first | (with_reducible assumption) | assumption)
                            obtain ⟨ad201, e201, hx201_0, hx201_1⟩ := at_T115 HR0_4.out x70_3 p201 q201
                            cases e201
                            replace hx201_0 := (HB.out.cell (World.block_lt_of_cell? w _ hx201_0)).trans hx201_0
                            replace hx201_1 := (HB.out.cell (World.block_lt_of_cell? w _ hx201_1)).trans hx201_1
                            replace p201 := eq_true p201
                            replace q201 := eq_true q201
                            go_wp2_with (first | ((with_reducible refine gate_dst (N := 8) rfl ?_); (try (refine gate_guard (by rfl) ?_; dsimp only)); refine box_event ?hg (N := 8) ?hd (cs := #[.int .i64 0, .int .u64 0]) (t := 115) ?hr ?_; (case hd => rfl); (case hg => rfl); (case hr => first | (go_simp; done) | (go_simp; rfl)); intro gb202 hg w52 hbox hb; have n0_ := Aside0.mk (blk_below (g := gb194) (o := .cells #[.int .u64 a0_0, .int .u64 a0_1, .int .u64 a0_2, .slice A0_3 l0_3.length c0_3, .slice (some ad201) l0_4.length c0_4] 36 (0, 0)) (by (with_reducible repeat (first | refine blk_drewN ?_ _ | refine blk_drew ?_ | refine blk_alloc ?_ _)); exact BK194.out) hb); have n1_ := Aside0.mk (below_step (by repeat (first | (with_reducible first | exact HB.out | apply below_alloc | apply pw_below_drewN | apply below_drew1 | refine below_set ?_ GE194.out) | exact HB.out)) hb); have n2_ := Aside0.mk (hbox); have n3_ := Aside0.mk ((by rw [hg]; exact (below_size (by repeat (first | (with_reducible first | exact HB.out | apply below_alloc | apply pw_below_drewN | apply below_drew1 | refine below_set ?_ GE194.out) | exact HB.out))) : w.heap.size ≤ gb202)); have n4_ := Aside0.mk ((by rw [hg]; exact (below_size (by repeat (first | (with_reducible first | exact HB.out | apply below_alloc | apply pw_below_drewN | apply below_drew1 | refine below_set ?_ GE194.out) | exact HB.out))) : w.heap.size ≤ gb202)); have n5_ := Aside0.mk ((by rw [hg]; exact Nat.ne_of_lt (blk_lt (g := gb194) (o := .cells #[.int .u64 a0_0, .int .u64 a0_1, .int .u64 a0_2, .slice A0_3 l0_3.length c0_3, .slice (some ad201) l0_4.length c0_4] 36 (0, 0)) (by (with_reducible repeat (first | refine blk_drewN ?_ _ | refine blk_drew ?_ | refine blk_alloc ?_ _)); exact BK194.out)) : gb194 ≠ gb202)); have n6_ := Aside0.mk ((by rw [hg]; exact Nat.ne_of_gt (blk_lt (g := gb194) (o := .cells #[.int .u64 a0_0, .int .u64 a0_1, .int .u64 a0_2, .slice A0_3 l0_3.length c0_3, .slice (some ad201) l0_4.length c0_4] 36 (0, 0)) (by (with_reducible repeat (first | refine blk_drewN ?_ _ | refine blk_drew ?_ | refine blk_alloc ?_ _)); exact BK194.out)) : gb202 ≠ gb194)); clear BK194; clear HB; have BK194 := n0_; have HB := n1_; have BK202 := n2_; have GW202 := n3_; have GE202 := n4_; have NB194_202 := n5_; have NB202_194 := n6_; clear n0_ n1_ n2_ n3_ n4_ n5_ n6_; clear hb hbox hg; have hnb53 := NB202_194.out; have hnc53 := NB194_202.out; have hcz54_0 : w52.cell? ⟨gb202, 0, none⟩ = some (.int .i64 0) := (blk_cell BK202.out 0).trans rfl; have hcz54_1 : w52.cell? ⟨gb202, 1, none⟩ = some (.int .u64 0) := (blk_cell BK202.out 1).trans rfl; have hfz54_0 := blk_frozen BK202.out 0; have hfz54_1 := blk_frozen BK202.out 1))
                            go_roundg k3
                            case measure => have := HJ1.out; have := HK2.out; have := HK3.out; omega
                            case rel => exact ⟨(wrap64 (x70_3 + 1)), (by first | rfl | (simp; done) | (simp [*]; done)), H', ⟨by have := HJ1.out; have := HK2.out; have := HK3.out; omega⟩, ⟨by (with_reducible repeat (first | refine blk_drewN ?_ _ | refine blk_drew ?_ | refine blk_alloc ?_ _)); refine blk_far ?_ NB194_202.out _; (with_reducible repeat (first | refine blk_drewN ?_ _ | refine blk_drew ?_ | refine blk_alloc ?_ _)); refine blk_far ?_ NB194_202.out _; (with_reducible repeat (first | refine blk_drewN ?_ _ | refine blk_drew ?_ | refine blk_alloc ?_ _)); exact BK194.out⟩, ⟨by repeat (first | (with_reducible first | exact HB.out | apply below_alloc | apply pw_below_drewN | apply below_drew1 | refine below_set ?_ GE194.out | refine below_set ?_ GE202.out) | exact HB.out)⟩⟩
                      · rw [if_neg c43] at H
                        exact absurd H (by simp)
                    · rw [if_neg c42] at H
                      exact absurd H (by simp)
                  · rw [if_neg c41] at H
                    have c41b0 : decide (x70_3 < (l0_4.length : Int)) = false := decide_eq_false c41
                    clear c41
                    obtain rfl := Option.some.inj H
                    go_wp2
                    go_ret
                    exact ⟨by first | rfl | (simp [errW_none, errW_some] <;> rfl) | (simp [*, errW_none, errW_some] <;> rfl), by repeat (first | (with_reducible first | exact HB.out | apply below_alloc | apply pw_below_drewN | apply below_drew1 | refine below_set ?_ GE194.out) | exact HB.out)⟩
end Go.Proofs.YteilnbnnhocciaaDoor.K

/-! K31 -/
namespace Go.Proofs.YteilnbnnhocciaaDoor.K
open Go.RowKit Go.Proofs.YteilnbnnhocciaaDoorW.PrintWords Go.Proofs.YteilnbnnhocciaaDoorW.PrintLast Go.Proofs.YteilnbnnhocciaaDoorW.PrintMore Go.Proofs.YteilnbnnhocciaaDoorM
attribute [local go_sem] max2_int min2_int max_two min_two max_three min_three max_four min_four
set_option linter.unusedVariables false
set_option linter.unusedSimpArgs false
def IsS125 (w0 W : World) (g : Nat) (f0 : ByteArray) (f1 : Int) (f2 : Int) : Prop := W.heap[g]? = some (.cells #[.string f0, .int .i64 f1, .int .i64 f2] 125 (0, 0)) ∧ w0.heap.size ≤ g
theorem IsS125.grown {w0 W : World} {g : Nat} {f0 : ByteArray} {f1 : Int} {f2 : Int} {W1 : World} {row : Option Nat} (h : IsS125 w0 W g f0 f1 f2) (hw : W.grownBy W1 row) (hne : some g ≠ row) : IsS125 w0 W1 g f0 f1 f2 := by
  obtain ⟨hb, hg⟩ := h
  exact ⟨blk_grown hb hw hne, hg⟩
theorem IsS125.kept {w0 W : World} {g : Nat} {f0 : ByteArray} {f1 : Int} {f2 : Int} {W1 : World} {S : Nat → Prop} (h : IsS125 w0 W g f0 f1 f2) (hk : Kept W W1 S) (hne : ¬ S g) : IsS125 w0 W1 g f0 f1 f2 := by
  obtain ⟨hb, hg⟩ := h
  exact ⟨blk_kept hb hk hne, hg⟩
theorem IsS125.below {w0 W : World} {g : Nat} {f0 : ByteArray} {f1 : Int} {f2 : Int} {W1 : World} (h : IsS125 w0 W g f0 f1 f2) (hw : Below W.heap.size W W1) : IsS125 w0 W1 g f0 f1 f2 := h.grown (grown_of_below hw none) (by simp)
theorem IsS125.alloc {w0 W : World} {g : Nat} {f0 : ByteArray} {f1 : Int} {f2 : Int} (h : IsS125 w0 W g f0 f1 f2) (o : Obj) : IsS125 w0 (W.alloc o) g f0 f1 f2 := h.below (below_alloc (Below.refl _ _) o)
theorem IsS125.drewN {w0 W : World} {g : Nat} {f0 : ByteArray} {f1 : Int} {f2 : Int} (h : IsS125 w0 W g f0 f1 f2) (m : Nat) : IsS125 w0 (W.drewN m) g f0 f1 f2 := h
theorem IsS125.drew {w0 W : World} {g : Nat} {f0 : ByteArray} {f1 : Int} {f2 : Int} (h : IsS125 w0 W g f0 f1 f2) : IsS125 w0 W.drew g f0 f1 f2 := h
theorem IsS125.at_ {w0 W : World} {g : Nat} {f0 : ByteArray} {f1 : Int} {f2 : Int} {w' : World} {m : Nat} (hq : W.drewN m = w') (h : IsS125 w0 W g f0 f1 f2) : IsS125 w0 w' g f0 f1 f2 := by subst hq; exact IsS125.drewN h m
theorem IsS125.apart {w0 W : World} {g : Nat} {f0 : ByteArray} {f1 : Int} {f2 : Int} {α : Type} {d : Kd α} {e : Nat} {base : Nat} {ok : Nat → Prop} {v : Value} {xs : List α} (h : IsS125 w0 W g f0 f1 f2) (ho : d.R e W base ok v xs) (ht : ∀ q, q ∈ e :: d.E → q ≠ 125) : d.R e W base (fun k => ok k ∧ k ≠ g) v xs := by
  obtain ⟨hb, hg⟩ := h
  exact Kd.R_types ho hb ht
theorem IsS125.own_ne {w0 W : World} {g : Nat} {f0 : ByteArray} {f1 : Int} {f2 : Int} {α : Type} {d : Kd α} {e : Nat} {base : Nat} {ok : Nat → Prop} {v : Value} {xs : List α} (h : IsS125 w0 W g f0 f1 f2) (ho : d.R e W base ok v xs) (ht : e ≠ 125) : some g ≠ v.ownBlock := by
  obtain ⟨hb, hg⟩ := h
  exact Kd.R_ne ho hb ht
theorem IsS125.lt {w0 W : World} {g : Nat} {f0 : ByteArray} {f1 : Int} {f2 : Int} (h : IsS125 w0 W g f0 f1 f2) : g < W.heap.size := by
  obtain ⟨hb, hg⟩ := h
  exact blk_lt hb
theorem IsS125.ge {w0 W : World} {g : Nat} {f0 : ByteArray} {f1 : Int} {f2 : Int} (h : IsS125 w0 W g f0 f1 f2) : w0.heap.size ≤ g := by
  obtain ⟨hb, hg⟩ := h
  exact hg
theorem IsS125.far {w0 W : World} {g : Nat} {f0 : ByteArray} {f1 : Int} {f2 : Int} {p : Addr} (h : IsS125 w0 W g f0 f1 f2) (hne : g ≠ p.block) (u : Value) : IsS125 w0 (W.setCell p u) g f0 f1 f2 := by
  obtain ⟨hb, hg⟩ := h
  exact ⟨blk_far hb hne u, hg⟩
theorem cellS125_0 {W : World} {g : Nat} {f0 : ByteArray} {f1 : Int} {f2 : Int} (h : W.heap[g]? = some (.cells #[.string f0, .int .i64 f1, .int .i64 f2] 125 (0, 0))) : W.cell? ⟨g, 0, none⟩ = some (.string f0) := (blk_cell h 0).trans rfl
theorem IsS125.set_0 {w0 W : World} {g : Nat} {f0 : ByteArray} {f1 : Int} {f2 : Int} (h : IsS125 w0 W g f0 f1 f2) (x : ByteArray) : IsS125 w0 (W.setCell ⟨g, 0, none⟩ (.string x)) g x f1 f2 := by
  obtain ⟨hb, hg⟩ := h
  exact ⟨by simpa using blk_set hb 0 (.string x), hg⟩
theorem cellS125_1 {W : World} {g : Nat} {f0 : ByteArray} {f1 : Int} {f2 : Int} (h : W.heap[g]? = some (.cells #[.string f0, .int .i64 f1, .int .i64 f2] 125 (0, 0))) : W.cell? ⟨g, 1, none⟩ = some (.int .i64 f1) := (blk_cell h 1).trans rfl
theorem IsS125.set_1 {w0 W : World} {g : Nat} {f0 : ByteArray} {f1 : Int} {f2 : Int} (h : IsS125 w0 W g f0 f1 f2) (x : Int) : IsS125 w0 (W.setCell ⟨g, 1, none⟩ (.int .i64 x)) g f0 x f2 := by
  obtain ⟨hb, hg⟩ := h
  exact ⟨by simpa using blk_set hb 1 (.int .i64 x), hg⟩
theorem cellS125_2 {W : World} {g : Nat} {f0 : ByteArray} {f1 : Int} {f2 : Int} (h : W.heap[g]? = some (.cells #[.string f0, .int .i64 f1, .int .i64 f2] 125 (0, 0))) : W.cell? ⟨g, 2, none⟩ = some (.int .i64 f2) := (blk_cell h 2).trans rfl
theorem IsS125.set_2 {w0 W : World} {g : Nat} {f0 : ByteArray} {f1 : Int} {f2 : Int} (h : IsS125 w0 W g f0 f1 f2) (x : Int) : IsS125 w0 (W.setCell ⟨g, 2, none⟩ (.int .i64 x)) g f0 f1 x := by
  obtain ⟨hb, hg⟩ := h
  exact ⟨by simpa using blk_set hb 2 (.int .i64 x), hg⟩
theorem IsS125.new (w0 W : World) (f0 : ByteArray) (f1 : Int) (f2 : Int) (hB : Below w0.heap.size w0 W) : IsS125 w0 (W.alloc (.cells #[.string f0, .int .i64 f1, .int .i64 f2] 125)) W.heap.size f0 f1 f2 := ⟨by simpa using heap_alloc_new W _, hB.size⟩
def bourseref03_Reader_Fail.f (s0_0 : ByteArray) (s0_1 : Int) (s0_2 : Int) (a1 : Int) : Option (ByteArray × Int × Int) := if s0_2 = 0 then (some (s0_0, s0_1, a1)) else (some (s0_0, s0_1, s0_2))
set_option maxHeartbeats 8000000 in
set_option maxRecDepth 100000 in
theorem bourseref03_Reader_Fail.calls (g : Nat) (s0_0 : ByteArray) (s0_1 : Int) (s0_2 : Int) (a1 : Int) (r1 : ByteArray) (r2 : Int) (r3 : Int) (w0 w : World) (hI : IsS125 w0 w g s0_0 s0_1 s0_2) (hB : Below w0.heap.size w0 w) (h : bourseref03_Reader_Fail.f s0_0 s0_1 s0_2 a1 = some (r1, r2, r3)) :
    Calls Tryd.prog 111 #[.pointer (some ⟨g, 0, none⟩), .int .i64 a1] w fun e w' => e = .returned (.tuple #[]) ∧ IsS125 w0 w' g r1 r2 r3 ∧ Below w0.heap.size w0 w' ∧ KeepBut w w' g none := by
  have HI0 := Aside0.mk hI
  have HK := Aside0.mk (KeepBut.refl w g none)
  have HL := Aside0.mk hB.size
  clear hI
  have HW0 := Aside0.mk hB.size
  have HB := Aside0.mk hB
  clear hB
  have H : (if s0_2 = 0 then (some (s0_0, s0_1, a1)) else (some (s0_0, s0_1, s0_2))) = some (r1, r2, r3) := h
  clear h
  by_cases c3 : s0_2 = 0
  · rw [if_pos c3] at H
    have c3b0 : (s0_2 == 0) = true := beq_iff_eq.mpr c3
    have c3b1 : (s0_2 != 0) = false := bne_eq_false_iff_eq.mpr c3
    clear c3
    simp only [Option.some.injEq, Prod.mk.injEq] at H
    obtain ⟨rfl, rfl, rfl⟩ := H
    obtain ⟨HGz4, hgz4⟩ := HI0.out
    have hcz4_0 := cellS125_0 HGz4
    have hcz4_1 := cellS125_1 HGz4
    have hcz4_2 := cellS125_2 HGz4
    have hfz4_0 := blk_frozen HGz4 0
    have hfz4_1 := blk_frozen HGz4 1
    have hfz4_2 := blk_frozen HGz4 2
    clear HGz4 hgz4
    go_enter Tryd.func111, Tryd.ntmps111
    go_wp2
    first | go_end0 | ((try simp only [Exit.inBlock, Exit.then]); refine bodyPost_ret (results_none rfl _ _ _) rfl ?_)
    exact ⟨by first | rfl | (simp [errW_none, errW_some] <;> rfl) | (simp [*, errW_none, errW_some] <;> rfl), by repeat (first | (with_reducible first | exact HI0.out | apply IsS125.alloc | apply IsS125.drewN | apply IsS125.drew | apply IsS125.set_0 | apply IsS125.set_1 | apply IsS125.set_2) | exact HI0.out), by repeat (first | (with_reducible first | exact HB.out | apply below_alloc | apply pw_below_drewN | apply below_drew1 | refine below_set ?_ (IsS125.ge HI0.out)) | exact HB.out), by repeat (first | (with_reducible first | exact HK.out | apply KeepBut.set_ | apply keep_drewN | apply keep_drew | apply keep_alloc) | exact HK.out)⟩
  · rw [if_neg c3] at H
    have c3b0 : (s0_2 == 0) = false := beq_eq_false_iff_ne.mpr c3
    have c3b1 : (s0_2 != 0) = true := bne_iff_ne.mpr c3
    simp only [Option.some.injEq, Prod.mk.injEq] at H
    obtain ⟨rfl, rfl, rfl⟩ := H
    obtain ⟨HGz5, hgz5⟩ := HI0.out
    have hcz5_0 := cellS125_0 HGz5
    have hcz5_1 := cellS125_1 HGz5
    have hcz5_2 := cellS125_2 HGz5
    have hfz5_0 := blk_frozen HGz5 0
    have hfz5_1 := blk_frozen HGz5 1
    have hfz5_2 := blk_frozen HGz5 2
    clear HGz5 hgz5
    go_enter Tryd.func111, Tryd.ntmps111
    go_wp2
    first | go_end0 | ((try simp only [Exit.inBlock, Exit.then]); refine bodyPost_ret (results_none rfl _ _ _) rfl ?_)
    exact ⟨by first | rfl | (simp [errW_none, errW_some] <;> rfl) | (simp [*, errW_none, errW_some] <;> rfl), by repeat (first | (with_reducible first | exact HI0.out | apply IsS125.alloc | apply IsS125.drewN | apply IsS125.drew | apply IsS125.set_0 | apply IsS125.set_1 | apply IsS125.set_2) | exact HI0.out), by repeat (first | (with_reducible first | exact HB.out | apply below_alloc | apply pw_below_drewN | apply below_drew1 | refine below_set ?_ (IsS125.ge HI0.out)) | exact HB.out), by repeat (first | (with_reducible first | exact HK.out | apply KeepBut.set_ | apply keep_drewN | apply keep_drew | apply keep_alloc) | exact HK.out)⟩
end Go.Proofs.YteilnbnnhocciaaDoor.K

/-! K32 -/
namespace Go.Proofs.YteilnbnnhocciaaDoor.K
open Go.RowKit Go.Proofs.YteilnbnnhocciaaDoorW.PrintWords Go.Proofs.YteilnbnnhocciaaDoorW.PrintLast Go.Proofs.YteilnbnnhocciaaDoorW.PrintMore Go.Proofs.YteilnbnnhocciaaDoorM
attribute [local go_sem] max2_int min2_int max_two min_two max_three min_three max_four min_four
set_option linter.unusedVariables false
set_option linter.unusedSimpArgs false
def bourseref03_Reader_Num.nx (n u c : Int) : Int := IntKind.u64.wrap (n + IntKind.u64.wrap (u * (c % 128)))
def bourseref03_Reader_Num.l : Nat → ByteArray → Nat → Int → Int → Nat → Option (Int × Int × Int)
  | 0, _, _, _, _, _ => none
  | k + 1, s, p, n, u, i =>
    if s.size ≤ p + i then some (0, 0, 3) else
    if i = 9 ∧ 1 < bt s (p + i : Nat) then some (0, 0, 8) else
    if 127 < bt s (p + i : Nat) then bourseref03_Reader_Num.l k s p (bourseref03_Reader_Num.nx n u (bt s (p + i : Nat))) (IntKind.u64.wrap (u * 128)) (i + 1) else
    if bt s (p + i : Nat) = 0 ∧ 0 < i then some (0, 0, 4) else
    some (bourseref03_Reader_Num.nx n u (bt s (p + i : Nat)), ((p + (i + 1) : Nat) : Int), 0)
def bourseref03_Reader_Num.r (s : ByteArray) (p : Int) (t : Int × Int × Int) : Int × ByteArray × Int × Int := if t.2.2 = 0 then (t.1, s, t.2.1, 0) else (0, s, p, t.2.2)
def bourseref03_Reader_Num.f (s0_0 : ByteArray) (s0_1 : Int) (s0_2 : Int) : Option (Int × ByteArray × Int × Int) :=
  if s0_2 = 0 then (if 0 ≤ s0_1 ∧ s0_1 ≤ s0_0.size ∧ s0_0.size ≤ 140737488351232 then (bourseref03_Reader_Num.l 11 s0_0 s0_1.toNat 0 1 0).bind fun t => some (bourseref03_Reader_Num.r s0_0 s0_1 t) else none) else some (0, s0_0, s0_1, s0_2)
def bourseref03_Reader_Num.Post (w0 w : World) (g : Nat) (R : Int × ByteArray × Int × Int) (e : Ending) (w' : World) : Prop :=
  e = .returned (.int .u64 R.1) ∧ IsS125 w0 w' g R.2.1 R.2.2.1 R.2.2.2 ∧ Below w0.heap.size w0 w' ∧ KeepBut w w' g none
theorem bourseref03_Reader_Num.fin {w0 w : World} {g : Nat} {s : ByteArray} {p : Int} (hI : IsS125 w0 w g s p 0) (hB : Below w0.heap.size w0 w) (m : Nat) : IsS125 w0 (w.drewN m) g s p 0 ∧ Below w0.heap.size w0 (w.drewN m) ∧ KeepBut w (w.drewN m) g none :=
  ⟨hI.drewN m, pw_below_drewN hB m, keep_drewN (KeepBut.refl w g none) m⟩
theorem bourseref03_Reader_Num.fin2 {w0 w : World} {g : Nat} {s : ByteArray} {p : Int} (hI : IsS125 w0 w g s p 0) (hB : Below w0.heap.size w0 w) (m : Nat) (e : Int) : IsS125 w0 ((w.drewN m).setCell ⟨g, 2, none⟩ (.int .i64 e)) g s p e ∧ Below w0.heap.size w0 ((w.drewN m).setCell ⟨g, 2, none⟩ (.int .i64 e)) ∧ KeepBut w ((w.drewN m).setCell ⟨g, 2, none⟩ (.int .i64 e)) g none :=
  ⟨(hI.drewN m).set_2 e, below_set (pw_below_drewN hB m) hI.ge, (keep_drewN (KeepBut.refl w g none) m).set_ _ _⟩
theorem bourseref03_Reader_Num.fin1 {w0 w : World} {g : Nat} {s : ByteArray} {p : Int} (hI : IsS125 w0 w g s p 0) (hB : Below w0.heap.size w0 w) (m : Nat) (q : Int) : IsS125 w0 ((w.drewN m).setCell ⟨g, 1, none⟩ (.int .i64 q)) g s q 0 ∧ Below w0.heap.size w0 ((w.drewN m).setCell ⟨g, 1, none⟩ (.int .i64 q)) ∧ KeepBut w ((w.drewN m).setCell ⟨g, 1, none⟩ (.int .i64 q)) g none :=
  ⟨(hI.drewN m).set_1 q, below_set (pw_below_drewN hB m) hI.ge, (keep_drewN (KeepBut.refl w g none) m).set_ _ _⟩
def bourseref03_Reader_Num.J (w : World) (s0 : ByteArray) (p : Nat) (t : Int × Int × Int) (n u i : Value) (w' : World) : Prop :=
  Drawn0 w w' ∧ ∃ (k : Nat) (nv uv : Int) (iv : Nat), n = .int .u64 nv ∧ u = .int .u64 uv ∧ i = .int .i64 (iv : Nat) ∧ iv ≤ 9 ∧ bourseref03_Reader_Num.l k s0 p nv uv iv = some t ∧ k + iv = 11
set_option maxHeartbeats 2000000 in
set_option maxRecDepth 100000 in
theorem bourseref03_Reader_Num.walk (g : Nat) (s0 : ByteArray) (p : Nat) (t : Int × Int × Int) (w0 w : World) (hI : IsS125 w0 w g s0 p 0) (hB : Below w0.heap.size w0 w) (h : bourseref03_Reader_Num.l 11 s0 p 0 1 0 = some t) (hp : p ≤ s0.size) (hs : s0.size ≤ 140737488351232) :
    Calls Tryd.prog 62 #[.pointer (some ⟨g, 0, none⟩)] w (bourseref03_Reader_Num.Post w0 w g (bourseref03_Reader_Num.r s0 p t)) := by
  have H := Hush.mk h
  clear h
  have c0 := cellS125_0 hI.1
  have c1 := cellS125_1 hI.1
  have c2 := cellS125_2 hI.1
  have z1 := blk_frozen hI.1 1
  have z2 := blk_frozen hI.1 2
  have hI' := Hush.mk hI
  have hB' := Hush.mk hB
  clear hI hB
  go_enter Tryd.func62, Tryd.ntmps62
  go_wp2
  go_loopw [3, 4, 5, 6] (fun n u i _ wr => bourseref03_Reader_Num.J w s0 p t n u i wr) (fun _ _ i _ _ => 10 - (intOf i).toNat)
  case atStart => exact ⟨Drawn0.refl _, 11, 0, 1, 0, rfl, rfl, rfl, by omega, H.out, rfl⟩
  case round =>
    obtain ⟨hd, k, n, u, i, rfl, rfl, rfl, hi9, hl, hk⟩ := hrel
    obtain ⟨k, rfl⟩ : ∃ k', k = k' + 1 := ⟨k - 1, by omega⟩
    rw [bourseref03_Reader_Num.l] at hl
    obtain ⟨nd, rfl⟩ := hd.out
    by_cases hlt : s0.size ≤ p + i
    · rw [if_pos hlt] at hl
      have HL := Hush.mk hl
      clear hl
      go_wp2
      go_quiet (fail)
      go_wp2
      go_ret
      obtain rfl := Option.some.inj HL.out
      exact ⟨rfl, fin2 hI'.out hB'.out _ _⟩
    · rw [if_neg hlt] at hl
      have HL := Hush.mk hl
      clear hl
      have hlt' : p + i < s0.size := by omega
      have hw1 : IntKind.i64.wrap ((p : Int) + (i : Int)) = (p : Int) + (i : Int) := IntWalk.i64_in _ (by omega)
      have hw2 : IntKind.i64.wrap ((p : Int) + (i : Int) + 1) = (p : Int) + (i : Int) + 1 := IntWalk.i64_in _ (by omega)
      have hix : ∀ W, (Instr.index 9 (.string s0) (.int .i64 ((p : Int) + (i : Int)))).run Tryd.prog W = .ok (.int .u8 (bt s0 ((p + i : Nat) : Int))) W := by
        intro W
        rw [run_index_string W 9 s0 .i64 _ Tryd.underlying9, dif_pos ⟨by omega, by omega⟩, bt_at s0 ((p : Int) + (i : Int)) (by omega)]
        simp
      obtain ⟨c, hc⟩ : ∃ c, c = bt s0 ((p + i : Nat) : Int) := ⟨_, rfl⟩
      have hcr := bt_range s0 ((p + i : Nat) : Int)
      rw [← hc] at hix hcr
      have HL' : Hush ((if i = 9 ∧ 1 < c then some (0, 0, 8) else if 127 < c then bourseref03_Reader_Num.l k s0 p (bourseref03_Reader_Num.nx n u c) (IntKind.u64.wrap (u * 128)) (i + 1) else if c = 0 ∧ 0 < i then some (0, 0, 4) else some (bourseref03_Reader_Num.nx n u c, ((p + (i + 1) : Nat) : Int), 0)) = some t) := ⟨by rw [hc]; exact HL.out⟩
      clear HL hc
      obtain ⟨hc0, hc255⟩ := hcr
      by_cases hA : i = 9 ∧ 1 < c
      · have HL : Hush (some ((0 : Int), (0 : Int), (8 : Int)) = some t) := ⟨(if_pos hA).symm.trans HL'.out⟩
        have e9 : ((i : Int) == 9) = true := by rw [hA.1]; rfl
        have e1 := hA.2
        clear HL' hA
        go_wp2
        go_quiet (fail)
        go_wp2
        go_quiet (fail)
        go_wp2
        go_ret
        obtain rfl := Option.some.inj HL.out
        exact ⟨rfl, fin2 hI'.out hB'.out _ _⟩
      have HL2 := Hush.mk ((if_neg hA).symm.trans HL'.out)
      clear HL'
      by_cases hB : 127 < c
      · have HL := Hush.mk ((if_pos hB).symm.trans HL2.out)
        have e9 : ((i : Int) == 9) = false := by simp; omega
        have hi8 : i ≤ 8 := by omega
        clear HL2 hA
        go_wp2
        go_quiet (fail)
        go_wp2
        go_quiet (fail)
        go_wp2
        go_roundw
        case rel => exact ⟨⟨⟨_, rfl⟩⟩, k, _, _, i + 1, rfl, rfl, by go_num, by omega, HL.out, by omega⟩
        case measure => simp [intOf]; omega
      have HL3 := Hush.mk ((if_neg hB).symm.trans HL2.out)
      clear HL2
      have hBc : c ≤ 127 := by omega
      clear hB
      by_cases hC : c = 0 ∧ 0 < i
      · have HL := Hush.mk ((if_pos hC).symm.trans HL3.out)
        have e0 : (c == 0) = true := by rw [hC.1]; rfl
        have e1 : c ≤ 1 := by omega
        have ei := hC.2
        clear HL3 hA hC
        go_wp2
        go_quiet (fail)
        go_wp2
        go_quiet (fail)
        go_wp2
        all_goals
          go_ret
          obtain rfl := Option.some.inj HL.out
          exact ⟨rfl, fin2 hI'.out hB'.out _ _⟩
      have HL := Hush.mk ((if_neg hC).symm.trans HL3.out)
      clear HL3
      by_cases hD : c = 0
      · have e0 : (c == 0) = true := by rw [hD]; rfl
        have e1 : c ≤ 1 := by omega
        have ei : i ≤ 0 := by omega
        have e9 : ((i : Int) == 9) = false := by simp; omega
        clear hA hC hD
        go_wp2
        go_quiet (fail)
        go_wp2
        go_quiet (fail)
        go_wp2
        go_ret
        obtain rfl := Option.some.inj HL.out
        exact ⟨rfl, fin1 hI'.out hB'.out _ _⟩
      have e0 : (c == 0) = false := by simp [hD]
      by_cases hE : i = 9
      · have e9 : ((i : Int) == 9) = true := by rw [hE]; rfl
        have e1 : c ≤ 1 := by omega
        clear hA hC hD hE
        go_wp2
        go_quiet (fail)
        go_wp2
        go_quiet (fail)
        go_wp2
        go_ret
        obtain rfl := Option.some.inj HL.out
        exact ⟨rfl, fin1 hI'.out hB'.out _ _⟩
      · have e9 : ((i : Int) == 9) = false := by simp; omega
        clear hA hC hD hE
        go_wp2
        go_quiet (fail)
        go_wp2
        go_quiet (fail)
        go_wp2
        go_ret
        obtain rfl := Option.some.inj HL.out
        exact ⟨rfl, fin1 hI'.out hB'.out _ _⟩
theorem bourseref03_Reader_Num.calls (g : Nat) (s0_0 : ByteArray) (s0_1 : Int) (s0_2 : Int) (r1 : Int) (r2 : ByteArray) (r3 : Int) (r4 : Int) (w0 w : World) (hI : IsS125 w0 w g s0_0 s0_1 s0_2) (hB : Below w0.heap.size w0 w) (h : bourseref03_Reader_Num.f s0_0 s0_1 s0_2 = some (r1, r2, r3, r4)) :
    Calls Tryd.prog 62 #[.pointer (some ⟨g, 0, none⟩)] w fun e w' => e = .returned (.int .u64 r1) ∧ IsS125 w0 w' g r2 r3 r4 ∧ Below w0.heap.size w0 w' ∧ KeepBut w w' g none := by
  unfold bourseref03_Reader_Num.f at h
  by_cases hz : s0_2 = 0
  · subst hz
    rw [if_pos rfl] at h
    by_cases hc : 0 ≤ s0_1 ∧ s0_1 ≤ s0_0.size ∧ s0_0.size ≤ 140737488351232
    · rw [if_pos hc] at h
      obtain ⟨t, ht, h⟩ := Option.bind_eq_some_iff.mp h
      obtain ⟨h0, h1, h2⟩ := hc
      obtain ⟨p, rfl⟩ := Int.eq_ofNat_of_zero_le h0
      have hw := bourseref03_Reader_Num.walk g s0_0 p t w0 w hI hB (by simpa using ht) (by omega) h2
      rw [Option.some.inj h] at hw
      exact hw
    · rw [if_neg hc] at h
      cases h
  · rw [if_neg hz] at h
    simp only [Option.some.injEq, Prod.mk.injEq] at h
    obtain ⟨rfl, rfl, rfl, rfl⟩ := h
    have c2 := cellS125_2 hI.1
    have hz1 : (s0_2 == 0) = false := by simpa using hz
    have hz2 : (s0_2 != 0) = true := by simpa using hz
    have hI' := Hush.mk hI
    have hB' := Hush.mk hB
    clear hI hB hz
    go_enter Tryd.func62, Tryd.ntmps62
    go_wp2
    go_ret
    exact ⟨rfl, hI'.out, hB'.out, KeepBut.refl _ _ _⟩
end Go.Proofs.YteilnbnnhocciaaDoor.K

/-! K33 -/
namespace Go.Proofs.YteilnbnnhocciaaDoor.K
open Go.RowKit Go.Proofs.YteilnbnnhocciaaDoorW.PrintWords Go.Proofs.YteilnbnnhocciaaDoorW.PrintLast Go.Proofs.YteilnbnnhocciaaDoorW.PrintMore Go.Proofs.YteilnbnnhocciaaDoorM
attribute [local go_sem] max2_int min2_int max_two min_two max_three min_three max_four min_four
set_option linter.unusedVariables false
set_option linter.unusedSimpArgs false
def bourseref12_count.f (s0_0 : ByteArray) (s0_1 : Int) (s0_2 : Int) : Option (Int × ByteArray × Int × Int) := (bourseref03_Reader_Num.f s0_0 s0_1 s0_2).bind fun bt228 => (if bt228.1 > 200 then ((bourseref03_Reader_Fail.f bt228.2.1 bt228.2.2.1 bt228.2.2.2 6).bind fun bt232 => (some (bt228.1, bt232.1, bt232.2.1, bt232.2.2))) else (some (bt228.1, bt228.2.1, bt228.2.2.1, bt228.2.2.2)))
set_option maxHeartbeats 8000000 in
set_option maxRecDepth 100000 in
theorem bourseref12_count.calls (g : Nat) (s0_0 : ByteArray) (s0_1 : Int) (s0_2 : Int) (r1 : Int) (r2 : ByteArray) (r3 : Int) (r4 : Int) (w0 w : World) (hI : IsS125 w0 w g s0_0 s0_1 s0_2) (hB : Below w0.heap.size w0 w) (h : bourseref12_count.f s0_0 s0_1 s0_2 = some (r1, r2, r3, r4)) :
    Calls Tryd.prog 63 #[.pointer (some ⟨g, 0, none⟩)] w fun e w' => e = .returned (.int .u64 r1) ∧ IsS125 w0 w' g r2 r3 r4 ∧ Below w0.heap.size w0 w' ∧ KeepBut w w' g none := by
  have HI0 := Aside0.mk hI
  have HK := Aside0.mk (KeepBut.refl w g none)
  have HL := Aside0.mk hB.size
  clear hI
  have HW0 := Aside0.mk hB.size
  have HB := Aside0.mk hB
  clear hB
  have H : ((bourseref03_Reader_Num.f s0_0 s0_1 s0_2).bind fun bt228 => (if bt228.1 > 200 then ((bourseref03_Reader_Fail.f bt228.2.1 bt228.2.2.1 bt228.2.2.2 6).bind fun bt232 => (some (bt228.1, bt232.1, bt232.2.1, bt232.2.2))) else (some (bt228.1, bt228.2.1, bt228.2.2.1, bt228.2.2.2)))) = some (r1, r2, r3, r4) := h
  clear h
  replace H := Option.bind_eq_some_iff.mp H
  obtain ⟨⟨t228, t229, t230, t231⟩, A20, H⟩ := H
  replace H : (if t228 > 200 then ((bourseref03_Reader_Fail.f t229 t230 t231 6).bind fun bt232 => (some (t228, bt232.1, bt232.2.1, bt232.2.2))) else (some (t228, t229, t230, t231))) = some (r1, r2, r3, r4) := H
  have A2 := Aside0.mk A20
  clear A20
  by_cases c3 : t228 > 200
  · rw [if_pos c3] at H
    have c3b0 : decide (200 < t228) = true := decide_eq_true c3
    clear c3
    replace H := Option.bind_eq_some_iff.mp H
    obtain ⟨⟨t232, t233, t234⟩, A40, H⟩ := H
    replace H : (some (t228, t232, t233, t234)) = some (r1, r2, r3, r4) := H
    have A4 := Aside0.mk A40
    clear A40
    simp only [Option.some.injEq, Prod.mk.injEq] at H
    obtain ⟨rfl, rfl, rfl, rfl⟩ := H
    go_enter Tryd.func63, Tryd.ntmps63
    go_wp2_with (first | ((with_reducible refine gate_callee (f := 62) rfl ?_); refine goesL_ (some 5) rfl rfl Tryd.func62 (by kernel_rfl) rfl #[.pointer (some ⟨g, 0, none⟩)] rfl (by (try simp only [List.map_toArray, List.map_cons, List.map_nil]); first | done | rfl | (simp only [List.length_drop, List.length_take]; rfl)) ?_; (with_reducible refine (bourseref03_Reader_Num.calls g s0_0 s0_1 s0_2 t228 t229 t230 t231 w0 _ ?side1 ?side2 A2.out).mono ?_); (case side1 => repeat (first | (with_reducible first | exact HI0.out | apply IsS125.alloc | apply IsS125.drewN | apply IsS125.drew | apply IsS125.set_0 | apply IsS125.set_1 | apply IsS125.set_2) | exact HI0.out)); (case side2 => repeat (first | (with_reducible first | exact HB.out | apply below_alloc | apply pw_below_drewN | apply below_drew1 | refine below_set ?_ (IsS125.ge HI0.out)) | exact HB.out)); rintro e w5 ⟨rfl, hi, hb, hk⟩; refine ⟨_, rfl, ?_⟩; have n0_ := Aside0.mk (KeepBut.trans (by repeat (first | (with_reducible first | exact HK.out | apply KeepBut.set_ | apply keep_drewN | apply keep_drew | apply keep_alloc) | exact HK.out)) hk (.inl rfl)); have n1_ := Aside0.mk (hb); have n2_ := Aside0.mk (hi); clear HK; clear HB; clear HI0; have HK := n0_; have HB := n1_; have HI0 := n2_; clear n0_ n1_ n2_; (try clear hb); (try clear hb2); (try clear hk); (try clear hi)) | ((with_reducible refine gate_callee (f := 111) rfl ?_); refine goesL_ (some 9) rfl rfl Tryd.func111 (by kernel_rfl) rfl #[.pointer (some ⟨g, 0, none⟩), .int .i64 6] rfl (by (try simp only [List.map_toArray, List.map_cons, List.map_nil]); first | done | rfl | (simp only [List.length_drop, List.length_take]; rfl)) ?_; (with_reducible refine (bourseref03_Reader_Fail.calls g t229 t230 t231 6 t232 t233 t234 w0 _ ?side1 ?side2 A4.out).mono ?_); (case side1 => repeat (first | (with_reducible first | exact HI0.out | apply IsS125.alloc | apply IsS125.drewN | apply IsS125.drew | apply IsS125.set_0 | apply IsS125.set_1 | apply IsS125.set_2) | exact HI0.out)); (case side2 => repeat (first | (with_reducible first | exact HB.out | apply below_alloc | apply pw_below_drewN | apply below_drew1 | refine below_set ?_ (IsS125.ge HI0.out)) | exact HB.out)); rintro e w6 ⟨rfl, hi, hb, hk⟩; refine ⟨_, rfl, ?_⟩; have n0_ := Aside0.mk (KeepBut.trans (by repeat (first | (with_reducible first | exact HK.out | apply KeepBut.set_ | apply keep_drewN | apply keep_drew | apply keep_alloc) | exact HK.out)) hk (.inl rfl)); have n1_ := Aside0.mk (hb); have n2_ := Aside0.mk (hi); clear HK; clear HB; clear HI0; have HK := n0_; have HB := n1_; have HI0 := n2_; clear n0_ n1_ n2_; (try clear hb); (try clear hb2); (try clear hk); (try clear hi)))
    go_ret
    exact ⟨by first | rfl | (simp [errW_none, errW_some] <;> rfl) | (simp [*, errW_none, errW_some] <;> rfl), by repeat (first | (with_reducible first | exact HI0.out | apply IsS125.alloc | apply IsS125.drewN | apply IsS125.drew | apply IsS125.set_0 | apply IsS125.set_1 | apply IsS125.set_2) | exact HI0.out), by repeat (first | (with_reducible first | exact HB.out | apply below_alloc | apply pw_below_drewN | apply below_drew1 | refine below_set ?_ (IsS125.ge HI0.out)) | exact HB.out), by repeat (first | (with_reducible first | exact HK.out | apply KeepBut.set_ | apply keep_drewN | apply keep_drew | apply keep_alloc) | exact HK.out)⟩
  · rw [if_neg c3] at H
    have c3b0 : decide (200 < t228) = false := decide_eq_false c3
    clear c3
    simp only [Option.some.injEq, Prod.mk.injEq] at H
    obtain ⟨rfl, rfl, rfl, rfl⟩ := H
    go_enter Tryd.func63, Tryd.ntmps63
    go_wp2_with (first | ((with_reducible refine gate_callee (f := 62) rfl ?_); refine goesL_ (some 5) rfl rfl Tryd.func62 (by kernel_rfl) rfl #[.pointer (some ⟨g, 0, none⟩)] rfl (by (try simp only [List.map_toArray, List.map_cons, List.map_nil]); first | done | rfl | (simp only [List.length_drop, List.length_take]; rfl)) ?_; (with_reducible refine (bourseref03_Reader_Num.calls g s0_0 s0_1 s0_2 t228 t229 t230 t231 w0 _ ?side1 ?side2 A2.out).mono ?_); (case side1 => repeat (first | (with_reducible first | exact HI0.out | apply IsS125.alloc | apply IsS125.drewN | apply IsS125.drew | apply IsS125.set_0 | apply IsS125.set_1 | apply IsS125.set_2) | exact HI0.out)); (case side2 => repeat (first | (with_reducible first | exact HB.out | apply below_alloc | apply pw_below_drewN | apply below_drew1 | refine below_set ?_ (IsS125.ge HI0.out)) | exact HB.out)); rintro e w7 ⟨rfl, hi, hb, hk⟩; refine ⟨_, rfl, ?_⟩; have n0_ := Aside0.mk (KeepBut.trans (by repeat (first | (with_reducible first | exact HK.out | apply KeepBut.set_ | apply keep_drewN | apply keep_drew | apply keep_alloc) | exact HK.out)) hk (.inl rfl)); have n1_ := Aside0.mk (hb); have n2_ := Aside0.mk (hi); clear HK; clear HB; clear HI0; have HK := n0_; have HB := n1_; have HI0 := n2_; clear n0_ n1_ n2_; (try clear hb); (try clear hb2); (try clear hk); (try clear hi)))
    go_ret
    exact ⟨by first | rfl | (simp [errW_none, errW_some] <;> rfl) | (simp [*, errW_none, errW_some] <;> rfl), by repeat (first | (with_reducible first | exact HI0.out | apply IsS125.alloc | apply IsS125.drewN | apply IsS125.drew | apply IsS125.set_0 | apply IsS125.set_1 | apply IsS125.set_2) | exact HI0.out), by repeat (first | (with_reducible first | exact HB.out | apply below_alloc | apply pw_below_drewN | apply below_drew1 | refine below_set ?_ (IsS125.ge HI0.out)) | exact HB.out), by repeat (first | (with_reducible first | exact HK.out | apply KeepBut.set_ | apply keep_drewN | apply keep_drew | apply keep_alloc) | exact HK.out)⟩
end Go.Proofs.YteilnbnnhocciaaDoor.K

/-! K34 -/
namespace Go.Proofs.YteilnbnnhocciaaDoor.K
open Go.RowKit Go.Proofs.YteilnbnnhocciaaDoorW.PrintWords Go.Proofs.YteilnbnnhocciaaDoorW.PrintLast Go.Proofs.YteilnbnnhocciaaDoorW.PrintMore Go.Proofs.YteilnbnnhocciaaDoorM
attribute [local go_sem] max2_int min2_int max_two min_two max_three min_three max_four min_four
set_option linter.unusedVariables false
set_option linter.unusedSimpArgs false
def bourseref12_level.f (s0_0 : ByteArray) (s0_1 : Int) (s0_2 : Int) : Option (Int × ByteArray × Int × Int) := (bourseref03_Reader_Num.f s0_0 s0_1 s0_2).bind fun bt235 => (if bt235.1 > 3 then ((bourseref03_Reader_Fail.f bt235.2.1 bt235.2.2.1 bt235.2.2.2 21).bind fun bt239 => (some (0, bt239.1, bt239.2.1, bt239.2.2))) else (some (wrap64 (bt235.1), bt235.2.1, bt235.2.2.1, bt235.2.2.2)))
set_option maxHeartbeats 8000000 in
set_option maxRecDepth 100000 in
theorem bourseref12_level.calls (g : Nat) (s0_0 : ByteArray) (s0_1 : Int) (s0_2 : Int) (r1 : Int) (r2 : ByteArray) (r3 : Int) (r4 : Int) (w0 w : World) (hI : IsS125 w0 w g s0_0 s0_1 s0_2) (hB : Below w0.heap.size w0 w) (h : bourseref12_level.f s0_0 s0_1 s0_2 = some (r1, r2, r3, r4)) :
    Calls Tryd.prog 64 #[.pointer (some ⟨g, 0, none⟩)] w fun e w' => e = .returned (.int .i64 r1) ∧ IsS125 w0 w' g r2 r3 r4 ∧ Below w0.heap.size w0 w' ∧ KeepBut w w' g none := by
  have HI0 := Aside0.mk hI
  have HK := Aside0.mk (KeepBut.refl w g none)
  have HL := Aside0.mk hB.size
  clear hI
  have HW0 := Aside0.mk hB.size
  have HB := Aside0.mk hB
  clear hB
  have H : ((bourseref03_Reader_Num.f s0_0 s0_1 s0_2).bind fun bt235 => (if bt235.1 > 3 then ((bourseref03_Reader_Fail.f bt235.2.1 bt235.2.2.1 bt235.2.2.2 21).bind fun bt239 => (some (0, bt239.1, bt239.2.1, bt239.2.2))) else (some (wrap64 (bt235.1), bt235.2.1, bt235.2.2.1, bt235.2.2.2)))) = some (r1, r2, r3, r4) := h
  clear h
  replace H := Option.bind_eq_some_iff.mp H
  obtain ⟨⟨t235, t236, t237, t238⟩, A20, H⟩ := H
  replace H : (if t235 > 3 then ((bourseref03_Reader_Fail.f t236 t237 t238 21).bind fun bt239 => (some (0, bt239.1, bt239.2.1, bt239.2.2))) else (some (wrap64 (t235), t236, t237, t238))) = some (r1, r2, r3, r4) := H
  have A2 := Aside0.mk A20
  clear A20
  by_cases c3 : t235 > 3
  · rw [if_pos c3] at H
    have c3b0 : decide (3 < t235) = true := decide_eq_true c3
    clear c3
    replace H := Option.bind_eq_some_iff.mp H
    obtain ⟨⟨t239, t240, t241⟩, A40, H⟩ := H
    replace H : (some (0, t239, t240, t241)) = some (r1, r2, r3, r4) := H
    have A4 := Aside0.mk A40
    clear A40
    simp only [Option.some.injEq, Prod.mk.injEq] at H
    obtain ⟨rfl, rfl, rfl, rfl⟩ := H
    go_enter Tryd.func64, Tryd.ntmps64
    go_wp2_with (first | ((with_reducible refine gate_callee (f := 62) rfl ?_); refine goesL_ (some 5) rfl rfl Tryd.func62 (by kernel_rfl) rfl #[.pointer (some ⟨g, 0, none⟩)] rfl (by (try simp only [List.map_toArray, List.map_cons, List.map_nil]); first | done | rfl | (simp only [List.length_drop, List.length_take]; rfl)) ?_; (with_reducible refine (bourseref03_Reader_Num.calls g s0_0 s0_1 s0_2 t235 t236 t237 t238 w0 _ ?side1 ?side2 A2.out).mono ?_); (case side1 => repeat (first | (with_reducible first | exact HI0.out | apply IsS125.alloc | apply IsS125.drewN | apply IsS125.drew | apply IsS125.set_0 | apply IsS125.set_1 | apply IsS125.set_2) | exact HI0.out)); (case side2 => repeat (first | (with_reducible first | exact HB.out | apply below_alloc | apply pw_below_drewN | apply below_drew1 | refine below_set ?_ (IsS125.ge HI0.out)) | exact HB.out)); rintro e w5 ⟨rfl, hi, hb, hk⟩; refine ⟨_, rfl, ?_⟩; have n0_ := Aside0.mk (KeepBut.trans (by repeat (first | (with_reducible first | exact HK.out | apply KeepBut.set_ | apply keep_drewN | apply keep_drew | apply keep_alloc) | exact HK.out)) hk (.inl rfl)); have n1_ := Aside0.mk (hb); have n2_ := Aside0.mk (hi); clear HK; clear HB; clear HI0; have HK := n0_; have HB := n1_; have HI0 := n2_; clear n0_ n1_ n2_; (try clear hb); (try clear hb2); (try clear hk); (try clear hi)) | ((with_reducible refine gate_callee (f := 111) rfl ?_); refine goesL_ (some 9) rfl rfl Tryd.func111 (by kernel_rfl) rfl #[.pointer (some ⟨g, 0, none⟩), .int .i64 21] rfl (by (try simp only [List.map_toArray, List.map_cons, List.map_nil]); first | done | rfl | (simp only [List.length_drop, List.length_take]; rfl)) ?_; (with_reducible refine (bourseref03_Reader_Fail.calls g t236 t237 t238 21 t239 t240 t241 w0 _ ?side1 ?side2 A4.out).mono ?_); (case side1 => repeat (first | (with_reducible first | exact HI0.out | apply IsS125.alloc | apply IsS125.drewN | apply IsS125.drew | apply IsS125.set_0 | apply IsS125.set_1 | apply IsS125.set_2) | exact HI0.out)); (case side2 => repeat (first | (with_reducible first | exact HB.out | apply below_alloc | apply pw_below_drewN | apply below_drew1 | refine below_set ?_ (IsS125.ge HI0.out)) | exact HB.out)); rintro e w6 ⟨rfl, hi, hb, hk⟩; refine ⟨_, rfl, ?_⟩; have n0_ := Aside0.mk (KeepBut.trans (by repeat (first | (with_reducible first | exact HK.out | apply KeepBut.set_ | apply keep_drewN | apply keep_drew | apply keep_alloc) | exact HK.out)) hk (.inl rfl)); have n1_ := Aside0.mk (hb); have n2_ := Aside0.mk (hi); clear HK; clear HB; clear HI0; have HK := n0_; have HB := n1_; have HI0 := n2_; clear n0_ n1_ n2_; (try clear hb); (try clear hb2); (try clear hk); (try clear hi)))
    go_ret
    exact ⟨by first | rfl | (simp [errW_none, errW_some] <;> rfl) | (simp [*, errW_none, errW_some] <;> rfl), by repeat (first | (with_reducible first | exact HI0.out | apply IsS125.alloc | apply IsS125.drewN | apply IsS125.drew | apply IsS125.set_0 | apply IsS125.set_1 | apply IsS125.set_2) | exact HI0.out), by repeat (first | (with_reducible first | exact HB.out | apply below_alloc | apply pw_below_drewN | apply below_drew1 | refine below_set ?_ (IsS125.ge HI0.out)) | exact HB.out), by repeat (first | (with_reducible first | exact HK.out | apply KeepBut.set_ | apply keep_drewN | apply keep_drew | apply keep_alloc) | exact HK.out)⟩
  · rw [if_neg c3] at H
    have c3b0 : decide (3 < t235) = false := decide_eq_false c3
    clear c3
    simp only [Option.some.injEq, Prod.mk.injEq] at H
    obtain ⟨rfl, rfl, rfl, rfl⟩ := H
    go_enter Tryd.func64, Tryd.ntmps64
    go_wp2_with (first | ((with_reducible refine gate_callee (f := 62) rfl ?_); refine goesL_ (some 5) rfl rfl Tryd.func62 (by kernel_rfl) rfl #[.pointer (some ⟨g, 0, none⟩)] rfl (by (try simp only [List.map_toArray, List.map_cons, List.map_nil]); first | done | rfl | (simp only [List.length_drop, List.length_take]; rfl)) ?_; (with_reducible refine (bourseref03_Reader_Num.calls g s0_0 s0_1 s0_2 t235 t236 t237 t238 w0 _ ?side1 ?side2 A2.out).mono ?_); (case side1 => repeat (first | (with_reducible first | exact HI0.out | apply IsS125.alloc | apply IsS125.drewN | apply IsS125.drew | apply IsS125.set_0 | apply IsS125.set_1 | apply IsS125.set_2) | exact HI0.out)); (case side2 => repeat (first | (with_reducible first | exact HB.out | apply below_alloc | apply pw_below_drewN | apply below_drew1 | refine below_set ?_ (IsS125.ge HI0.out)) | exact HB.out)); rintro e w7 ⟨rfl, hi, hb, hk⟩; refine ⟨_, rfl, ?_⟩; have n0_ := Aside0.mk (KeepBut.trans (by repeat (first | (with_reducible first | exact HK.out | apply KeepBut.set_ | apply keep_drewN | apply keep_drew | apply keep_alloc) | exact HK.out)) hk (.inl rfl)); have n1_ := Aside0.mk (hb); have n2_ := Aside0.mk (hi); clear HK; clear HB; clear HI0; have HK := n0_; have HB := n1_; have HI0 := n2_; clear n0_ n1_ n2_; (try clear hb); (try clear hb2); (try clear hk); (try clear hi)))
    go_ret
    exact ⟨by first | rfl | (simp [errW_none, errW_some] <;> rfl) | (simp [*, errW_none, errW_some] <;> rfl), by repeat (first | (with_reducible first | exact HI0.out | apply IsS125.alloc | apply IsS125.drewN | apply IsS125.drew | apply IsS125.set_0 | apply IsS125.set_1 | apply IsS125.set_2) | exact HI0.out), by repeat (first | (with_reducible first | exact HB.out | apply below_alloc | apply pw_below_drewN | apply below_drew1 | refine below_set ?_ (IsS125.ge HI0.out)) | exact HB.out), by repeat (first | (with_reducible first | exact HK.out | apply KeepBut.set_ | apply keep_drewN | apply keep_drew | apply keep_alloc) | exact HK.out)⟩
end Go.Proofs.YteilnbnnhocciaaDoor.K

/-! K35 -/
namespace Go.Proofs.YteilnbnnhocciaaDoor.K
open Go.RowKit Go.Proofs.YteilnbnnhocciaaDoorW.PrintWords Go.Proofs.YteilnbnnhocciaaDoorW.PrintLast Go.Proofs.YteilnbnnhocciaaDoorW.PrintMore Go.Proofs.YteilnbnnhocciaaDoorM
attribute [local go_sem] max2_int min2_int max_two min_two max_three min_three max_four min_four
set_option linter.unusedVariables false
set_option linter.unusedSimpArgs false
def bourseref03_Reader_Take.f (s0_0 : ByteArray) (s0_1 : Int) (s0_2 : Int) (a1 : Int) : Option (ByteArray × ByteArray × Int × Int) := if s0_2 = 0 then (if a1 < 0 then (some ((⟨#[]⟩ : ByteArray), s0_0, s0_1, 3)) else (if a1 > (wrap64 ((s0_0.size : Int) - s0_1)) then (some ((⟨#[]⟩ : ByteArray), s0_0, s0_1, 3)) else (if 0 ≤ s0_1 then (if s0_1 ≤ (wrap64 (s0_1 + a1)) then (if (wrap64 (s0_1 + a1)) ≤ (s0_0.size : Int) then (some (s0_0.extract (s0_1 : Int).toNat ((wrap64 (s0_1 + a1)) : Int).toNat, s0_0, wrap64 (s0_1 + a1), s0_2)) else (none)) else (none)) else (none)))) else (some ((⟨#[]⟩ : ByteArray), s0_0, s0_1, s0_2))
set_option maxHeartbeats 8000000 in
set_option maxRecDepth 100000 in
theorem bourseref03_Reader_Take.calls (g : Nat) (s0_0 : ByteArray) (s0_1 : Int) (s0_2 : Int) (a1 : Int) (r1 : ByteArray) (r2 : ByteArray) (r3 : Int) (r4 : Int) (w0 w : World) (hI : IsS125 w0 w g s0_0 s0_1 s0_2) (hB : Below w0.heap.size w0 w) (h : bourseref03_Reader_Take.f s0_0 s0_1 s0_2 a1 = some (r1, r2, r3, r4)) :
    Calls Tryd.prog 112 #[.pointer (some ⟨g, 0, none⟩), .int .i64 a1] w fun e w' => e = .returned (.string r1) ∧ IsS125 w0 w' g r2 r3 r4 ∧ Below w0.heap.size w0 w' ∧ KeepBut w w' g none := by
  have HI0 := Aside0.mk hI
  have HK := Aside0.mk (KeepBut.refl w g none)
  have HL := Aside0.mk hB.size
  clear hI
  have HW0 := Aside0.mk hB.size
  have HB := Aside0.mk hB
  clear hB
  have H : (if s0_2 = 0 then (if a1 < 0 then (some ((⟨#[]⟩ : ByteArray), s0_0, s0_1, 3)) else (if a1 > (wrap64 ((s0_0.size : Int) - s0_1)) then (some ((⟨#[]⟩ : ByteArray), s0_0, s0_1, 3)) else (if 0 ≤ s0_1 then (if s0_1 ≤ (wrap64 (s0_1 + a1)) then (if (wrap64 (s0_1 + a1)) ≤ (s0_0.size : Int) then (some (s0_0.extract (s0_1 : Int).toNat ((wrap64 (s0_1 + a1)) : Int).toNat, s0_0, wrap64 (s0_1 + a1), s0_2)) else (none)) else (none)) else (none)))) else (some ((⟨#[]⟩ : ByteArray), s0_0, s0_1, s0_2))) = some (r1, r2, r3, r4) := h
  clear h
  by_cases c3 : s0_2 = 0
  · rw [if_pos c3] at H
    have c3b0 : (s0_2 == 0) = true := beq_iff_eq.mpr c3
    have c3b1 : (s0_2 != 0) = false := bne_eq_false_iff_eq.mpr c3
    clear c3
    by_cases c4 : a1 < 0
    · rw [if_pos c4] at H
      have c4b0 : decide (a1 < 0) = true := decide_eq_true c4
      clear c4
      simp only [Option.some.injEq, Prod.mk.injEq] at H
      obtain ⟨rfl, rfl, rfl, rfl⟩ := H
      obtain ⟨HGz5, hgz5⟩ := HI0.out
      have hcz5_0 := cellS125_0 HGz5
      have hcz5_1 := cellS125_1 HGz5
      have hcz5_2 := cellS125_2 HGz5
      have hfz5_0 := blk_frozen HGz5 0
      have hfz5_1 := blk_frozen HGz5 1
      have hfz5_2 := blk_frozen HGz5 2
      clear HGz5 hgz5
      go_enter Tryd.func112, Tryd.ntmps112
      go_wp2
      repeat (go_quiet (fail); try go_wp2)
      go_ret
      exact ⟨by first | rfl | (simp [errW_none, errW_some] <;> rfl) | (simp [*, errW_none, errW_some] <;> rfl), by repeat (first | (with_reducible first | exact HI0.out | apply IsS125.alloc | apply IsS125.drewN | apply IsS125.drew | apply IsS125.set_0 | apply IsS125.set_1 | apply IsS125.set_2) | exact HI0.out), by repeat (first | (with_reducible first | exact HB.out | apply below_alloc | apply pw_below_drewN | apply below_drew1 | refine below_set ?_ (IsS125.ge HI0.out)) | exact HB.out), by repeat (first | (with_reducible first | exact HK.out | apply KeepBut.set_ | apply keep_drewN | apply keep_drew | apply keep_alloc) | exact HK.out)⟩
    · rw [if_neg c4] at H
      have c4b0 : decide (a1 < 0) = false := decide_eq_false c4
      clear c4
      by_cases c6 : a1 > (wrap64 ((s0_0.size : Int) - s0_1))
      · rw [if_pos c6] at H
        have c6b0 : decide ((wrap64 ((s0_0.size : Int) - s0_1)) < a1) = true := decide_eq_true c6
        clear c6
        simp only [Option.some.injEq, Prod.mk.injEq] at H
        obtain ⟨rfl, rfl, rfl, rfl⟩ := H
        obtain ⟨HGz7, hgz7⟩ := HI0.out
        have hcz7_0 := cellS125_0 HGz7
        have hcz7_1 := cellS125_1 HGz7
        have hcz7_2 := cellS125_2 HGz7
        have hfz7_0 := blk_frozen HGz7 0
        have hfz7_1 := blk_frozen HGz7 1
        have hfz7_2 := blk_frozen HGz7 2
        clear HGz7 hgz7
        go_enter Tryd.func112, Tryd.ntmps112
        go_wp2
        repeat (go_quiet (fail); try go_wp2)
        go_ret
        exact ⟨by first | rfl | (simp [errW_none, errW_some] <;> rfl) | (simp [*, errW_none, errW_some] <;> rfl), by repeat (first | (with_reducible first | exact HI0.out | apply IsS125.alloc | apply IsS125.drewN | apply IsS125.drew | apply IsS125.set_0 | apply IsS125.set_1 | apply IsS125.set_2) | exact HI0.out), by repeat (first | (with_reducible first | exact HB.out | apply below_alloc | apply pw_below_drewN | apply below_drew1 | refine below_set ?_ (IsS125.ge HI0.out)) | exact HB.out), by repeat (first | (with_reducible first | exact HK.out | apply KeepBut.set_ | apply keep_drewN | apply keep_drew | apply keep_alloc) | exact HK.out)⟩
      · rw [if_neg c6] at H
        have c6b0 : decide ((wrap64 ((s0_0.size : Int) - s0_1)) < a1) = false := decide_eq_false c6
        clear c6
        by_cases c8 : 0 ≤ s0_1
        · rw [if_pos c8] at H
          have c8b0 := eq_true c8
          have c8b1 : decide (0 ≤ s0_1) = true := decide_eq_true c8
          clear c8
          by_cases c9 : s0_1 ≤ (wrap64 (s0_1 + a1))
          · rw [if_pos c9] at H
            have c9b0 := eq_true c9
            have c9b1 : decide (s0_1 ≤ (wrap64 (s0_1 + a1))) = true := decide_eq_true c9
            by_cases c10 : (wrap64 (s0_1 + a1)) ≤ (s0_0.size : Int)
            · rw [if_pos c10] at H
              have c10b0 := eq_true c10
              have c10b1 : decide ((wrap64 (s0_1 + a1)) ≤ (s0_0.size : Int)) = true := decide_eq_true c10
              simp only [Option.some.injEq, Prod.mk.injEq] at H
              obtain ⟨rfl, rfl, rfl, rfl⟩ := H
              obtain ⟨HGz11, hgz11⟩ := HI0.out
              have hcz11_0 := cellS125_0 HGz11
              have hcz11_1 := cellS125_1 HGz11
              have hcz11_2 := cellS125_2 HGz11
              have hfz11_0 := blk_frozen HGz11 0
              have hfz11_1 := blk_frozen HGz11 1
              have hfz11_2 := blk_frozen HGz11 2
              clear HGz11 hgz11
              go_enter Tryd.func112, Tryd.ntmps112
              go_wp2
              repeat (go_quiet (fail); try go_wp2)
              go_ret
              exact ⟨by first | rfl | (simp [errW_none, errW_some] <;> rfl) | (simp [*, errW_none, errW_some] <;> rfl), by repeat (first | (with_reducible first | exact HI0.out | apply IsS125.alloc | apply IsS125.drewN | apply IsS125.drew | apply IsS125.set_0 | apply IsS125.set_1 | apply IsS125.set_2) | exact HI0.out), by repeat (first | (with_reducible first | exact HB.out | apply below_alloc | apply pw_below_drewN | apply below_drew1 | refine below_set ?_ (IsS125.ge HI0.out)) | exact HB.out), by repeat (first | (with_reducible first | exact HK.out | apply KeepBut.set_ | apply keep_drewN | apply keep_drew | apply keep_alloc) | exact HK.out)⟩
            · rw [if_neg c10] at H
              exact absurd H (by simp)
          · rw [if_neg c9] at H
            exact absurd H (by simp)
        · rw [if_neg c8] at H
          exact absurd H (by simp)
  · rw [if_neg c3] at H
    have c3b0 : (s0_2 == 0) = false := beq_eq_false_iff_ne.mpr c3
    have c3b1 : (s0_2 != 0) = true := bne_iff_ne.mpr c3
    simp only [Option.some.injEq, Prod.mk.injEq] at H
    obtain ⟨rfl, rfl, rfl, rfl⟩ := H
    obtain ⟨HGz12, hgz12⟩ := HI0.out
    have hcz12_0 := cellS125_0 HGz12
    have hcz12_1 := cellS125_1 HGz12
    have hcz12_2 := cellS125_2 HGz12
    have hfz12_0 := blk_frozen HGz12 0
    have hfz12_1 := blk_frozen HGz12 1
    have hfz12_2 := blk_frozen HGz12 2
    clear HGz12 hgz12
    go_enter Tryd.func112, Tryd.ntmps112
    go_wp2
    repeat (go_quiet (fail); try go_wp2)
    go_ret
    exact ⟨by first | rfl | (simp [errW_none, errW_some] <;> rfl) | (simp [*, errW_none, errW_some] <;> rfl), by repeat (first | (with_reducible first | exact HI0.out | apply IsS125.alloc | apply IsS125.drewN | apply IsS125.drew | apply IsS125.set_0 | apply IsS125.set_1 | apply IsS125.set_2) | exact HI0.out), by repeat (first | (with_reducible first | exact HB.out | apply below_alloc | apply pw_below_drewN | apply below_drew1 | refine below_set ?_ (IsS125.ge HI0.out)) | exact HB.out), by repeat (first | (with_reducible first | exact HK.out | apply KeepBut.set_ | apply keep_drewN | apply keep_drew | apply keep_alloc) | exact HK.out)⟩
end Go.Proofs.YteilnbnnhocciaaDoor.K

/-! K36 -/
namespace Go.Proofs.YteilnbnnhocciaaDoor.K
open Go.RowKit Go.Proofs.YteilnbnnhocciaaDoorW.PrintWords Go.Proofs.YteilnbnnhocciaaDoorW.PrintLast Go.Proofs.YteilnbnnhocciaaDoorW.PrintMore Go.Proofs.YteilnbnnhocciaaDoorM
attribute [local go_sem] max2_int min2_int max_two min_two max_three min_three max_four min_four
set_option linter.unusedVariables false
set_option linter.unusedSimpArgs false
def bourseref03_Reader_Text.j0 : Nat → Int → Int → ByteArray → Int → Int → Option (ByteArray × ByteArray × Int × Int)
  | 0, _, _, _, _, _ => none
  | k + 1, x1, x5, x1000, x1001, x1002 => if x5 > (IntKind.u64.wrap (x1)) then ((bourseref03_Reader_Fail.f x1000 x1001 x1002 5).bind fun bt246 => (some ((⟨#[]⟩ : ByteArray), bt246.1, bt246.2.1, bt246.2.2))) else ((bourseref03_Reader_Take.f x1000 x1001 x1002 (wrap64 (x5))).bind fun bt249 => (some (bt249.1, bt249.2.1, bt249.2.2.1, bt249.2.2.2)))
def bourseref03_Reader_Text.f (k : Nat) (s0_0 : ByteArray) (s0_1 : Int) (s0_2 : Int) (a1 : Int) : Option (ByteArray × ByteArray × Int × Int) := (bourseref03_Reader_Num.f s0_0 s0_1 s0_2).bind fun bt242 => (if a1 < 0 then (bourseref03_Reader_Text.j0 k 0 bt242.1 bt242.2.1 bt242.2.2.1 bt242.2.2.2) else (bourseref03_Reader_Text.j0 k a1 bt242.1 bt242.2.1 bt242.2.2.1 bt242.2.2.2))
set_option maxHeartbeats 8000000 in
set_option maxRecDepth 100000 in
theorem bourseref03_Reader_Text.calls (k : Nat) (g : Nat) (s0_0 : ByteArray) (s0_1 : Int) (s0_2 : Int) (a1 : Int) (r1 : ByteArray) (r2 : ByteArray) (r3 : Int) (r4 : Int) (w0 w : World) (hI : IsS125 w0 w g s0_0 s0_1 s0_2) (hB : Below w0.heap.size w0 w) (h : bourseref03_Reader_Text.f k s0_0 s0_1 s0_2 a1 = some (r1, r2, r3, r4)) :
    Calls Tryd.prog 65 #[.pointer (some ⟨g, 0, none⟩), .int .i64 a1] w fun e w' => e = .returned (.string r1) ∧ IsS125 w0 w' g r2 r3 r4 ∧ Below w0.heap.size w0 w' ∧ KeepBut w w' g none := by
  have HI0 := Aside0.mk hI
  have HK := Aside0.mk (KeepBut.refl w g none)
  have HL := Aside0.mk hB.size
  clear hI
  have HW0 := Aside0.mk hB.size
  have HB := Aside0.mk hB
  clear hB
  have H : ((bourseref03_Reader_Num.f s0_0 s0_1 s0_2).bind fun bt242 => (if a1 < 0 then (bourseref03_Reader_Text.j0 k 0 bt242.1 bt242.2.1 bt242.2.2.1 bt242.2.2.2) else (bourseref03_Reader_Text.j0 k a1 bt242.1 bt242.2.1 bt242.2.2.1 bt242.2.2.2))) = some (r1, r2, r3, r4) := h
  clear h
  replace H := Option.bind_eq_some_iff.mp H
  obtain ⟨⟨t242, t243, t244, t245⟩, A30, H⟩ := H
  replace H : (if a1 < 0 then (bourseref03_Reader_Text.j0 k 0 t242 t243 t244 t245) else (bourseref03_Reader_Text.j0 k a1 t242 t243 t244 t245)) = some (r1, r2, r3, r4) := H
  have A3 := Aside0.mk A30
  clear A30
  have HC4 := Aside0.mk H
  clear H
  go_enter Tryd.func65, Tryd.ntmps65
  go_upto_if 9 with (first | ((with_reducible refine gate_callee (f := 62) rfl ?_); refine goesL_ (some 7) rfl rfl Tryd.func62 (by kernel_rfl) rfl #[.pointer (some ⟨g, 0, none⟩)] rfl (by (try simp only [List.map_toArray, List.map_cons, List.map_nil]); first | done | rfl | (simp only [List.length_drop, List.length_take]; rfl)) ?_; (with_reducible refine (bourseref03_Reader_Num.calls g s0_0 s0_1 s0_2 t242 t243 t244 t245 w0 _ ?side1 ?side2 A3.out).mono ?_); (case side1 => repeat (first | (with_reducible first | exact HI0.out | apply IsS125.alloc | apply IsS125.drewN | apply IsS125.drew | apply IsS125.set_0 | apply IsS125.set_1 | apply IsS125.set_2) | exact HI0.out)); (case side2 => repeat (first | (with_reducible first | exact HB.out | apply below_alloc | apply pw_below_drewN | apply below_drew1 | refine below_set ?_ (IsS125.ge HI0.out)) | exact HB.out)); rintro e w5 ⟨rfl, hi, hb, hk⟩; refine ⟨_, rfl, ?_⟩; have n0_ := Aside0.mk (KeepBut.trans (by repeat (first | (with_reducible first | exact HK.out | apply KeepBut.set_ | apply keep_drewN | apply keep_drew | apply keep_alloc) | exact HK.out)) hk (.inl rfl)); have n1_ := Aside0.mk (hb); have n2_ := Aside0.mk (hi); clear HK; clear HB; clear HI0; have HK := n0_; have HB := n1_; have HI0 := n2_; clear n0_ n1_ n2_; (try clear hb); (try clear hb2); (try clear hk); (try clear hi)))
  (try simp only [Act.put, List.setIfInBounds_toArray, List.set_cons_zero, List.set_cons_succ])
  go_cut [1] (fun v1 wc => ∃ (kq : Nat) (x1_3 : Int), v1 = .int .i64 x1_3 ∧ Aside0 (bourseref03_Reader_Text.j0 kq x1_3 t242 t243 t244 t245 = some (r1, r2, r3, r4)) ∧ Aside0 (kq ≤ k) ∧ Aside0 (IsS125 w0 wc g t243 t244 t245) ∧ Aside0 (KeepBut w wc g none) ∧ Aside0 (Below w0.heap.size w0 wc))
  case first =>
    have H := HC4.out
    clear HC4
    by_cases c6 : a1 < 0
    · rw [if_pos c6] at H
      have c6b0 : decide (a1 < 0) = true := decide_eq_true c6
      clear c6
      (first | rw [c6b0] | (simp only [i64_w, i32_w]; rw [c6b0]) | skip)
      have H' := Aside0.mk H
      clear H
      go_wp2
      go_meet
      case rel => exact ⟨_, (0), (by first | rfl | (simp; done) | (simp [*]; done)), H', ⟨by first | omega | exact Nat.le_refl _⟩, ⟨by repeat (first | (with_reducible first | exact HI0.out | apply IsS125.alloc | apply IsS125.drewN | apply IsS125.drew | apply IsS125.set_0 | apply IsS125.set_1 | apply IsS125.set_2) | exact HI0.out)⟩, ⟨by repeat (first | (with_reducible first | exact HK.out | apply KeepBut.set_ | apply keep_drewN | apply keep_drew | apply keep_alloc) | exact HK.out)⟩, ⟨by repeat (first | (with_reducible first | exact HB.out | apply below_alloc | apply pw_below_drewN | apply below_drew1 | refine below_set ?_ (IsS125.ge HI0.out)) | exact HB.out)⟩⟩
    · rw [if_neg c6] at H
      have c6b0 : decide (a1 < 0) = false := decide_eq_false c6
      clear c6
      (first | rw [c6b0] | (simp only [i64_w, i32_w]; rw [c6b0]) | skip)
      have H' := Aside0.mk H
      clear H
      go_wp2
      go_meet
      case rel => exact ⟨_, (a1), (by first | rfl | (simp; done) | (simp [*]; done)), H', ⟨by first | omega | exact Nat.le_refl _⟩, ⟨by repeat (first | (with_reducible first | exact HI0.out | apply IsS125.alloc | apply IsS125.drewN | apply IsS125.drew | apply IsS125.set_0 | apply IsS125.set_1 | apply IsS125.set_2) | exact HI0.out)⟩, ⟨by repeat (first | (with_reducible first | exact HK.out | apply KeepBut.set_ | apply keep_drewN | apply keep_drew | apply keep_alloc) | exact HK.out)⟩, ⟨by repeat (first | (with_reducible first | exact HB.out | apply below_alloc | apply pw_below_drewN | apply below_drew1 | refine below_set ?_ (IsS125.ge HI0.out)) | exact HB.out)⟩⟩
  case rest =>
    clear HC4
    try clear p2
    try clear c6
    try clear c6b0
    obtain ⟨kq, x1_3, rfl, HA, HJ3, HI0, HK, HB⟩ := hcut
    cases kq with
    | zero => exact absurd HA.out (by simp [bourseref03_Reader_Text.j0])
    | succ kj3 =>
      have H := HA.out
      clear HA
      simp only [bourseref03_Reader_Text.j0] at H
      by_cases c7 : t242 > (IntKind.u64.wrap (x1_3))
      · rw [if_pos c7] at H
        have c7b0 : decide ((IntKind.u64.wrap (x1_3)) < t242) = true := decide_eq_true c7
        clear c7
        replace H := Option.bind_eq_some_iff.mp H
        obtain ⟨⟨t246, t247, t248⟩, A80, H⟩ := H
        replace H : (some ((⟨#[]⟩ : ByteArray), t246, t247, t248)) = some (r1, r2, r3, r4) := H
        have A8 := Aside0.mk A80
        clear A80
        simp only [Option.some.injEq, Prod.mk.injEq] at H
        obtain ⟨rfl, rfl, rfl, rfl⟩ := H
        go_wp2_with (first | ((with_reducible refine gate_callee (f := 111) rfl ?_); refine goesL_ (some 15) rfl rfl Tryd.func111 (by kernel_rfl) rfl #[.pointer (some ⟨g, 0, none⟩), .int .i64 5] rfl (by (try simp only [List.map_toArray, List.map_cons, List.map_nil]); first | done | rfl | (simp only [List.length_drop, List.length_take]; rfl)) ?_; (with_reducible refine (bourseref03_Reader_Fail.calls g t243 t244 t245 5 t246 t247 t248 w0 _ ?side1 ?side2 A8.out).mono ?_); (case side1 => repeat (first | (with_reducible first | exact HI0.out | apply IsS125.alloc | apply IsS125.drewN | apply IsS125.drew | apply IsS125.set_0 | apply IsS125.set_1 | apply IsS125.set_2) | exact HI0.out)); (case side2 => repeat (first | (with_reducible first | exact HB.out | apply below_alloc | apply pw_below_drewN | apply below_drew1 | refine below_set ?_ (IsS125.ge HI0.out)) | exact HB.out)); rintro e w9 ⟨rfl, hi, hb, hk⟩; refine ⟨_, rfl, ?_⟩; have n0_ := Aside0.mk (KeepBut.trans (by repeat (first | (with_reducible first | exact HK.out | apply KeepBut.set_ | apply keep_drewN | apply keep_drew | apply keep_alloc) | exact HK.out)) hk (.inl rfl)); have n1_ := Aside0.mk (hb); have n2_ := Aside0.mk (hi); clear HK; clear HB; clear HI0; have HK := n0_; have HB := n1_; have HI0 := n2_; clear n0_ n1_ n2_; (try clear hb); (try clear hb2); (try clear hk); (try clear hi)))
        go_ret
        exact ⟨by first | rfl | (simp [errW_none, errW_some] <;> rfl) | (simp [*, errW_none, errW_some] <;> rfl), by repeat (first | (with_reducible first | exact HI0.out | apply IsS125.alloc | apply IsS125.drewN | apply IsS125.drew | apply IsS125.set_0 | apply IsS125.set_1 | apply IsS125.set_2) | exact HI0.out), by repeat (first | (with_reducible first | exact HB.out | apply below_alloc | apply pw_below_drewN | apply below_drew1 | refine below_set ?_ (IsS125.ge HI0.out)) | exact HB.out), by repeat (first | (with_reducible first | exact HK.out | apply KeepBut.set_ | apply keep_drewN | apply keep_drew | apply keep_alloc) | exact HK.out)⟩
      · rw [if_neg c7] at H
        have c7b0 : decide ((IntKind.u64.wrap (x1_3)) < t242) = false := decide_eq_false c7
        clear c7
        replace H := Option.bind_eq_some_iff.mp H
        obtain ⟨⟨t249, t250, t251, t252⟩, A100, H⟩ := H
        replace H : (some (t249, t250, t251, t252)) = some (r1, r2, r3, r4) := H
        have A10 := Aside0.mk A100
        clear A100
        simp only [Option.some.injEq, Prod.mk.injEq] at H
        obtain ⟨rfl, rfl, rfl, rfl⟩ := H
        go_wp2_with (first | ((with_reducible refine gate_callee (f := 112) rfl ?_); refine goesL_ (some 19) rfl rfl Tryd.func112 (by kernel_rfl) rfl #[.pointer (some ⟨g, 0, none⟩), .int .i64 (wrap64 (t242))] rfl (by (try simp only [List.map_toArray, List.map_cons, List.map_nil]); first | done | rfl | (simp only [List.length_drop, List.length_take]; rfl)) ?_; (with_reducible refine (bourseref03_Reader_Take.calls g t243 t244 t245 (wrap64 (t242)) t249 t250 t251 t252 w0 _ ?side1 ?side2 A10.out).mono ?_); (case side1 => repeat (first | (with_reducible first | exact HI0.out | apply IsS125.alloc | apply IsS125.drewN | apply IsS125.drew | apply IsS125.set_0 | apply IsS125.set_1 | apply IsS125.set_2) | exact HI0.out)); (case side2 => repeat (first | (with_reducible first | exact HB.out | apply below_alloc | apply pw_below_drewN | apply below_drew1 | refine below_set ?_ (IsS125.ge HI0.out)) | exact HB.out)); rintro e w11 ⟨rfl, hi, hb, hk⟩; refine ⟨_, rfl, ?_⟩; have n0_ := Aside0.mk (KeepBut.trans (by repeat (first | (with_reducible first | exact HK.out | apply KeepBut.set_ | apply keep_drewN | apply keep_drew | apply keep_alloc) | exact HK.out)) hk (.inl rfl)); have n1_ := Aside0.mk (hb); have n2_ := Aside0.mk (hi); clear HK; clear HB; clear HI0; have HK := n0_; have HB := n1_; have HI0 := n2_; clear n0_ n1_ n2_; (try clear hb); (try clear hb2); (try clear hk); (try clear hi)))
        go_ret
        exact ⟨by first | rfl | (simp [errW_none, errW_some] <;> rfl) | (simp [*, errW_none, errW_some] <;> rfl), by repeat (first | (with_reducible first | exact HI0.out | apply IsS125.alloc | apply IsS125.drewN | apply IsS125.drew | apply IsS125.set_0 | apply IsS125.set_1 | apply IsS125.set_2) | exact HI0.out), by repeat (first | (with_reducible first | exact HB.out | apply below_alloc | apply pw_below_drewN | apply below_drew1 | refine below_set ?_ (IsS125.ge HI0.out)) | exact HB.out), by repeat (first | (with_reducible first | exact HK.out | apply KeepBut.set_ | apply keep_drewN | apply keep_drew | apply keep_alloc) | exact HK.out)⟩
end Go.Proofs.YteilnbnnhocciaaDoor.K

/-! K37 -/
namespace Go.Proofs.YteilnbnnhocciaaDoor.K
open Go.RowKit Go.Proofs.YteilnbnnhocciaaDoorW.PrintWords Go.Proofs.YteilnbnnhocciaaDoorW.PrintLast Go.Proofs.YteilnbnnhocciaaDoorW.PrintMore Go.Proofs.YteilnbnnhocciaaDoorM
attribute [local go_sem] max2_int min2_int max_two min_two max_three min_three max_four min_four
set_option linter.unusedVariables false
set_option linter.unusedSimpArgs false
def bourseref03_Reader_End.f (s0_0 : ByteArray) (s0_1 : Int) (s0_2 : Int) : Option (Int × ByteArray × Int × Int) := if s0_2 = 0 then (if s0_1 < (s0_0.size : Int) then (some (4, s0_0, s0_1, s0_2)) else (some (s0_2, s0_0, s0_1, s0_2))) else (some (s0_2, s0_0, s0_1, s0_2))
set_option maxHeartbeats 8000000 in
set_option maxRecDepth 100000 in
theorem bourseref03_Reader_End.calls (g : Nat) (s0_0 : ByteArray) (s0_1 : Int) (s0_2 : Int) (r1 : Int) (r2 : ByteArray) (r3 : Int) (r4 : Int) (w0 w : World) (hI : IsS125 w0 w g s0_0 s0_1 s0_2) (hB : Below w0.heap.size w0 w) (h : bourseref03_Reader_End.f s0_0 s0_1 s0_2 = some (r1, r2, r3, r4)) :
    Calls Tryd.prog 66 #[.pointer (some ⟨g, 0, none⟩)] w fun e w' => e = .returned (.int .i64 r1) ∧ IsS125 w0 w' g r2 r3 r4 ∧ Below w0.heap.size w0 w' ∧ KeepBut w w' g none := by
  have HI0 := Aside0.mk hI
  have HK := Aside0.mk (KeepBut.refl w g none)
  have HL := Aside0.mk hB.size
  clear hI
  have HW0 := Aside0.mk hB.size
  have HB := Aside0.mk hB
  clear hB
  have H : (if s0_2 = 0 then (if s0_1 < (s0_0.size : Int) then (some (4, s0_0, s0_1, s0_2)) else (some (s0_2, s0_0, s0_1, s0_2))) else (some (s0_2, s0_0, s0_1, s0_2))) = some (r1, r2, r3, r4) := h
  clear h
  by_cases c2 : s0_2 = 0
  · rw [if_pos c2] at H
    have c2b0 : (s0_2 == 0) = true := beq_iff_eq.mpr c2
    have c2b1 : (s0_2 != 0) = false := bne_eq_false_iff_eq.mpr c2
    clear c2
    by_cases c3 : s0_1 < (s0_0.size : Int)
    · rw [if_pos c3] at H
      have c3b0 : decide (s0_1 < (s0_0.size : Int)) = true := decide_eq_true c3
      clear c3
      simp only [Option.some.injEq, Prod.mk.injEq] at H
      obtain ⟨rfl, rfl, rfl, rfl⟩ := H
      obtain ⟨HGz4, hgz4⟩ := HI0.out
      have hcz4_0 := cellS125_0 HGz4
      have hcz4_1 := cellS125_1 HGz4
      have hcz4_2 := cellS125_2 HGz4
      have hfz4_0 := blk_frozen HGz4 0
      have hfz4_1 := blk_frozen HGz4 1
      have hfz4_2 := blk_frozen HGz4 2
      clear HGz4 hgz4
      go_enter Tryd.func66, Tryd.ntmps66
      go_wp2
      repeat (go_quiet (fail); try go_wp2)
      go_ret
      exact ⟨by first | rfl | (simp [errW_none, errW_some] <;> rfl) | (simp [*, errW_none, errW_some] <;> rfl), by repeat (first | (with_reducible first | exact HI0.out | apply IsS125.alloc | apply IsS125.drewN | apply IsS125.drew | apply IsS125.set_0 | apply IsS125.set_1 | apply IsS125.set_2) | exact HI0.out), by repeat (first | (with_reducible first | exact HB.out | apply below_alloc | apply pw_below_drewN | apply below_drew1 | refine below_set ?_ (IsS125.ge HI0.out)) | exact HB.out), by repeat (first | (with_reducible first | exact HK.out | apply KeepBut.set_ | apply keep_drewN | apply keep_drew | apply keep_alloc) | exact HK.out)⟩
    · rw [if_neg c3] at H
      have c3b0 : decide (s0_1 < (s0_0.size : Int)) = false := decide_eq_false c3
      clear c3
      simp only [Option.some.injEq, Prod.mk.injEq] at H
      obtain ⟨rfl, rfl, rfl, rfl⟩ := H
      obtain ⟨HGz5, hgz5⟩ := HI0.out
      have hcz5_0 := cellS125_0 HGz5
      have hcz5_1 := cellS125_1 HGz5
      have hcz5_2 := cellS125_2 HGz5
      have hfz5_0 := blk_frozen HGz5 0
      have hfz5_1 := blk_frozen HGz5 1
      have hfz5_2 := blk_frozen HGz5 2
      clear HGz5 hgz5
      go_enter Tryd.func66, Tryd.ntmps66
      go_wp2
      repeat (go_quiet (fail); try go_wp2)
      go_ret
      exact ⟨by first | rfl | (simp [errW_none, errW_some] <;> rfl) | (simp [*, errW_none, errW_some] <;> rfl), by repeat (first | (with_reducible first | exact HI0.out | apply IsS125.alloc | apply IsS125.drewN | apply IsS125.drew | apply IsS125.set_0 | apply IsS125.set_1 | apply IsS125.set_2) | exact HI0.out), by repeat (first | (with_reducible first | exact HB.out | apply below_alloc | apply pw_below_drewN | apply below_drew1 | refine below_set ?_ (IsS125.ge HI0.out)) | exact HB.out), by repeat (first | (with_reducible first | exact HK.out | apply KeepBut.set_ | apply keep_drewN | apply keep_drew | apply keep_alloc) | exact HK.out)⟩
  · rw [if_neg c2] at H
    have c2b0 : (s0_2 == 0) = false := beq_eq_false_iff_ne.mpr c2
    have c2b1 : (s0_2 != 0) = true := bne_iff_ne.mpr c2
    simp only [Option.some.injEq, Prod.mk.injEq] at H
    obtain ⟨rfl, rfl, rfl, rfl⟩ := H
    obtain ⟨HGz6, hgz6⟩ := HI0.out
    have hcz6_0 := cellS125_0 HGz6
    have hcz6_1 := cellS125_1 HGz6
    have hcz6_2 := cellS125_2 HGz6
    have hfz6_0 := blk_frozen HGz6 0
    have hfz6_1 := blk_frozen HGz6 1
    have hfz6_2 := blk_frozen HGz6 2
    clear HGz6 hgz6
    go_enter Tryd.func66, Tryd.ntmps66
    go_wp2
    repeat (go_quiet (fail); try go_wp2)
    go_ret
    exact ⟨by first | rfl | (simp [errW_none, errW_some] <;> rfl) | (simp [*, errW_none, errW_some] <;> rfl), by repeat (first | (with_reducible first | exact HI0.out | apply IsS125.alloc | apply IsS125.drewN | apply IsS125.drew | apply IsS125.set_0 | apply IsS125.set_1 | apply IsS125.set_2) | exact HI0.out), by repeat (first | (with_reducible first | exact HB.out | apply below_alloc | apply pw_below_drewN | apply below_drew1 | refine below_set ?_ (IsS125.ge HI0.out)) | exact HB.out), by repeat (first | (with_reducible first | exact HK.out | apply KeepBut.set_ | apply keep_drewN | apply keep_drew | apply keep_alloc) | exact HK.out)⟩
end Go.Proofs.YteilnbnnhocciaaDoor.K

/-! K38 -/
namespace Go.Proofs.YteilnbnnhocciaaDoor.K
open Go.RowKit Go.Proofs.YteilnbnnhocciaaDoorW.PrintWords Go.Proofs.YteilnbnnhocciaaDoorW.PrintLast Go.Proofs.YteilnbnnhocciaaDoorW.PrintMore Go.Proofs.YteilnbnnhocciaaDoorM
attribute [local go_sem] max2_int min2_int max_two min_two max_three min_three max_four min_four
set_option linter.unusedVariables false
set_option linter.unusedSimpArgs false
def bourseref12_cells114 (a : S114) : List Value := [.int .i64 a.f0, .int .u64 a.f1.f0, .int .u64 a.f1.f1, .int .u64 a.f1.f2, .string a.f1.f3, .string a.f1.f4]
def bourseref12_cells115 (a : S115) : List Value := [.int .i64 a.f0, .int .u64 a.f1]
def bourseref12_Parse.come (s : ByteArray) (p e : Int) : Option (S114 × ByteArray × Int × Int) :=
  (bourseref12_level.f s p e).bind fun t0 => (bourseref03_Reader_Num.f t0.2.1 t0.2.2.1 t0.2.2.2).bind fun t1 => (bourseref03_Reader_Num.f t1.2.1 t1.2.2.1 t1.2.2.2).bind fun t2 => (bourseref03_Reader_Num.f t2.2.1 t2.2.2.1 t2.2.2.2).bind fun t3 =>
    (bourseref03_Reader_Text.f 9 t3.2.1 t3.2.2.1 t3.2.2.2 200).bind fun t4 => (bourseref03_Reader_Text.f 9 t4.2.1 t4.2.2.1 t4.2.2.2 200).bind fun t5 => some (⟨t0.1, ⟨t1.1, t2.1, t3.1, t4.1, t5.1⟩⟩, t5.2.1, t5.2.2.1, t5.2.2.2)
def bourseref12_Parse.gone (s : ByteArray) (p e : Int) : Option (S115 × ByteArray × Int × Int) :=
  (bourseref12_level.f s p e).bind fun t0 => (bourseref03_Reader_Num.f t0.2.1 t0.2.2.1 t0.2.2.2).bind fun t1 => some (⟨t0.1, t1.1⟩, t1.2.1, t1.2.2.1, t1.2.2.2)
def bourseref12_Parse.comes : Nat → ByteArray → Int → Int → List S114 → Option (List S114 × ByteArray × Int × Int)
  | 0, s, p, e, acc => some (acc, s, p, e)
  | m + 1, s, p, e, acc => if e = 0 then (bourseref12_Parse.come s p e).bind fun t => if acc.length < 2199023255552 then bourseref12_Parse.comes m t.2.1 t.2.2.1 t.2.2.2 (acc ++ [t.1]) else none else some (acc, s, p, e)
def bourseref12_Parse.gones : Nat → ByteArray → Int → Int → List S115 → Option (List S115 × ByteArray × Int × Int)
  | 0, s, p, e, acc => some (acc, s, p, e)
  | m + 1, s, p, e, acc => if e = 0 then (bourseref12_Parse.gone s p e).bind fun t => if acc.length < 8796093022208 then bourseref12_Parse.gones m t.2.1 t.2.2.1 t.2.2.2 (acc ++ [t.1]) else none else some (acc, s, p, e)
def bourseref12_Parse.fin (lg nx sq : Int) (c : List S114) (g : List S115) (err cv : Int) : Int × Int × Int × List S114 × List S115 × Int :=
  if err = 0 then (if cv = 0 then (lg, nx, sq, c, g, 0) else (0, 0, 0, [], [], cv)) else (0, 0, 0, [], [], err)
def bourseref12_Parse.f (a0 : ByteArray) : Option (Int × Int × Int × (List (S114)) × (List (S115)) × Int) :=
  (bourseref03_Reader_Num.f a0 0 0).bind fun t1 => (bourseref03_Reader_Num.f t1.2.1 t1.2.2.1 t1.2.2.2).bind fun t2 => (bourseref03_Reader_Num.f t2.2.1 t2.2.2.1 t2.2.2.2).bind fun t3 =>
    (bourseref12_count.f t3.2.1 t3.2.2.1 t3.2.2.2).bind fun n => if 0 ≤ n.1 ∧ n.1 ≤ 18446744073709551615 then (bourseref12_Parse.comes n.1.toNat n.2.1 n.2.2.1 n.2.2.2 []).bind fun c =>
      (bourseref12_count.f c.2.1 c.2.2.1 c.2.2.2).bind fun n2 => if 0 ≤ n2.1 ∧ n2.1 ≤ 18446744073709551615 then (bourseref12_Parse.gones n2.1.toNat n2.2.1 n2.2.2.1 n2.2.2.2 []).bind fun g =>
        (bourseref03_Reader_End.f g.2.1 g.2.2.1 g.2.2.2).bind fun z => if z.1 = 0 then (bourseref12_Edit_Check.f 2000 t1.1 t2.1 t3.1 c.1 g.1).bind fun cv => some (bourseref12_Parse.fin t1.1 t2.1 t3.1 c.1 g.1 z.1 cv) else some (bourseref12_Parse.fin t1.1 t2.1 t3.1 c.1 g.1 z.1 0) else none else none
def bourseref12_zero36 : Array Value := #[.int .u64 0, .int .u64 0, .int .u64 0, .slice none 0 0, .slice none 0 0]
structure bourseref12_Parse.St (w : World) (g b2 b5 : Nat) (s : ByteArray) (p e : Int) (C5 : Array Value) (v3 : Value) (l3 : List S114) (v4 : Value) (l4 : List S115) (W : World) : Prop where
  rd : IsS125 w W g s p e
  h2 : W.heap[b2]? = some (.cells bourseref12_zero36 36 (0, 0))
  h5 : W.heap[b5]? = some (.cells C5 36 (0, 0))
  o3 : W.ownsRow w.heap.size 114 6 v3 l3.length (l3.flatMap bourseref12_cells114)
  o4 : W.ownsRow w.heap.size 115 2 v4 l4.length (l4.flatMap bourseref12_cells115)
  bel : Below w.heap.size w W
  ge2 : w.heap.size ≤ b2
  ge5 : w.heap.size ≤ b5
  ne25 : b2 ≠ b5
section
variable {w W W' : World} {g b2 b5 : Nat} {s s' : ByteArray} {p e p' e' : Int} {C5 : Array Value} {v3 v4 : Value} {l3 : List S114} {l4 : List S115}
theorem bourseref12_Parse.St.call (h : bourseref12_Parse.St w g b2 b5 s p e C5 v3 l3 v4 l4 W) (hi : IsS125 w W' g s' p' e') (hb : Below w.heap.size w W') (hk : KeepBut W W' g none) : bourseref12_Parse.St w g b2 b5 s' p' e' C5 v3 l3 v4 l4 W' :=
  ⟨hi, blk_kept_keep h.h2 hk h.rd.1 (by decide), blk_kept_keep h.h5 hk h.rd.1 (by decide), own_kept_keep h.o3 hk h.rd.1 (by decide), own_kept_keep h.o4 hk h.rd.1 (by decide), hb, h.ge2, h.ge5, h.ne25⟩
theorem bourseref12_Parse.St.alloc (h : bourseref12_Parse.St w g b2 b5 s p e C5 v3 l3 v4 l4 W) (o : Obj) : bourseref12_Parse.St w g b2 b5 s p e C5 v3 l3 v4 l4 (W.alloc o) :=
  ⟨h.rd.alloc o, blk_alloc h.h2 o, blk_alloc h.h5 o, h.o3.alloc o, h.o4.alloc o, below_alloc h.bel o, h.ge2, h.ge5, h.ne25⟩
theorem bourseref12_Parse.St.drew (h : bourseref12_Parse.St w g b2 b5 s p e C5 v3 l3 v4 l4 W) : bourseref12_Parse.St w g b2 b5 s p e C5 v3 l3 v4 l4 W.drew :=
  ⟨h.rd.drew, h.h2, h.h5, h.o3.drew, h.o4.drew, below_drew1 h.bel, h.ge2, h.ge5, h.ne25⟩
theorem bourseref12_Parse.St.far (h : bourseref12_Parse.St w g b2 b5 s p e C5 v3 l3 v4 l4 W) {b i : Nat} (u : Value) (hb : w.heap.size ≤ b) (hg : g ≠ b) (h2 : b2 ≠ b) (h5 : b5 ≠ b) (h3 : v3.ownBlock ≠ some b) (h4 : v4.ownBlock ≠ some b) : bourseref12_Parse.St w g b2 b5 s p e C5 v3 l3 v4 l4 (W.setCell ⟨b, i, none⟩ u) :=
  ⟨h.rd.far hg u, (Below.heap_setCell W _ u b2 h2).trans h.h2, (Below.heap_setCell W _ u b5 h5).trans h.h5, own_move h.o3 (fun k hk => Below.heap_setCell W _ u k (fun e => h3 (by rw [hk]; exact congrArg some e))), own_move h.o4 (fun k hk => Below.heap_setCell W _ u k (fun e => h4 (by rw [hk]; exact congrArg some e))), below_set h.bel hb, h.ge2, h.ge5, h.ne25⟩
theorem bourseref12_Parse.St.set5 (h : bourseref12_Parse.St w g b2 b5 s p e C5 v3 l3 v4 l4 W) (i : Nat) (u : Value) : bourseref12_Parse.St w g b2 b5 s p e (C5.setIfInBounds i u) v3 l3 v4 l4 (W.setCell ⟨b5, i, none⟩ u) := by
  have hg : g ≠ b5 := blk_ne h.rd.1 h.h5 (by decide)
  refine ⟨h.rd.far hg u, (Below.heap_setCell W _ u b2 h.ne25).trans h.h2, ?_, own_move h.o3 (fun k hk => Below.heap_setCell W _ u k ?_), own_move h.o4 (fun k hk => Below.heap_setCell W _ u k ?_), below_set h.bel h.ge5, h.ge2, h.ge5, h.ne25⟩
  · simp [World.setCell, Array.getElem?_modify, h.h5]
  · obtain ⟨cs, hc⟩ := own_type h.o3 hk
    exact blk_ne hc h.h5 (by decide)
  · obtain ⟨cs, hc⟩ := own_type h.o4 hk
    exact blk_ne hc h.h5 (by decide)
theorem bourseref12_Parse.St.push3 (h : bourseref12_Parse.St w g b2 b5 s p e C5 v3 l3 v4 l4 W) {a : S114} {v' : Value} (ho : W'.ownsRow w.heap.size 114 6 v' (l3.length + 1) (l3.flatMap bourseref12_cells114 ++ bourseref12_cells114 a)) (hg : W.grownBy W' v3.ownBlock) : bourseref12_Parse.St w g b2 b5 s p e C5 v' (l3 ++ [a]) v4 l4 W' := by
  have hn : ∀ {b t : Nat} {cs : Array Value}, W.heap[b]? = some (.cells cs t (0, 0)) → t ≠ 114 → some b ≠ v3.ownBlock := by
    intro b t cs hb ht e
    obtain ⟨cs', hc⟩ := own_type h.o3 e.symm
    exact blk_ne hb hc ht rfl
  have hb : ∀ {b t : Nat} {cs : Array Value}, W.heap[b]? = some (.cells cs t (0, 0)) → t ≠ 114 → W'.heap[b]? = some (.cells cs t (0, 0)) := fun hb ht => (hg.block _ (heap_lt hb) (hn hb ht)).trans hb
  refine ⟨⟨hb h.rd.1 (by decide), h.rd.2⟩, hb h.h2 (by decide), hb h.h5 (by decide), by simpa using ho, own_move h.o4 (fun k hk => ?_), h.bel.grown hg h.bel.size (fun k hk => (h.o3.lt k hk).1), h.ge2, h.ge5, h.ne25⟩
  obtain ⟨cs, hc⟩ := own_type h.o4 hk
  exact hg.block _ (heap_lt hc) (hn hc (by decide))
theorem bourseref12_Parse.St.push4 (h : bourseref12_Parse.St w g b2 b5 s p e C5 v3 l3 v4 l4 W) {a : S115} {v' : Value} (ho : W'.ownsRow w.heap.size 115 2 v' (l4.length + 1) (l4.flatMap bourseref12_cells115 ++ bourseref12_cells115 a)) (hg : W.grownBy W' v4.ownBlock) : bourseref12_Parse.St w g b2 b5 s p e C5 v3 l3 v' (l4 ++ [a]) W' := by
  have hn : ∀ {b t : Nat} {cs : Array Value}, W.heap[b]? = some (.cells cs t (0, 0)) → t ≠ 115 → some b ≠ v4.ownBlock := by
    intro b t cs hb ht e
    obtain ⟨cs', hc⟩ := own_type h.o4 e.symm
    exact blk_ne hb hc ht rfl
  have hb : ∀ {b t : Nat} {cs : Array Value}, W.heap[b]? = some (.cells cs t (0, 0)) → t ≠ 115 → W'.heap[b]? = some (.cells cs t (0, 0)) := fun hb ht => (hg.block _ (heap_lt hb) (hn hb ht)).trans hb
  refine ⟨⟨hb h.rd.1 (by decide), h.rd.2⟩, hb h.h2 (by decide), hb h.h5 (by decide), own_move h.o3 (fun k hk => ?_), by simpa using ho, h.bel.grown hg h.bel.size (fun k hk => (h.o4.lt k hk).1), h.ge2, h.ge5, h.ne25⟩
  obtain ⟨cs, hc⟩ := own_type h.o3 hk
  exact hg.block _ (heap_lt hc) (hn hc (by decide))
end
theorem bourseref12_Parse.comes_stop {m : Nat} {s : ByteArray} {p e : Int} {l : List S114} {C : List S114 × ByteArray × Int × Int} (h : bourseref12_Parse.comes m s p e l = some C) (hz : m = 0 ∨ e ≠ 0) : (l, s, p, e) = C := by
  cases m with
  | zero => exact Option.some.inj h
  | succ m =>
    rcases hz with hz | hz
    · cases hz
    · rw [bourseref12_Parse.comes, if_neg hz] at h; exact Option.some.inj h
theorem bourseref12_Parse.gones_stop {m : Nat} {s : ByteArray} {p e : Int} {l : List S115} {C : List S115 × ByteArray × Int × Int} (h : bourseref12_Parse.gones m s p e l = some C) (hz : m = 0 ∨ e ≠ 0) : (l, s, p, e) = C := by
  cases m with
  | zero => exact Option.some.inj h
  | succ m =>
    rcases hz with hz | hz
    · cases hz
    · rw [bourseref12_Parse.gones, if_neg hz] at h; exact Option.some.inj h
structure bourseref12_Parse.Come (s : ByteArray) (p : Int) (a : S114) (s1 s2 s3 s4 s5 s6 : ByteArray) (p1 p2 p3 p4 p5 p6 e1 e2 e3 e4 e5 e6 : Int) : Prop where
  c1 : bourseref12_level.f s p 0 = some (a.f0, s1, p1, e1)
  c2 : bourseref03_Reader_Num.f s1 p1 e1 = some (a.f1.f0, s2, p2, e2)
  c3 : bourseref03_Reader_Num.f s2 p2 e2 = some (a.f1.f1, s3, p3, e3)
  c4 : bourseref03_Reader_Num.f s3 p3 e3 = some (a.f1.f2, s4, p4, e4)
  c5 : bourseref03_Reader_Text.f 9 s4 p4 e4 200 = some (a.f1.f3, s5, p5, e5)
  c6 : bourseref03_Reader_Text.f 9 s5 p5 e5 200 = some (a.f1.f4, s6, p6, e6)
theorem bourseref12_Parse.comes_go {m : Nat} {s : ByteArray} {p : Int} {l : List S114} {C : List S114 × ByteArray × Int × Int} (h : bourseref12_Parse.comes (m + 1) s p 0 l = some C) :
    l.length < 2199023255552 ∧ ∃ a s1 s2 s3 s4 s5 s6 p1 p2 p3 p4 p5 p6 e1 e2 e3 e4 e5 e6, bourseref12_Parse.Come s p a s1 s2 s3 s4 s5 s6 p1 p2 p3 p4 p5 p6 e1 e2 e3 e4 e5 e6 ∧ bourseref12_Parse.comes m s6 p6 e6 (l ++ [a]) = some C := by
  rw [bourseref12_Parse.comes, if_pos rfl] at h
  obtain ⟨⟨a, s6, p6, e6⟩, hc, h⟩ := Option.bind_eq_some_iff.mp h
  dsimp only at h
  by_cases hl : l.length < 2199023255552
  · rw [if_pos hl] at h
    refine ⟨hl, ?_⟩
    obtain ⟨⟨a0, s1, p1, e1⟩, h1, hc⟩ := Option.bind_eq_some_iff.mp hc
    obtain ⟨⟨a1, s2, p2, e2⟩, h2, hc⟩ := Option.bind_eq_some_iff.mp hc
    obtain ⟨⟨a2, s3, p3, e3⟩, h3, hc⟩ := Option.bind_eq_some_iff.mp hc
    obtain ⟨⟨a3, s4, p4, e4⟩, h4, hc⟩ := Option.bind_eq_some_iff.mp hc
    obtain ⟨⟨a4, s5, p5, e5⟩, h5, hc⟩ := Option.bind_eq_some_iff.mp hc
    obtain ⟨⟨a5, s7, p7, e7⟩, h6, hc⟩ := Option.bind_eq_some_iff.mp hc
    dsimp only at h1 h2 h3 h4 h5 h6 hc
    simp only [Option.some.injEq, Prod.mk.injEq] at hc
    obtain ⟨rfl, rfl, rfl, rfl⟩ := hc
    exact ⟨_, _, _, _, _, _, _, _, _, _, _, _, _, _, _, _, _, _, _, ⟨h1, h2, h3, h4, h5, h6⟩, h⟩
  · rw [if_neg hl] at h; cases h
theorem bourseref12_Parse.gones_go {m : Nat} {s : ByteArray} {p : Int} {l : List S115} {C : List S115 × ByteArray × Int × Int} (h : bourseref12_Parse.gones (m + 1) s p 0 l = some C) :
    l.length < 8796093022208 ∧ ∃ a s1 s2 p1 p2 e1 e2, (bourseref12_level.f s p 0 = some (a.f0, s1, p1, e1) ∧ bourseref03_Reader_Num.f s1 p1 e1 = some (a.f1, s2, p2, e2)) ∧ bourseref12_Parse.gones m s2 p2 e2 (l ++ [a]) = some C := by
  rw [bourseref12_Parse.gones, if_pos rfl] at h
  obtain ⟨⟨a, s6, p6, e6⟩, hc, h⟩ := Option.bind_eq_some_iff.mp h
  dsimp only at h
  by_cases hl : l.length < 8796093022208
  · rw [if_pos hl] at h
    refine ⟨hl, ?_⟩
    obtain ⟨⟨a0, s1, p1, e1⟩, h1, hc⟩ := Option.bind_eq_some_iff.mp hc
    obtain ⟨⟨a1, s2, p2, e2⟩, h2, hc⟩ := Option.bind_eq_some_iff.mp hc
    dsimp only at h1 h2 hc
    simp only [Option.some.injEq, Prod.mk.injEq] at hc
    obtain ⟨rfl, rfl, rfl, rfl⟩ := hc
    exact ⟨_, _, _, _, _, _, _, ⟨h1, h2⟩, h⟩
  · rw [if_neg hl] at h; cases h
def bourseref12_Parse.Post (w : World) (R : Int × Int × Int × List S114 × List S115 × Int) (e : Ending) (w' : World) : Prop :=
  ∃ v3_ v4_ : Value, e = .returned (.tuple #[.agg #[.int .u64 R.1, .int .u64 R.2.1, .int .u64 R.2.2.1, v3_, v4_], .int .i64 R.2.2.2.2.2]) ∧ Kd.R k114 114 w' w.heap.size (fun _ => True) v3_ R.2.2.2.1 ∧ Kd.R k115 115 w' w.heap.size (fun _ => True) v4_ R.2.2.2.2.1 ∧ Below w.heap.size w w'
theorem bourseref12_Parse.info114 : (Tryd.prog.info? 114).map (fun i => (i.zero, i.size, i.bytes)) = some (some (.agg #[(.int .i64 0), (.int .u64 0), (.int .u64 0), (.int .u64 0), (.string ⟨#[]⟩), (.string ⟨#[]⟩)]), 6, 64) := by kernel_rfl
theorem bourseref12_Parse.info115 : (Tryd.prog.info? 115).map (fun i => (i.zero, i.size, i.bytes)) = some (some (.agg #[(.int .i64 0), (.int .u64 0)]), 2, 16) := by kernel_rfl
def bourseref12_Parse.J1 (w : World) (g b2 b5 : Nat) (lg nx sq n : Int) (C : List S114 × ByteArray × Int × Int) (i : Int) (W : World) : Prop :=
  ∃ (m : Nat) (s : ByteArray) (p e : Int) (v3 : Value) (l3 : List S114), 0 ≤ i ∧ i + m = n ∧ bourseref12_Parse.St w g b2 b5 s p e #[.int .u64 lg, .int .u64 nx, .int .u64 sq, v3, .slice none 0 0] v3 l3 (.slice none 0 0) [] W ∧ bourseref12_Parse.comes m s p e l3 = some C
def bourseref12_Parse.J2 (w : World) (g b2 b5 : Nat) (lg nx sq n : Int) (l3 : List S114) (v3 : Value) (C : List S115 × ByteArray × Int × Int) (i : Int) (W : World) : Prop :=
  ∃ (m : Nat) (s : ByteArray) (p e : Int) (v4 : Value) (l4 : List S115), 0 ≤ i ∧ i + m = n ∧ bourseref12_Parse.St w g b2 b5 s p e #[.int .u64 lg, .int .u64 nx, .int .u64 sq, v3, v4] v3 l3 v4 l4 W ∧ bourseref12_Parse.gones m s p e l4 = some C
structure bourseref12_Parse.Parts (a0 : ByteArray) (R : Int × Int × Int × List S114 × List S115 × Int) (n1 n2 n3 n4 n6 z cv : Int) (s1 s2 s3 s4 s5 s6 s7 s8 : ByteArray) (p1 p2 p3 p4 p5 p6 p7 p8 e1 e2 e3 e4 e5 e6 e7 e8 : Int) (l3 : List S114) (l4 : List S115) : Prop where
  a1 : bourseref03_Reader_Num.f a0 0 0 = some (n1, s1, p1, e1)
  a2 : bourseref03_Reader_Num.f s1 p1 e1 = some (n2, s2, p2, e2)
  a3 : bourseref03_Reader_Num.f s2 p2 e2 = some (n3, s3, p3, e3)
  a4 : bourseref12_count.f s3 p3 e3 = some (n4, s4, p4, e4)
  a5 : bourseref12_Parse.comes n4.toNat s4 p4 e4 [] = some (l3, s5, p5, e5)
  a6 : bourseref12_count.f s5 p5 e5 = some (n6, s6, p6, e6)
  a7 : bourseref12_Parse.gones n6.toNat s6 p6 e6 [] = some (l4, s7, p7, e7)
  a8 : bourseref03_Reader_End.f s7 p7 e7 = some (z, s8, p8, e8)
  a9 : z = 0 → bourseref12_Edit_Check.f 2000 n1 n2 n3 l3 l4 = some cv
  hr : bourseref12_Parse.fin n1 n2 n3 l3 l4 z cv = R
  h4 : 0 ≤ n4 ∧ n4 ≤ 18446744073709551615
  h6 : 0 ≤ n6 ∧ n6 ≤ 18446744073709551615
theorem bourseref12_Parse.parts {a0 : ByteArray} {R : Int × Int × Int × List S114 × List S115 × Int} (h : bourseref12_Parse.f a0 = some R) : ∃ n1 n2 n3 n4 n6 z cv s1 s2 s3 s4 s5 s6 s7 s8 p1 p2 p3 p4 p5 p6 p7 p8 e1 e2 e3 e4 e5 e6 e7 e8 l3 l4, bourseref12_Parse.Parts a0 R n1 n2 n3 n4 n6 z cv s1 s2 s3 s4 s5 s6 s7 s8 p1 p2 p3 p4 p5 p6 p7 p8 e1 e2 e3 e4 e5 e6 e7 e8 l3 l4 := by
  obtain ⟨⟨n1, s1, p1, e1⟩, A1, h⟩ := Option.bind_eq_some_iff.mp h
  obtain ⟨⟨n2, s2, p2, e2⟩, A2, h⟩ := Option.bind_eq_some_iff.mp h
  obtain ⟨⟨n3, s3, p3, e3⟩, A3, h⟩ := Option.bind_eq_some_iff.mp h
  obtain ⟨⟨n4, s4, p4, e4⟩, A4, h⟩ := Option.bind_eq_some_iff.mp h
  dsimp only at A1 A2 A3 A4 h
  by_cases hn4 : 0 ≤ n4 ∧ n4 ≤ 18446744073709551615
  · rw [if_pos hn4] at h
    obtain ⟨⟨l3, s5, p5, e5⟩, A5, h⟩ := Option.bind_eq_some_iff.mp h
    obtain ⟨⟨n6, s6, p6, e6⟩, A6, h⟩ := Option.bind_eq_some_iff.mp h
    dsimp only at A5 A6 h
    by_cases hn6 : 0 ≤ n6 ∧ n6 ≤ 18446744073709551615
    · rw [if_pos hn6] at h
      obtain ⟨⟨l4, s7, p7, e7⟩, A7, h⟩ := Option.bind_eq_some_iff.mp h
      obtain ⟨⟨z, s8, p8, e8⟩, A8, h⟩ := Option.bind_eq_some_iff.mp h
      dsimp only at A7 A8 h
      by_cases hz : z = 0
      · rw [if_pos hz] at h
        obtain ⟨cv, A9, h⟩ := Option.bind_eq_some_iff.mp h
        exact ⟨_, _, _, _, _, _, cv, _, _, _, _, _, _, _, _, _, _, _, _, _, _, _, _, _, _, _, _, _, _, _, _, _, _, A1, A2, A3, A4, A5, A6, A7, A8, fun _ => A9, Option.some.inj h, hn4, hn6⟩
      · rw [if_neg hz] at h
        exact ⟨_, _, _, _, _, _, 0, _, _, _, _, _, _, _, _, _, _, _, _, _, _, _, _, _, _, _, _, _, _, _, _, _, _, A1, A2, A3, A4, A5, A6, A7, A8, fun h => absurd h hz, Option.some.inj h, hn4, hn6⟩
    · rw [if_neg hn6] at h; cases h
  · rw [if_neg hn4] at h; cases h
structure bourseref12_Parse.In (w : World) (g b2 b5 ba t : Nat) (s : ByteArray) (p e : Int) (C5 CA : Array Value) (v3 : Value) (l3 : List S114) (v4 : Value) (l4 : List S115) (W : World) : Prop where
  st : bourseref12_Parse.St w g b2 b5 s p e C5 v3 l3 v4 l4 W
  ha : W.heap[ba]? = some (.cells CA t (0, 0))
  hga : w.heap.size ≤ ba
  h3 : v3.ownBlock ≠ some ba
  h4 : v4.ownBlock ≠ some ba
  ht : t ≠ 125 ∧ t ≠ 36
section
variable {w W W' : World} {g b2 b5 ba t : Nat} {s s' : ByteArray} {p e p' e' : Int} {C5 CA : Array Value} {v3 v4 : Value} {l3 : List S114} {l4 : List S115}
theorem bourseref12_Parse.In.new (h : bourseref12_Parse.St w g b2 b5 s p e C5 v3 l3 v4 l4 W) (CA : Array Value) (t : Nat) (ht : t ≠ 125 ∧ t ≠ 36) : bourseref12_Parse.In w g b2 b5 W.heap.size t s p e C5 CA v3 l3 v4 l4 (W.alloc (.cells CA t)) :=
  ⟨h.alloc _, heap_alloc_new W _, h.bel.size, fun h' => by have := (h.o3.lt _ h').2; omega, fun h' => by have := (h.o4.lt _ h').2; omega, ht⟩
theorem bourseref12_Parse.In.call (h : bourseref12_Parse.In w g b2 b5 ba t s p e C5 CA v3 l3 v4 l4 W) (hi : IsS125 w W' g s' p' e') (hb : Below w.heap.size w W') (hk : KeepBut W W' g none) : bourseref12_Parse.In w g b2 b5 ba t s' p' e' C5 CA v3 l3 v4 l4 W' :=
  ⟨h.st.call hi hb hk, blk_kept_keep h.ha hk h.st.rd.1 h.ht.1, h.hga, h.h3, h.h4, h.ht⟩
theorem bourseref12_Parse.In.set (h : bourseref12_Parse.In w g b2 b5 ba t s p e C5 CA v3 l3 v4 l4 W) (i : Nat) (u : Value) : bourseref12_Parse.In w g b2 b5 ba t s p e C5 (CA.setIfInBounds i u) v3 l3 v4 l4 (W.setCell ⟨ba, i, none⟩ u) :=
  ⟨h.st.far u h.hga (blk_ne h.st.rd.1 h.ha (fun e => h.ht.1 e.symm)) (blk_ne h.st.h2 h.ha (fun e => h.ht.2 e.symm)) (blk_ne h.st.h5 h.ha (fun e => h.ht.2 e.symm)) h.h3 h.h4, blk_set h.ha i u, h.hga, h.h3, h.h4, h.ht⟩
end
set_option maxHeartbeats 1000000 in
set_option maxRecDepth 100000 in
theorem bourseref12_Parse.walk (a0 : ByteArray) (R : Int × Int × Int × List S114 × List S115 × Int) (w : World) (h : bourseref12_Parse.f a0 = some R) : Calls Tryd.prog 19 #[.string a0] w (bourseref12_Parse.Post w R) := by
  obtain ⟨n1, n2, n3, n4, n6, z, cv, s1, s2, s3, s4, s5, s6, s7, s8, p1, p2, p3, p4, p5, p6, p7, p8, e1, e2, e3, e4, e5, e6, e7, e8, l3, l4, A⟩ := bourseref12_Parse.parts h
  clear h
  obtain ⟨hn4, hu4⟩ := A.h4
  obtain ⟨hn6, hu6⟩ := A.h6
  go_enter Tryd.func19, Tryd.ntmps19
  go_wp2_with fail
  obtain ⟨g, hg⟩ : ∃ g, g = w.heap.size + 1 := ⟨_, rfl⟩
  obtain ⟨b5, hb5⟩ : ∃ b, b = w.heap.size + 1 + 1 := ⟨_, rfl⟩
  have S0 : bourseref12_Parse.St w g w.heap.size b5 a0 0 0 #[.int .u64 0, .int .u64 0, .int .u64 0, .slice none 0 0, .slice none 0 0] (.slice none 0 0) [] (.slice none 0 0) [] (((w.alloc (.cells #[.int .u64 0, .int .u64 0, .int .u64 0, .slice none 0 0, .slice none 0 0] 36)).alloc (.cells #[.string a0, .int .i64 0, .int .i64 0] 125)).alloc (.cells #[.int .u64 0, .int .u64 0, .int .u64 0, .slice none 0 0, .slice none 0 0] 36)) := by
    rw [hg, hb5]
    exact ⟨⟨by simpa using blk_alloc (heap_alloc_new (w.alloc (.cells #[.int .u64 0, .int .u64 0, .int .u64 0, .slice none 0 0, .slice none 0 0] 36)) (.cells #[.string a0, .int .i64 0, .int .i64 0] 125)) _, by omega⟩, blk_alloc (blk_alloc (heap_alloc_new w _) _) _, by simpa using heap_alloc_new ((w.alloc (.cells #[.int .u64 0, .int .u64 0, .int .u64 0, .slice none 0 0, .slice none 0 0] 36)).alloc (.cells #[.string a0, .int .i64 0, .int .i64 0] 125)) _, World.ownsRow_nil _ _ _ _, World.ownsRow_nil _ _ _ _, below_alloc (below_alloc (below_alloc (Below.refl _ _) _) _) _, Nat.le_refl _, by omega, by omega⟩
  rw [← hb5, ← hg]
  clear hg hb5
  refine (bourseref03_Reader_Num.calls g _ _ _ _ _ _ _ w _ S0.rd S0.bel A.a1).mono ?_
  rintro e_ W1 ⟨rfl, hi, hb, hk⟩
  have S1 := S0.call hi hb hk
  clear S0 hi hb hk
  have x0 : W1.cell? ⟨b5, 0, none⟩ = some (.int .u64 0) := blk_cell S1.h5 0
  have y0 := blk_frozen S1.h5 0
  go_wp2_with fail
  have S1 : bourseref12_Parse.St w g w.heap.size b5 s1 p1 e1 #[.int .u64 n1, .int .u64 0, .int .u64 0, .slice none 0 0, .slice none 0 0] (.slice none 0 0) [] (.slice none 0 0) [] (W1.setCell ⟨b5, 0, none⟩ (.int .u64 n1)) := S1.set5 0 (.int .u64 n1)
  refine (bourseref03_Reader_Num.calls g _ _ _ _ _ _ _ w _ S1.rd S1.bel A.a2).mono ?_
  rintro e_ W2 ⟨rfl, hi, hb, hk⟩
  have S2 := S1.call hi hb hk
  clear S1 hi hb hk x0 y0
  have x0 : W2.cell? ⟨b5, 1, none⟩ = some (.int .u64 0) := blk_cell S2.h5 1
  have y0 := blk_frozen S2.h5 1
  go_wp2_with fail
  have S2 : bourseref12_Parse.St w g w.heap.size b5 s2 p2 e2 #[.int .u64 n1, .int .u64 n2, .int .u64 0, .slice none 0 0, .slice none 0 0] (.slice none 0 0) [] (.slice none 0 0) [] (W2.setCell ⟨b5, 1, none⟩ (.int .u64 n2)) := S2.set5 1 (.int .u64 n2)
  refine (bourseref03_Reader_Num.calls g _ _ _ _ _ _ _ w _ S2.rd S2.bel A.a3).mono ?_
  rintro e_ W3 ⟨rfl, hi, hb, hk⟩
  have S3 := S2.call hi hb hk
  clear S2 hi hb hk x0 y0
  have x0 : W3.cell? ⟨b5, 2, none⟩ = some (.int .u64 0) := blk_cell S3.h5 2
  have y0 := blk_frozen S3.h5 2
  go_wp2_with fail
  have S3 : bourseref12_Parse.St w g w.heap.size b5 s3 p3 e3 #[.int .u64 n1, .int .u64 n2, .int .u64 n3, .slice none 0 0, .slice none 0 0] (.slice none 0 0) [] (.slice none 0 0) [] (W3.setCell ⟨b5, 2, none⟩ (.int .u64 n3)) := S3.set5 2 (.int .u64 n3)
  refine (bourseref12_count.calls g _ _ _ _ _ _ _ w _ S3.rd S3.bel A.a4).mono ?_
  rintro e_ W5 ⟨rfl, hi, hb, hk⟩
  have S5 := S3.call hi hb hk
  clear S3 hi hb hk x0 y0
  go_wp2_with fail
  go_loopw [7] (fun i wr => ∃ iv : Int, i = .int .u64 iv ∧ bourseref12_Parse.J1 w g w.heap.size b5 n1 n2 n3 n4 (l3, s5, p5, e5) iv wr) (fun i _ => (n4 - intOf i).toNat)
  case atStart => exact ⟨0, rfl, n4.toNat, s4, p4, e4, _, _, by omega, by omega, S5, A.a5⟩
  case round =>
    obtain ⟨iv, rfl, m, s, p, e, v3, l, hi0, him, hS, hc⟩ := hrel
    clear S5
    have HC := Hush.mk hc
    clear hc
    have cb := cellS125_2 hS.rd.1
    by_cases hgo : iv < n4 ∧ e = 0
    · obtain ⟨hlt, he⟩ := hgo
      obtain ⟨m, rfl⟩ : ∃ m', m = m' + 1 := ⟨m - 1, by omega⟩
      obtain ⟨hll, a, t1, t2, t3, t4, t5, t6, q1, q2, q3, q4, q5, q6, f1, f2, f3, f4, f5, f6, HCm, hcs⟩ := bourseref12_Parse.comes_go (he ▸ HC.out)
      have HN := Hush.mk hcs
      have LX := Hush.mk hll
      subst he
      clear HC hcs hll
      have I0 := bourseref12_Parse.In.new hS #[.int .i64 0, .int .u64 0, .int .u64 0, .int .u64 0, .string ⟨#[]⟩, .string ⟨#[]⟩] 114 (by decide)
      go_wp2_with fail
      obtain ⟨ba, hba⟩ : ∃ b, b = wr.heap.size := ⟨_, rfl⟩
      rw [← hba] at I0 ⊢
      refine (bourseref12_level.calls g _ _ _ _ _ _ _ w _ I0.st.rd I0.st.bel HCm.c1).mono ?_
      rintro e_ W7 ⟨rfl, hi, hb, hk⟩
      have I1 := I0.call hi hb hk
      clear I0 hi hb hk hS cb hba
      have k0 := (blk_cell I1.ha 0).trans rfl
      have z0 := blk_frozen I1.ha 0
      go_wp2_with fail
      have I1 : bourseref12_Parse.In w g w.heap.size b5 ba 114 t1 q1 f1 _ #[.int .i64 a.f0, .int .u64 0, .int .u64 0, .int .u64 0, .string ⟨#[]⟩, .string ⟨#[]⟩] v3 l _ _ (W7.setCell ⟨ba, 0, none⟩ (.int .i64 a.f0)) := I1.set 0 (.int .i64 a.f0)
      refine (bourseref03_Reader_Num.calls g _ _ _ _ _ _ _ w _ I1.st.rd I1.st.bel HCm.c2).mono ?_
      rintro e_ W8 ⟨rfl, hi, hb, hk⟩
      have I2 := I1.call hi hb hk
      clear I1 hi hb hk k0 z0
      have k0 := (blk_cell I2.ha 1).trans rfl
      have z0 := blk_frozen I2.ha 1
      go_wp2_with fail
      have I2 : bourseref12_Parse.In w g w.heap.size b5 ba 114 t2 q2 f2 _ #[.int .i64 a.f0, .int .u64 a.f1.f0, .int .u64 0, .int .u64 0, .string ⟨#[]⟩, .string ⟨#[]⟩] v3 l _ _ (W8.setCell ⟨ba, 1, none⟩ (.int .u64 a.f1.f0)) := I2.set 1 (.int .u64 a.f1.f0)
      refine (bourseref03_Reader_Num.calls g _ _ _ _ _ _ _ w _ I2.st.rd I2.st.bel HCm.c3).mono ?_
      rintro e_ W9 ⟨rfl, hi, hb, hk⟩
      have I3 := I2.call hi hb hk
      clear I2 hi hb hk k0 z0
      have k0 := (blk_cell I3.ha 2).trans rfl
      have z0 := blk_frozen I3.ha 2
      go_wp2_with fail
      have I3 : bourseref12_Parse.In w g w.heap.size b5 ba 114 t3 q3 f3 _ #[.int .i64 a.f0, .int .u64 a.f1.f0, .int .u64 a.f1.f1, .int .u64 0, .string ⟨#[]⟩, .string ⟨#[]⟩] v3 l _ _ (W9.setCell ⟨ba, 2, none⟩ (.int .u64 a.f1.f1)) := I3.set 2 (.int .u64 a.f1.f1)
      refine (bourseref03_Reader_Num.calls g _ _ _ _ _ _ _ w _ I3.st.rd I3.st.bel HCm.c4).mono ?_
      rintro e_ W10 ⟨rfl, hi, hb, hk⟩
      have I4 := I3.call hi hb hk
      clear I3 hi hb hk k0 z0
      have k0 := (blk_cell I4.ha 3).trans rfl
      have z0 := blk_frozen I4.ha 3
      go_wp2_with fail
      have I4 : bourseref12_Parse.In w g w.heap.size b5 ba 114 t4 q4 f4 _ #[.int .i64 a.f0, .int .u64 a.f1.f0, .int .u64 a.f1.f1, .int .u64 a.f1.f2, .string ⟨#[]⟩, .string ⟨#[]⟩] v3 l _ _ (W10.setCell ⟨ba, 3, none⟩ (.int .u64 a.f1.f2)) := I4.set 3 (.int .u64 a.f1.f2)
      refine (bourseref03_Reader_Text.calls 9 g _ _ _ 200 _ _ _ _ w _ I4.st.rd I4.st.bel HCm.c5).mono ?_
      rintro e_ W11 ⟨rfl, hi, hb, hk⟩
      have I5 := I4.call hi hb hk
      clear I4 hi hb hk k0 z0
      have k0 := (blk_cell I5.ha 4).trans rfl
      have z0 := blk_frozen I5.ha 4
      go_wp2_with fail
      have I5 : bourseref12_Parse.In w g w.heap.size b5 ba 114 t5 q5 f5 _ #[.int .i64 a.f0, .int .u64 a.f1.f0, .int .u64 a.f1.f1, .int .u64 a.f1.f2, .string a.f1.f3, .string ⟨#[]⟩] v3 l _ _ (W11.setCell ⟨ba, 4, none⟩ (.string a.f1.f3)) := I5.set 4 (.string a.f1.f3)
      refine (bourseref03_Reader_Text.calls 9 g _ _ _ 200 _ _ _ _ w _ I5.st.rd I5.st.bel HCm.c6).mono ?_
      rintro e_ W13 ⟨rfl, hi, hb, hk⟩
      have I6 := I5.call hi hb hk
      clear I5 hi hb hk k0 z0
      have n5a : b5 ≠ ba := blk_ne I6.st.h5 I6.ha (by decide)
      have na5 : ba ≠ b5 := fun h => n5a h.symm
      have k0 := (blk_cell I6.ha 0).trans rfl
      have k1 := (blk_cell I6.ha 1).trans rfl
      have k2 := (blk_cell I6.ha 2).trans rfl
      have k3 := (blk_cell I6.ha 3).trans rfl
      have k4 := (blk_cell I6.ha 4).trans rfl
      have k5 := (blk_cell I6.ha 5).trans rfl
      have z5 := blk_frozen I6.ha 5
      have y3 := (blk_cell I6.st.h5 3).trans rfl
      have IX : bourseref12_Parse.In w g w.heap.size b5 ba 114 t6 q6 f6 _ #[.int .i64 a.f0, .int .u64 a.f1.f0, .int .u64 a.f1.f1, .int .u64 a.f1.f2, .string a.f1.f3, .string a.f1.f4] v3 l _ _ (W13.setCell ⟨ba, 5, none⟩ (.string a.f1.f4)) := I6.set 5 (.string a.f1.f4)
      obtain ⟨WX, hWX⟩ : ∃ W, W = W13.setCell ⟨ba, 5, none⟩ (.string a.f1.f4) := ⟨_, rfl⟩
      rw [← hWX] at IX
      have SX := IX.st
      have HX := Hush.mk hWX
      have SY := SX.alloc (.cells #[.int .i64 a.f0, .int .u64 a.f1.f0, .int .u64 a.f1.f1, .int .u64 a.f1.f2, .string a.f1.f3, .string a.f1.f4] 114)
      have NY : ∀ j u, (bourseref12_cells114 a)[j]? = some u → (WX.alloc (.cells #[.int .i64 a.f0, .int .u64 a.f1.f0, .int .u64 a.f1.f1, .int .u64 a.f1.f2, .string a.f1.f3, .string a.f1.f4] 114)).cell? ((⟨WX.heap.size, 0, none⟩ : Addr).add j) = some u := cells_new WX (bourseref12_cells114 a) 114
      have SZ := Hush.mk SY.bel.size
      have SY := Hush.mk SY
      have NY := Hush.mk NY
      clear hWX SX IX I6
      rename_i SY0 NY0
      clear SY0 NY0
      obtain ⟨I7, HI7, HZ0, HZ1, HZ2⟩ := info_parts bourseref12_Parse.info114
      go_wp2_with (at_builtin; rw [← HX.out]; refine wpList_append_own _ rfl _ _ 33 rfl w.heap.size 114 I7 _ 6 64 Tryd.underlying33 HI7 HZ0 HZ1 HZ2 rfl (by decide) v3 l.length (l.flatMap bourseref12_cells114) rfl SY.out.o3 ⟨WX.heap.size, 0, none⟩ 1 1 (bourseref12_cells114 a) ?ca rfl NY.out ?c2 ?c3 ?c4 ?c5 ?_)
      case ca =>
        have hsz : WX.heap.size = W13.heap.size := by rw [HX.out]; simp [World.setCell]
        rw [hsz]
        rfl
      case c2 => intro u hu; simp [bourseref12_cells114] at hu; rcases hu with rfl | rfl | rfl | rfl | rfl | rfl <;> rfl
      case c3 => have := LX.out; unfold maxLen; omega
      case c4 => have := LX.out; omega
      case c5 => exact SZ.out
      intro v' w1 hown1 hgrow _
      have SP := SY.out.push3 hown1 hgrow
      obtain ⟨A', cap', rfl⟩ : ∃ A' c', v' = .slice A' (l.length + 1) c' := by
        rcases hown1.2 with ⟨rfl, h0⟩ | ⟨g', cap, cur, rfl, _⟩
        · simp [bourseref12_cells114] at h0
        · exact ⟨_, _, rfl⟩
      have y4 := (blk_cell SP.h5 3).trans rfl
      have x4 := blk_frozen SP.h5 3
      have SQ := Hush.mk (SP.set5 3 (.slice A' (l.length + 1) cap'))
      clear SP hown1 hgrow n5a na5 k0 k1 k2 k3 k4 k5 z5 y3
      go_wp2
      go_roundw
      case rel => exact ⟨iv + 1, by go_num, m, t6, q6, f6, _, l ++ [a], by omega, by omega, SQ.out, HN.out⟩
      case measure => simp [intOf]; omega
    · have hst := bourseref12_Parse.comes_stop HC.out (by omega)
      simp only [Prod.mk.injEq] at hst
      obtain ⟨rfl, rfl, rfl, rfl⟩ := hst
      clear HC
      have he : iv < n4 → (e == 0) = false := fun h => by simpa using (fun h' => hgo ⟨h, h'⟩ : ¬ e = 0)
      clear hgo
      by_cases hlt : iv < n4
      all_goals
        try have he1 := he hlt
        clear he
        go_wp2_with fail
        refine (bourseref12_count.calls g _ _ _ _ _ _ _ w _ hS.rd hS.bel A.a6).mono ?_
        rintro e_ W20 ⟨rfl, hi20, hb20, hk20⟩
        have T0 := hS.call hi20 hb20 hk20
        try clear he1
        clear hS hi20 hb20 hk20 cb hlt
        go_wp2_with fail
        go_loopw [9] (fun i wr => ∃ iv : Int, i = .int .u64 iv ∧ bourseref12_Parse.J2 w g w.heap.size b5 n1 n2 n3 n6 l v3 (l4, s7, p7, e7) iv wr) (fun i _ => (n6 - intOf i).toNat)
        case atStart => exact ⟨0, rfl, n6.toNat, s6, p6, e6, _, _, by omega, by omega, T0, A.a7⟩
        case round =>
          clear T0
          obtain ⟨iv, rfl, m, s, p, e, v4, lg, hi0, him, hT, hc⟩ := hrel
          have HC := Hush.mk hc
          clear hc
          have cb := cellS125_2 hT.rd.1
          by_cases hgo : iv < n6 ∧ e = 0
          · obtain ⟨hlt2, he⟩ := hgo
            obtain ⟨m, rfl⟩ : ∃ m', m = m' + 1 := ⟨m - 1, by omega⟩
            obtain ⟨hll, a, t1, t2, q1, q2, f1, f2, HCm, hcs⟩ := bourseref12_Parse.gones_go (he ▸ HC.out)
            have HN := Hush.mk hcs
            have LX := Hush.mk hll
            subst he
            obtain ⟨hc1, hc2⟩ := HCm
            have HC1 := Hush.mk hc1
            have HC2 := Hush.mk hc2
            clear HC hcs hll hc1 hc2
            have I0 := bourseref12_Parse.In.new hT #[.int .i64 0, .int .u64 0] 115 (by decide)
            go_wp2_with fail
            obtain ⟨ba, hba⟩ : ∃ b, b = wr.heap.size := ⟨_, rfl⟩
            rw [← hba] at I0 ⊢
            refine (bourseref12_level.calls g _ _ _ _ _ _ _ w _ I0.st.rd I0.st.bel HC1.out).mono ?_
            rintro e_ W21 ⟨rfl, hi, hb, hk⟩
            have I1 := I0.call hi hb hk
            clear I0 hi hb hk hT cb hba
            have k0 := (blk_cell I1.ha 0).trans rfl
            have z0 := blk_frozen I1.ha 0
            go_wp2_with fail
            have I1 : bourseref12_Parse.In w g w.heap.size b5 ba 115 t1 q1 f1 _ #[.int .i64 a.f0, .int .u64 0] v3 l v4 lg (W21.setCell ⟨ba, 0, none⟩ (.int .i64 a.f0)) := I1.set 0 (.int .i64 a.f0)
            refine (bourseref03_Reader_Num.calls g _ _ _ _ _ _ _ w _ I1.st.rd I1.st.bel HC2.out).mono ?_
            rintro e_ W22 ⟨rfl, hi, hb, hk⟩
            have I2 := I1.call hi hb hk
            clear I1 hi hb hk k0 z0
            have n5a : b5 ≠ ba := blk_ne I2.st.h5 I2.ha (by decide)
            have na5 : ba ≠ b5 := fun h => n5a h.symm
            have k0 := (blk_cell I2.ha 0).trans rfl
            have k1 := (blk_cell I2.ha 1).trans rfl
            have z1 := blk_frozen I2.ha 1
            have y3 := (blk_cell I2.st.h5 4).trans rfl
            have IX : bourseref12_Parse.In w g w.heap.size b5 ba 115 t2 q2 f2 _ #[.int .i64 a.f0, .int .u64 a.f1] v3 l v4 lg (W22.setCell ⟨ba, 1, none⟩ (.int .u64 a.f1)) := I2.set 1 (.int .u64 a.f1)
            obtain ⟨WX, hWX⟩ : ∃ W, W = W22.setCell ⟨ba, 1, none⟩ (.int .u64 a.f1) := ⟨_, rfl⟩
            rw [← hWX] at IX
            have HX := Hush.mk hWX
            have SY := IX.st.alloc (.cells #[.int .i64 a.f0, .int .u64 a.f1] 115)
            have NY : ∀ j u, (bourseref12_cells115 a)[j]? = some u → (WX.alloc (.cells #[.int .i64 a.f0, .int .u64 a.f1] 115)).cell? ((⟨WX.heap.size, 0, none⟩ : Addr).add j) = some u := cells_new WX (bourseref12_cells115 a) 115
            have SZ := Hush.mk SY.bel.size
            have SY := Hush.mk SY
            have NY := Hush.mk NY
            clear hWX IX I2
            rename_i SY0 NY0
            clear SY0 NY0
            obtain ⟨I7, HI7, HZ0, HZ1, HZ2⟩ := info_parts bourseref12_Parse.info115
            go_wp2_with (at_builtin; rw [← HX.out]; refine wpList_append_own _ rfl _ _ 34 rfl w.heap.size 115 I7 _ 2 16 Tryd.underlying34 HI7 HZ0 HZ1 HZ2 rfl (by decide) v4 lg.length (lg.flatMap bourseref12_cells115) rfl SY.out.o4 ⟨WX.heap.size, 0, none⟩ 1 1 (bourseref12_cells115 a) ?ca rfl NY.out ?c2 ?c3 ?c4 ?c5 ?_)
            case ca =>
              have hsz : WX.heap.size = W22.heap.size := by rw [HX.out]; simp [World.setCell]
              rw [hsz]
              rfl
            case c2 => intro u hu; simp [bourseref12_cells115] at hu; rcases hu with rfl | rfl <;> rfl
            case c3 => have := LX.out; unfold maxLen; omega
            case c4 => have := LX.out; omega
            case c5 => exact SZ.out
            intro v' w1 hown1 hgrow _
            have SP := SY.out.push4 hown1 hgrow
            obtain ⟨A', cap', rfl⟩ : ∃ A' c', v' = .slice A' (lg.length + 1) c' := by
              rcases hown1.2 with ⟨rfl, h0⟩ | ⟨g', cap, cur, rfl, _⟩
              · simp [bourseref12_cells115] at h0
              · exact ⟨_, _, rfl⟩
            have y4 := (blk_cell SP.h5 4).trans rfl
            have x4 := blk_frozen SP.h5 4
            have SQ := Hush.mk (SP.set5 4 (.slice A' (lg.length + 1) cap'))
            clear SP hown1 hgrow n5a na5 k0 k1 z1 y3
            go_wp2
            go_roundw
            case rel => exact ⟨iv + 1, by go_num, m, t2, q2, f2, _, lg ++ [a], by omega, by omega, SQ.out, HN.out⟩
            case measure => simp [intOf]; omega
          · have hst := bourseref12_Parse.gones_stop HC.out (by omega)
            simp only [Prod.mk.injEq] at hst
            obtain ⟨rfl, rfl, rfl, rfl⟩ := hst
            clear HC
            have he : iv < n6 → (e == 0) = false := fun h => by simpa using (fun h' => hgo ⟨h, h'⟩ : ¬ e = 0)
            clear hgo
            by_cases hlt : iv < n6
            all_goals
              try have he1 := he hlt
              clear he
              go_wp2_with fail
              refine (bourseref03_Reader_End.calls g _ _ _ _ _ _ _ w _ hT.rd hT.bel A.a8).mono ?_
              rintro e_ W30 ⟨rfl, hi, hb, hk⟩
              have U := hT.call hi hb hk
              have HA := Hush.mk A.hr
              try clear he1
              clear hT hi hb hk cb hlt
              have R3 := R_of_own (d := k114) bourseref12_cells114 (fun _ => rfl) (fun ok x => k114_mkM _ _ ok x) U.o3
              have R4 := R_of_own (d := k115) bourseref12_cells115 (fun _ => rfl) (fun ok x => k115_mkM _ _ ok x) U.o4
              obtain ⟨A3, c3, rfl, hq3, hC3⟩ := Kd.R_reads R3
              obtain ⟨A4, c4, rfl, hq4, hC4⟩ := Kd.R_reads R4
              have C3 := Hush.mk (And.intro hC3 hq3)
              have C4 := Hush.mk (And.intro hC4 hq4)
              have R3 := Hush.mk R3
              have R4 := Hush.mk R4
              have x0 : W30.cell? ⟨b5, 0, none⟩ = some (.int .u64 n1) := blk_cell U.h5 0
              have x1 : W30.cell? ⟨b5, 1, none⟩ = some (.int .u64 n2) := blk_cell U.h5 1
              have x2 : W30.cell? ⟨b5, 2, none⟩ = some (.int .u64 n3) := blk_cell U.h5 2
              have x3 : W30.cell? ⟨b5, 3, none⟩ = some (.slice A3 l.length c3) := blk_cell U.h5 3
              have x4 : W30.cell? ⟨b5, 4, none⟩ = some (.slice A4 lg.length c4) := blk_cell U.h5 4
              clear hC3 hC4 hq3 hq4
              by_cases hz : z = 0
              · have hz1 : (z == 0) = true := by simpa using hz
                have HZ := Hush.mk hz
                clear hz
                go_wp2_with fail
                refine (bourseref12_Edit_Check.calls 2000 n1 n2 n3 A3 c3 l A4 c4 lg cv W30 C3.out.1 C3.out.2 C4.out.1 C4.out.2 (A.a9 HZ.out)).mono ?_
                rintro e_ W31 ⟨rfl, hb31⟩
                have h2' := (hb31.block _ (heap_lt U.h2)).trans U.h2
                have h5' := (hb31.block _ (heap_lt U.h5)).trans U.h5
                have o3' := Hush.mk (own_move U.o3 (fun k hk => by obtain ⟨cs, hc⟩ := own_type U.o3 hk; exact hb31.block _ (heap_lt hc)))
                have o4' := Hush.mk (own_move U.o4 (fun k hk => by obtain ⟨cs, hc⟩ := own_type U.o4 hk; exact hb31.block _ (heap_lt hc)))
                have bel' := Hush.mk (U.bel.trans (hb31.mono U.bel.size))
                have x0 : W31.cell? ⟨b5, 0, none⟩ = some (.int .u64 n1) := blk_cell h5' 0
                have x1 : W31.cell? ⟨b5, 1, none⟩ = some (.int .u64 n2) := blk_cell h5' 1
                have x2 : W31.cell? ⟨b5, 2, none⟩ = some (.int .u64 n3) := blk_cell h5' 2
                have x3 : W31.cell? ⟨b5, 3, none⟩ = some (.slice A3 l.length c3) := blk_cell h5' 3
                have x4 : W31.cell? ⟨b5, 4, none⟩ = some (.slice A4 lg.length c4) := blk_cell h5' 4
                have d0 : W31.cell? ⟨w.heap.size, 0, none⟩ = some (.int .u64 0) := blk_cell h2' 0
                have f0 := blk_frozen h2' 0
                have d1 : W31.cell? ⟨w.heap.size, 1, none⟩ = some (.int .u64 0) := blk_cell h2' 1
                have f1 := blk_frozen h2' 1
                have d2 : W31.cell? ⟨w.heap.size, 2, none⟩ = some (.int .u64 0) := blk_cell h2' 2
                have f2 := blk_frozen h2' 2
                have d3 : W31.cell? ⟨w.heap.size, 3, none⟩ = some (.slice none 0 0) := blk_cell h2' 3
                have f3 := blk_frozen h2' 3
                have d4 : W31.cell? ⟨w.heap.size, 4, none⟩ = some (.slice none 0 0) := blk_cell h2' 4
                have f4 := blk_frozen h2' 4
                have H2 := Hush.mk h2'
                clear h2' h5' hb31 U
                by_cases hv : cv = 0
                · have hv1 : (cv == 0) = true := by simpa using hv
                  have hv2 : (cv != 0) = false := by simpa using hv
                  have HR : Hush (R = (n1, n2, n3, l, lg, 0)) := ⟨by rw [← HA.out, bourseref12_Parse.fin, if_pos HZ.out, if_pos hv]⟩
                  clear hv
                  go_wp2
                  obtain rfl := HR.out
                  exact bodyPost_ret (v := .tuple #[.agg #[.int .u64 n1, .int .u64 n2, .int .u64 n3, .slice A3 l.length c3, .slice A4 lg.length c4], .int .i64 0]) (by simp [results, Tryd.results19, go_sem, d0, d1, d2, d3, d4]) rfl
                    ⟨_, _, rfl, R_of_own (d := k114) bourseref12_cells114 (fun _ => rfl) (fun ok x => k114_mkM _ _ ok x) (own_set5 _ _ _ _ _ o3'.out ⟨_, H2.out⟩ (by decide)), R_of_own (d := k115) bourseref12_cells115 (fun _ => rfl) (fun ok x => k115_mkM _ _ ok x) (own_set5 _ _ _ _ _ o4'.out ⟨_, H2.out⟩ (by decide)), below_set5 _ _ _ _ _ bel'.out (Nat.le_refl _)⟩
                · have hv1 : (cv == 0) = false := by simpa using hv
                  have hv2 : (cv != 0) = true := by simpa using hv
                  have HR : Hush (R = (0, 0, 0, [], [], cv)) := ⟨by rw [← HA.out, bourseref12_Parse.fin, if_pos HZ.out, if_neg hv]⟩
                  clear hv
                  go_wp2
                  obtain rfl := HR.out
                  exact bodyPost_ret (v := .tuple #[.agg #[.int .u64 0, .int .u64 0, .int .u64 0, .slice none 0 0, .slice none 0 0], .int .i64 cv]) (by simp [results, Tryd.results19, go_sem, d0, d1, d2, d3, d4]) rfl ⟨_, _, rfl, Kd.R_nil _ _ _ _ _, Kd.R_nil _ _ _ _ _, below_set5 _ _ _ _ _ bel'.out (Nat.le_refl _)⟩
              · have hz1 : (z == 0) = false := by simpa using hz
                have hz2 : (z != 0) = true := by simpa using hz
                have HR : Hush (R = (0, 0, 0, [], [], z)) := ⟨by rw [← HA.out, bourseref12_Parse.fin, if_neg hz]⟩
                clear hz
                have d0 : W30.cell? ⟨w.heap.size, 0, none⟩ = some (.int .u64 0) := blk_cell U.h2 0
                have f0 := blk_frozen U.h2 0
                have d1 : W30.cell? ⟨w.heap.size, 1, none⟩ = some (.int .u64 0) := blk_cell U.h2 1
                have f1 := blk_frozen U.h2 1
                have d2 : W30.cell? ⟨w.heap.size, 2, none⟩ = some (.int .u64 0) := blk_cell U.h2 2
                have f2 := blk_frozen U.h2 2
                have d3 : W30.cell? ⟨w.heap.size, 3, none⟩ = some (.slice none 0 0) := blk_cell U.h2 3
                have f3 := blk_frozen U.h2 3
                have d4 : W30.cell? ⟨w.heap.size, 4, none⟩ = some (.slice none 0 0) := blk_cell U.h2 4
                have f4 := blk_frozen U.h2 4
                have HU := Hush.mk U
                clear U
                go_wp2
                obtain rfl := HR.out
                exact bodyPost_ret (v := .tuple #[.agg #[.int .u64 0, .int .u64 0, .int .u64 0, .slice none 0 0, .slice none 0 0], .int .i64 z]) (by simp [results, Tryd.results19, go_sem, d0, d1, d2, d3, d4]) rfl ⟨_, _, rfl, Kd.R_nil _ _ _ _ _, Kd.R_nil _ _ _ _ _, below_set5 _ _ _ _ _ HU.out.bel (Nat.le_refl _)⟩
theorem bourseref12_Parse.calls (a0 : ByteArray) (r1 : Int) (r2 : Int) (r3 : Int) (r4 : List (S114)) (r5 : List (S115)) (r6 : Int) (w : World) (h : bourseref12_Parse.f a0 = some (r1, r2, r3, r4, r5, r6)) :
    Calls Tryd.prog 19 #[.string a0] w fun e w' => ∃ v3_ v4_ : Value, e = .returned (.tuple #[.agg #[.int .u64 r1, .int .u64 r2, .int .u64 r3, v3_, v4_], .int .i64 r6]) ∧ Kd.R k114 114 w' w.heap.size (fun _ => True) v3_ r4 ∧ Kd.R k115 115 w' w.heap.size (fun _ => True) v4_ r5 ∧ Below w.heap.size w w' := bourseref12_Parse.walk a0 _ w h
end Go.Proofs.YteilnbnnhocciaaDoor.K

/-! F1 -/
set_option linter.unusedVariables false
namespace Go.Proofs.YteilnbnnhocciaaDoor.E
open Go.RowKit Go.Proofs.YteilnbnnhocciaaDoorW.PrintWords Go.Proofs.YteilnbnnhocciaaDoorW.PrintMore Go.Proofs.YteilnbnnhocciaaDoorM Go.Proofs.YteilnbnnhocciaaDoor.K
def c107 (a : S107) : S114 := ⟨a.f0, ⟨a.f1.f0, a.f1.f1, a.f1.f2, a.f1.f3, a.f1.f4⟩⟩
def c111 (a : S111) : S115 := ⟨a.f0, a.f1⟩
theorem nx_eq (n c i : Nat) (hc : c < 256) (hb : n + c % 128 * 128 ^ i < 18446744073709551616) : bourseref03_Reader_Num.nx (n : Int) ((128 ^ i : Nat) : Int) (c : Int) = ((n + c % 128 * 128 ^ i : Nat) : Int) := by
  have e1 : (((128 ^ i : Nat) : Int) * ((c : Int) % 128)) = ((c % 128 * 128 ^ i : Nat) : Int) := by
    rw [show ((c : Int) % 128) = ((c % 128 : Nat) : Int) by omega, ← Int.natCast_mul, Nat.mul_comm]
  rw [bourseref03_Reader_Num.nx, e1, IntKind.wrap_u64, IntKind.wrap_u64]
  omega
theorem scan_eq : ∀ (d k : Nat) (s : ByteArray) (p n i : Nat), i + d = 9 → d + 1 < k → n < 128 ^ i → p + i ≤ s.size → bourseref03_Reader_Num.l k s p (n : Int) ((128 ^ i : Nat) : Int) i = varint_Reader_scan.l k s p (n : Int) i := by
  intro d
  induction d with
  | zero =>
    intro k s p n i hi hk hn hp
    obtain ⟨k, rfl⟩ : ∃ k', k = k' + 1 := ⟨k - 1, by omega⟩
    have h9 : i = 9 := by omega
    subst h9
    have e9 : (128 : Nat) ^ 9 = 9223372036854775808 := by decide
    rw [varint_Reader_scan.l, bourseref03_Reader_Num.l]
    by_cases h1 : s.size ≤ p + 9
    · rw [if_pos h1, if_pos h1]
    · rw [if_neg h1, if_neg h1]
      obtain ⟨c, hc, hd⟩ := bt_list s (p + 9) (by omega)
      rw [hc]
      have hc2 := c.toNat_lt
      by_cases h2 : 9 = 9 ∧ 1 < (c.toNat : Int)
      · rw [if_pos h2, if_pos h2]
      · rw [if_neg h2, if_neg h2]
        have h3 : c.toNat ≤ 1 := by omega
        have hb : n + c.toNat % 128 * 128 ^ 9 < 18446744073709551616 := by rw [e9] at hn ⊢; omega
        have a1 : ¬ (128 : Int) ≤ (c.toNat : Int) := by omega
        have a2 : ¬ (127 : Int) < (c.toNat : Int) := by omega
        rw [if_neg a1, if_neg a2, step_eq n c.toNat 9 hc2 hn hb, nx_eq n c.toNat 9 hc2 hb]
  | succ d ih =>
    intro k s p n i hi hk hn hp
    obtain ⟨k, rfl⟩ : ∃ k', k = k' + 1 := ⟨k - 1, by omega⟩
    rw [varint_Reader_scan.l, bourseref03_Reader_Num.l]
    by_cases h1 : s.size ≤ p + i
    · rw [if_pos h1, if_pos h1]
    · rw [if_neg h1, if_neg h1]
      obtain ⟨c, hc, hd⟩ := bt_list s (p + i) (by omega)
      rw [hc]
      have hc2 := c.toNat_lt
      have a0 : ¬ (i = 9 ∧ (1 : Int) < (c.toNat : Int)) := by omega
      rw [if_neg a0, if_neg a0]
      have hpow : 128 ^ i ≤ 128 ^ 8 := Nat.pow_le_pow_right (by decide) (by omega)
      have e8 : (128 : Nat) ^ 8 = 72057594037927936 := by decide
      have hmul : c.toNat % 128 * 128 ^ i ≤ 127 * 128 ^ i := Nat.mul_le_mul_right _ (by omega)
      have hb : n + c.toNat % 128 * 128 ^ i < 18446744073709551616 := by omega
      rw [step_eq n c.toNat i hc2 hn hb, nx_eq n c.toNat i hc2 hb]
      by_cases h2 : (128 : Int) ≤ (c.toNat : Int)
      · have a1 : (127 : Int) < (c.toNat : Int) := by omega
        rw [if_pos h2, if_pos a1]
        have hu : IntKind.u64.wrap (((128 ^ i : Nat) : Int) * 128) = ((128 ^ (i + 1) : Nat) : Int) := by
          rw [IntKind.wrap_u64, Nat.pow_succ]; omega
        rw [hu]
        exact ih k s p (n + c.toNat % 128 * 128 ^ i) (i + 1) (by omega) (by omega) (by rw [Nat.pow_succ]; omega) (by omega)
      · have a1 : ¬ (127 : Int) < (c.toNat : Int) := by omega
        rw [if_neg h2, if_neg a1]
theorem num_eq {s : ByteArray} {p : Int} (e : Int) (hw : WF s p) : bourseref03_Reader_Num.f s p e = varint_Reader_Num.f s p e := by
  unfold bourseref03_Reader_Num.f varint_Reader_Num.f
  rw [ok_f]
  simp only [Option.bind_some]
  by_cases he : e = 0
  · subst he
    have hw2 : 0 ≤ p ∧ p ≤ s.size ∧ s.size ≤ 140737488351232 := hw
    rw [if_pos rfl, if_pos hw2, if_pos (by rfl), varint_Reader_scan.f, if_pos hw2]
    obtain ⟨q, rfl⟩ := Int.eq_ofNat_of_zero_le hw.1
    have h := scan_eq 9 11 s q 0 0 (by omega) (by omega) (by decide) (by have := hw.2.1; omega)
    have h' : bourseref03_Reader_Num.l 11 s (q : Int).toNat 0 1 0 = varint_Reader_scan.l 11 s (q : Int).toNat 0 0 := h
    rw [h']
    cases varint_Reader_scan.l 11 s (q : Int).toNat 0 0 with
    | none => rfl
    | some t =>
      simp only [Option.bind_some, bourseref03_Reader_Num.r]
      by_cases hz : t.2.2 = 0
      · rw [if_pos hz, if_pos hz]
      · rw [if_neg hz, if_neg hz]
  · have hb : (e == 0) = false := by simpa using he
    rw [if_neg he, hb, if_neg (by simp)]
theorem fail_eq (s : ByteArray) (p e x : Int) : bourseref03_Reader_Fail.f s p e x = varint_Reader_Fail.f s p e x := by
  rw [fail_f]
  unfold bourseref03_Reader_Fail.f
  by_cases h : e = 0
  · rw [if_pos h, if_pos h]
  · rw [if_neg h, if_neg h]
theorem take_eq (s : ByteArray) (p e n : Int) : bourseref03_Reader_Take.f s p e n = varint_Reader_Take.f s p e n := by
  unfold bourseref03_Reader_Take.f varint_Reader_Take.f
  rw [ok_f]
  simp only [Option.bind_some]
  by_cases he : e = 0
  · subst he; rfl
  · have hb : (e == 0) = false := by simpa using he
    rw [if_neg he, hb, if_neg (by simp)]
theorem text_eq {s : ByteArray} {p : Int} (e : Int) (hw : WF s p) : bourseref03_Reader_Text.f 9 s p e 200 = varint_Reader_Text.f s p e 200 := by
  have hmx : IntKind.u64.wrap (mx 200 0) = 200 := by decide
  have hm2 : IntKind.u64.wrap 200 = 200 := by decide
  obtain ⟨v, p', e', h1, _⟩ := num_good.total s p e hw
  unfold bourseref03_Reader_Text.f varint_Reader_Text.f
  rw [num_eq e hw, h1]
  simp only [Option.bind_some]
  rw [if_neg (by decide), bourseref03_Reader_Text.j0, hmx, hm2]
  by_cases h : v > 200
  · rw [if_pos h, if_pos h, fail_eq]
  · rw [if_neg h, if_neg h, take_eq]
theorem level_eq {s : ByteArray} {p : Int} (e : Int) (hw : WF s p) : bourseref12_level.f s p e = edit_levelOf.f s p e := by
  obtain ⟨v, p', e', h1, _⟩ := num_good.total s p e hw
  unfold bourseref12_level.f edit_levelOf.f
  rw [num_eq e hw, h1]
  simp only [Option.bind_some]
  by_cases h : v > 3
  · rw [if_pos h, if_pos (by omega), fail_eq]
  · rw [if_neg h, if_neg (by omega)]
theorem count_eq {s : ByteArray} {p : Int} (e : Int) (hw : WF s p) : bourseref12_count.f s p e = edit_count.f s p e := by
  obtain ⟨v, p', e', h1, _⟩ := num_good.total s p e hw
  unfold bourseref12_count.f edit_count.f
  rw [num_eq e hw, h1]
  simp only [Option.bind_some]
  by_cases h : v > 200
  · rw [if_pos h, if_pos h, fail_eq]
  · rw [if_neg h, if_neg h]
theorem end_eq {s : ByteArray} {p : Int} (e : Int) (hw : WF s p) : bourseref03_Reader_End.f s p e = varint_Reader_End.f s p e := by
  obtain ⟨h0, h1, h2⟩ := hw
  unfold bourseref03_Reader_End.f varint_Reader_End.f
  simp only [varint_Reader_Err.f, varint_Reader_Left.f, Option.bind_some]
  by_cases he : e = 0
  · rw [if_pos he, if_pos he, wrap_in (by omega) (by omega)]
    by_cases h : p < (s.size : Int)
    · rw [if_pos h, if_pos (by omega)]
    · rw [if_neg h, if_neg (by omega), he]
  · rw [if_neg he, if_neg he]
theorem come_eq {s : ByteArray} {p : Int} (e : Int) (hw : WF s p) : bourseref12_Parse.come s p e = (edit_Parse.come s p e).map (fun t => (c107 t.1, t.2)) := by
  unfold bourseref12_Parse.come edit_Parse.come
  obtain ⟨v0, p0, e0, h0, w0, _⟩ := level_good.total s p e hw
  rw [level_eq e hw, h0]
  simp only [Option.bind_some]
  obtain ⟨v1, p1, e1, h1, w1, _⟩ := num_good.total s p0 e0 w0
  rw [num_eq e0 w0, h1]
  simp only [Option.bind_some]
  obtain ⟨v2, p2, e2, h2, w2, _⟩ := num_good.total s p1 e1 w1
  rw [num_eq e1 w1, h2]
  simp only [Option.bind_some]
  obtain ⟨v3, p3, e3, h3, w3, _⟩ := num_good.total s p2 e2 w2
  rw [num_eq e2 w2, h3]
  simp only [Option.bind_some]
  obtain ⟨v4, p4, e4, h4, w4, _⟩ := text_good.total s p3 e3 w3
  have h4' : varint_Reader_Text.f s p3 e3 200 = some (v4, s, p4, e4) := h4
  rw [text_eq e3 w3, h4']
  simp only [Option.bind_some]
  obtain ⟨v5, p5, e5, h5, w5, _⟩ := text_good.total s p4 e4 w4
  have h5' : varint_Reader_Text.f s p4 e4 200 = some (v5, s, p5, e5) := h5
  rw [text_eq e4 w4, h5']
  rfl
theorem gone_eq {s : ByteArray} {p : Int} (e : Int) (hw : WF s p) : bourseref12_Parse.gone s p e = (edit_Parse.gone s p e).map (fun t => (c111 t.1, t.2)) := by
  unfold bourseref12_Parse.gone edit_Parse.gone
  obtain ⟨v0, p0, e0, h0, w0, _⟩ := level_good.total s p e hw
  rw [level_eq e hw, h0]
  simp only [Option.bind_some]
  obtain ⟨v1, p1, e1, h1, w1, _⟩ := num_good.total s p0 e0 w0
  rw [num_eq e0 w0, h1]
  rfl
theorem comes_eq : ∀ (n : Nat) (s : ByteArray) (p e : Int) (acc : List S107), WF s p → bourseref12_Parse.comes n s p e (acc.map c107) = (edit_Parse.comes n s p e acc).map (fun t => (t.1.map c107, t.2)) := by
  intro n
  induction n with
  | zero => intro s p e acc hw; rfl
  | succ n ih =>
    intro s p e acc hw
    rw [bourseref12_Parse.comes, edit_Parse.comes]
    by_cases he : e = 0
    · rw [if_pos he, if_pos he, come_eq e hw]
      obtain ⟨v, q, e2, h1, hw1, _, hs⟩ := come_good.total s p e hw
      rw [h1]
      simp only [Option.bind_some, Option.map_some, List.length_map]
      by_cases hl : acc.length < 2199023255552
      · rw [if_pos hl, if_pos hl]
        have := ih s q e2 (acc ++ [v]) hw1
        rw [List.map_append] at this
        exact this
      · rw [if_neg hl, if_neg hl]; rfl
    · rw [if_neg he, if_neg he]; rfl
theorem gones_eq : ∀ (n : Nat) (s : ByteArray) (p e : Int) (acc : List S111), WF s p → bourseref12_Parse.gones n s p e (acc.map c111) = (edit_Parse.gones n s p e acc).map (fun t => (t.1.map c111, t.2)) := by
  intro n
  induction n with
  | zero => intro s p e acc hw; rfl
  | succ n ih =>
    intro s p e acc hw
    rw [bourseref12_Parse.gones, edit_Parse.gones]
    by_cases he : e = 0
    · rw [if_pos he, if_pos he, gone_eq e hw]
      obtain ⟨v, q, e2, h1, hw1, _, hs⟩ := gone_good.total s p e hw
      rw [h1]
      simp only [Option.bind_some, Option.map_some, List.length_map]
      by_cases hl : acc.length < 8796093022208
      · rw [if_pos hl, if_pos hl]
        have := ih s q e2 (acc ++ [v]) hw1
        rw [List.map_append] at this
        exact this
      · rw [if_neg hl, if_neg hl]; rfl
    · rw [if_neg he, if_neg he]; rfl
end Go.Proofs.YteilnbnnhocciaaDoor.E
