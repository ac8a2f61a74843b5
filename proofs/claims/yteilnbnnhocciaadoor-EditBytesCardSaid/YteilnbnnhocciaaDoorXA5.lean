/- EditBytes is true for every input: the card, tied (part 5 of 7; packed by program out of the texts named below) -/
import Derived.Test.YteilnbnnhocciaaDoorXA4

/-! K26 -/
namespace Go.Proofs.YteilnbnnhocciaaDoor.K
open Go.RowKit Go.Proofs.YteilnbnnhocciaaDoorW.PrintWords Go.Proofs.YteilnbnnhocciaaDoorW.PrintLast Go.Proofs.YteilnbnnhocciaaDoorW.PrintMore Go.Proofs.YteilnbnnhocciaaDoorM
attribute [local go_sem] max2_int min2_int max_two min_two max_three min_three max_four min_four
set_option linter.unusedVariables false
set_option linter.unusedSimpArgs false
mutual
def bourselaw12_To.l0 : Nat → List (S107) → Int → Int → Int → Int → Int → List (S107) → List (S111) → Int → Int → Int → List (S114) → Option (Int × Int × Int × (List (S114)) × (List (S115)))
  | 0, _, _, _, _, _, _, _, _, _, _, _, _ => none
  | k + 1, x16, x17, x18, x182000, x182001, x182002, x182003, x182004, x184000, x184001, x184002, x184003 => if x18 < x17 then (if 0 ≤ x18 then (if x18 < (x16.length : Int) then (if x184003.length < 2199023255552 then (bourselaw12_To.l0 k x16 x17 (wrap64 (x18 + 1)) x182000 x182001 x182002 x182003 x182004 x184000 x184001 x184002 (x184003 ++ [(⟨(rd_T107 x16 x18).f0, (⟨(rd_T107 x16 x18).f1.f0, (rd_T107 x16 x18).f1.f1, (rd_T107 x16 x18).f1.f2, (rd_T107 x16 x18).f1.f3, (rd_T107 x16 x18).f1.f4⟩ : S112)⟩ : S114)])) else (none)) else (none)) else (none)) else (bourselaw12_To.l1 k x182004 (x182004.length : Int) 0 x184000 x184001 x184002 x184003 ([] : List (S115)))
def bourselaw12_To.l1 : Nat → List (S111) → Int → Int → Int → Int → Int → List (S114) → List (S115) → Option (Int × Int × Int × (List (S114)) × (List (S115)))
  | 0, _, _, _, _, _, _, _, _ => none
  | k + 1, x34, x35, x36, x184000, x184001, x184002, x184003, x184004 => if x36 < x35 then (if 0 ≤ x36 then (if x36 < (x34.length : Int) then (if x184004.length < 8796093022208 then (bourselaw12_To.l1 k x34 x35 (wrap64 (x36 + 1)) x184000 x184001 x184002 x184003 (x184004 ++ [(⟨(rd_T111 x34 x36).f0, (rd_T111 x34 x36).f1⟩ : S115)])) else (none)) else (none)) else (none)) else (some (x184000, x184001, x184002, x184003, x184004))
end
def bourselaw12_To.f (k : Nat) (a0_0 : Int) (a0_1 : Int) (a0_2 : Int) (l0_3 : List (S107)) (l0_4 : List (S111)) : Option (Int × Int × Int × (List (S114)) × (List (S115))) := bourselaw12_To.l0 k l0_3 (l0_3.length : Int) 0 a0_0 a0_1 a0_2 l0_3 l0_4 a0_0 a0_1 a0_2 ([] : List (S114))
set_option maxHeartbeats 8000000 in
set_option maxRecDepth 100000 in
theorem bourselaw12_To.calls (k : Nat) (a0_0 : Int) (a0_1 : Int) (a0_2 : Int) (A0_3 : Option Addr) (c0_3 : Nat) (l0_3 : List (S107)) (A0_4 : Option Addr) (c0_4 : Nat) (l0_4 : List (S111)) (r1 : Int) (r2 : Int) (r3 : Int) (r4 : List (S114)) (r5 : List (S115)) (w : World) (hr0_3 : Kd.C k107 w A0_3 l0_3.length l0_3) (hc0_3 : l0_3.length ≤ c0_3) (hr0_4 : Kd.C k111 w A0_4 l0_4.length l0_4) (hc0_4 : l0_4.length ≤ c0_4) (h : bourselaw12_To.f k a0_0 a0_1 a0_2 l0_3 l0_4 = some (r1, r2, r3, r4, r5)) :
    Calls Tryd.prog 16 #[.agg #[.int .u64 a0_0, .int .u64 a0_1, .int .u64 a0_2, .slice A0_3 l0_3.length c0_3, .slice A0_4 l0_4.length c0_4]] w fun e w' => ∃ v3_ v4_ : Value, e = .returned (.agg #[.int .u64 r1, .int .u64 r2, .int .u64 r3, v3_, v4_]) ∧ Kd.R k114 114 w' w.heap.size (fun _ => True) v3_ r4 ∧ Kd.R k115 115 w' w.heap.size (fun _ => True) v4_ r5 ∧ Below w.heap.size w w' := by
  have hu26 := Tryd.underlying26
  have hu36 := Tryd.underlying36
  have hu107 := Tryd.underlying107
  have hu97 := Tryd.underlying97
  have hu114 := Tryd.underlying114
  have hu111 := Tryd.underlying111
  have HR0_3 := Aside0.mk hr0_3
  have HC0_3 := Aside0.mk hc0_3
  clear hr0_3 hc0_3
  have HR0_4 := Aside0.mk hr0_4
  have HC0_4 := Aside0.mk hc0_4
  clear hr0_4 hc0_4
  have HB := Aside0.mk (Below.refl w.heap.size w)
  have H : (bourselaw12_To.l0 k l0_3 (l0_3.length : Int) 0 a0_0 a0_1 a0_2 l0_3 l0_4 a0_0 a0_1 a0_2 ([] : List (S114))) = some (r1, r2, r3, r4, r5) := h
  clear h
  have H' := Aside0.mk H
  clear H
  go_enter Tryd.func16, Tryd.ntmps16
  go_wp2_with (first | ((with_reducible refine gate_dst (N := 1) rfl ?_); refine box_event ?hg (N := 1) ?hd (cs := #[.int .u64 a0_0, .int .u64 a0_1, .int .u64 a0_2, .slice A0_3 l0_3.length c0_3, .slice A0_4 l0_4.length c0_4]) (t := 26) ?hr ?_; (case hd => rfl); (case hg => rfl); (case hr => first | (go_simp; done) | (go_simp; rfl)); intro gb181 hg w2 hbox hb; have n0_ := Aside0.mk (below_step (by repeat (first | (with_reducible first | exact HB.out | apply below_alloc | apply pw_below_drewN | apply below_drew1) | exact HB.out)) hb); have n1_ := Aside0.mk (hbox); have n2_ := Aside0.mk ((by rw [hg]; exact (below_size (by repeat (first | (with_reducible first | exact HB.out | apply below_alloc | apply pw_below_drewN | apply below_drew1) | exact HB.out))) : w.heap.size ≤ gb181)); have n3_ := Aside0.mk ((by rw [hg]; exact (below_size (by repeat (first | (with_reducible first | exact HB.out | apply below_alloc | apply pw_below_drewN | apply below_drew1) | exact HB.out))) : w.heap.size ≤ gb181)); clear HB; have HB := n0_; have BK181 := n1_; have GW181 := n2_; have GE181 := n3_; clear n0_ n1_ n2_ n3_; clear hb hbox hg) | ((with_reducible refine gate_dst (N := 2) rfl ?_); refine box_event ?hg (N := 2) ?hd (cs := #[.int .u64 0, .int .u64 0, .int .u64 0, .slice none 0 0, .slice none 0 0]) (t := 36) ?hr ?_; (case hd => rfl); (case hg => rfl); (case hr => first | (go_simp; done) | (go_simp; rfl)); intro gb182 hg w3 hbox hb; have n0_ := Aside0.mk (blk_below (g := gb181) (o := .cells #[.int .u64 a0_0, .int .u64 a0_1, .int .u64 a0_2, .slice A0_3 l0_3.length c0_3, .slice A0_4 l0_4.length c0_4] 26 (0, 0)) (by (with_reducible repeat (first | refine blk_drewN ?_ _ | refine blk_drew ?_ | refine blk_alloc ?_ _)); exact BK181.out) hb); have n1_ := Aside0.mk (below_step (by repeat (first | (with_reducible first | exact HB.out | apply below_alloc | apply pw_below_drewN | apply below_drew1 | refine below_set ?_ GE181.out) | exact HB.out)) hb); have n2_ := Aside0.mk (hbox); have n3_ := Aside0.mk ((by rw [hg]; exact (below_size (by repeat (first | (with_reducible first | exact HB.out | apply below_alloc | apply pw_below_drewN | apply below_drew1 | refine below_set ?_ GE181.out) | exact HB.out))) : w.heap.size ≤ gb182)); have n4_ := Aside0.mk ((by rw [hg]; exact (below_size (by repeat (first | (with_reducible first | exact HB.out | apply below_alloc | apply pw_below_drewN | apply below_drew1 | refine below_set ?_ GE181.out) | exact HB.out))) : w.heap.size ≤ gb182)); have n5_ := Aside0.mk ((by rw [hg]; exact Nat.ne_of_lt (blk_lt (g := gb181) (o := .cells #[.int .u64 a0_0, .int .u64 a0_1, .int .u64 a0_2, .slice A0_3 l0_3.length c0_3, .slice A0_4 l0_4.length c0_4] 26 (0, 0)) (by (with_reducible repeat (first | refine blk_drewN ?_ _ | refine blk_drew ?_ | refine blk_alloc ?_ _)); exact BK181.out)) : gb181 ≠ gb182)); have n6_ := Aside0.mk ((by rw [hg]; exact Nat.ne_of_gt (blk_lt (g := gb181) (o := .cells #[.int .u64 a0_0, .int .u64 a0_1, .int .u64 a0_2, .slice A0_3 l0_3.length c0_3, .slice A0_4 l0_4.length c0_4] 26 (0, 0)) (by (with_reducible repeat (first | refine blk_drewN ?_ _ | refine blk_drew ?_ | refine blk_alloc ?_ _)); exact BK181.out)) : gb182 ≠ gb181)); clear BK181; clear HB; have BK181 := n0_; have HB := n1_; have BK182 := n2_; have GW182 := n3_; have GE182 := n4_; have NB181_182 := n5_; have NB182_181 := n6_; clear n0_ n1_ n2_ n3_ n4_ n5_ n6_; clear hb hbox hg; have hnb4 := NB181_182.out; have hnc4 := NB182_181.out; have hcz5_0 : w3.cell? ⟨gb181, 0, none⟩ = some (.int .u64 a0_0) := (blk_cell BK181.out 0).trans rfl; have hcz5_1 : w3.cell? ⟨gb181, 1, none⟩ = some (.int .u64 a0_1) := (blk_cell BK181.out 1).trans rfl; have hcz5_2 : w3.cell? ⟨gb181, 2, none⟩ = some (.int .u64 a0_2) := (blk_cell BK181.out 2).trans rfl; have hcz5_3 : w3.cell? ⟨gb181, 3, none⟩ = some (.slice A0_3 l0_3.length c0_3) := (blk_cell BK181.out 3).trans rfl; have hcz5_4 : w3.cell? ⟨gb181, 4, none⟩ = some (.slice A0_4 l0_4.length c0_4) := (blk_cell BK181.out 4).trans rfl; have hfz5_0 := blk_frozen BK181.out 0; have hfz5_1 := blk_frozen BK181.out 1; have hfz5_2 := blk_frozen BK181.out 2; have hfz5_3 := blk_frozen BK181.out 3; have hfz5_4 := blk_frozen BK181.out 4) | ((with_reducible refine gate_dst (N := 3) rfl ?_); refine box_event ?hg (N := 3) ?hd (cs := #[.int .u64 0, .int .u64 0, .int .u64 0, .slice none 0 0, .slice none 0 0]) (t := 36) ?hr ?_; (case hd => rfl); (case hg => rfl); (case hr => first | (go_simp; done) | (go_simp; rfl)); intro gb183 hg w6 hbox hb; have n0_ := Aside0.mk (blk_below (g := gb181) (o := .cells #[.int .u64 a0_0, .int .u64 a0_1, .int .u64 a0_2, .slice A0_3 l0_3.length c0_3, .slice A0_4 l0_4.length c0_4] 26 (0, 0)) (by (with_reducible repeat (first | refine blk_drewN ?_ _ | refine blk_drew ?_ | refine blk_alloc ?_ _)); exact BK181.out) hb); have n1_ := Aside0.mk (blk_below (g := gb182) (o := .cells #[.int .u64 0, .int .u64 0, .int .u64 0, .slice none 0 0, .slice none 0 0] 36 (0, 0)) (by (with_reducible repeat (first | refine blk_drewN ?_ _ | refine blk_drew ?_ | refine blk_alloc ?_ _)); exact BK182.out) hb); have n2_ := Aside0.mk (below_step (by repeat (first | (with_reducible first | exact HB.out | apply below_alloc | apply pw_below_drewN | apply below_drew1 | refine below_set ?_ GE181.out | refine below_set ?_ GE182.out) | exact HB.out)) hb); have n3_ := Aside0.mk (hbox); have n4_ := Aside0.mk ((by rw [hg]; exact (below_size (by repeat (first | (with_reducible first | exact HB.out | apply below_alloc | apply pw_below_drewN | apply below_drew1 | refine below_set ?_ GE181.out | refine below_set ?_ GE182.out) | exact HB.out))) : w.heap.size ≤ gb183)); have n5_ := Aside0.mk ((by rw [hg]; exact (below_size (by repeat (first | (with_reducible first | exact HB.out | apply below_alloc | apply pw_below_drewN | apply below_drew1 | refine below_set ?_ GE181.out | refine below_set ?_ GE182.out) | exact HB.out))) : w.heap.size ≤ gb183)); have n6_ := Aside0.mk ((by rw [hg]; exact Nat.ne_of_lt (blk_lt (g := gb181) (o := .cells #[.int .u64 a0_0, .int .u64 a0_1, .int .u64 a0_2, .slice A0_3 l0_3.length c0_3, .slice A0_4 l0_4.length c0_4] 26 (0, 0)) (by (with_reducible repeat (first | refine blk_drewN ?_ _ | refine blk_drew ?_ | refine blk_alloc ?_ _)); exact BK181.out)) : gb181 ≠ gb183)); have n7_ := Aside0.mk ((by rw [hg]; exact Nat.ne_of_gt (blk_lt (g := gb181) (o := .cells #[.int .u64 a0_0, .int .u64 a0_1, .int .u64 a0_2, .slice A0_3 l0_3.length c0_3, .slice A0_4 l0_4.length c0_4] 26 (0, 0)) (by (with_reducible repeat (first | refine blk_drewN ?_ _ | refine blk_drew ?_ | refine blk_alloc ?_ _)); exact BK181.out)) : gb183 ≠ gb181)); have n8_ := Aside0.mk ((by rw [hg]; exact Nat.ne_of_lt (blk_lt (g := gb182) (o := .cells #[.int .u64 0, .int .u64 0, .int .u64 0, .slice none 0 0, .slice none 0 0] 36 (0, 0)) (by (with_reducible repeat (first | refine blk_drewN ?_ _ | refine blk_drew ?_ | refine blk_alloc ?_ _)); exact BK182.out)) : gb182 ≠ gb183)); have n9_ := Aside0.mk ((by rw [hg]; exact Nat.ne_of_gt (blk_lt (g := gb182) (o := .cells #[.int .u64 0, .int .u64 0, .int .u64 0, .slice none 0 0, .slice none 0 0] 36 (0, 0)) (by (with_reducible repeat (first | refine blk_drewN ?_ _ | refine blk_drew ?_ | refine blk_alloc ?_ _)); exact BK182.out)) : gb183 ≠ gb182)); clear BK181; clear BK182; clear HB; have BK181 := n0_; have BK182 := n1_; have HB := n2_; have BK183 := n3_; have GW183 := n4_; have GE183 := n5_; have NB181_183 := n6_; have NB183_181 := n7_; have NB182_183 := n8_; have NB183_182 := n9_; clear n0_ n1_ n2_ n3_ n4_ n5_ n6_ n7_ n8_ n9_; clear hb hbox hg; have hnb7 := NB183_181.out; have hnc7 := NB181_183.out; have hnb8 := NB183_182.out; have hnc8 := NB182_183.out; have hcz9_0 : w6.cell? ⟨gb183, 0, none⟩ = some (.int .u64 0) := (blk_cell BK183.out 0).trans rfl; have hcz9_1 : w6.cell? ⟨gb183, 1, none⟩ = some (.int .u64 0) := (blk_cell BK183.out 1).trans rfl; have hcz9_2 : w6.cell? ⟨gb183, 2, none⟩ = some (.int .u64 0) := (blk_cell BK183.out 2).trans rfl; have hcz9_3 : w6.cell? ⟨gb183, 3, none⟩ = some (.slice none 0 0) := (blk_cell BK183.out 3).trans rfl; have hcz9_4 : w6.cell? ⟨gb183, 4, none⟩ = some (.slice none 0 0) := (blk_cell BK183.out 4).trans rfl; have hfz9_0 := blk_frozen BK183.out 0; have hfz9_1 := blk_frozen BK183.out 1; have hfz9_2 := blk_frozen BK183.out 2; have hfz9_3 := blk_frozen BK183.out 3; have hfz9_4 := blk_frozen BK183.out 4; have hcz10_0 : w6.cell? ⟨gb181, 0, none⟩ = some (.int .u64 a0_0) := (blk_cell BK181.out 0).trans rfl; have hcz10_1 : w6.cell? ⟨gb181, 1, none⟩ = some (.int .u64 a0_1) := (blk_cell BK181.out 1).trans rfl; have hcz10_2 : w6.cell? ⟨gb181, 2, none⟩ = some (.int .u64 a0_2) := (blk_cell BK181.out 2).trans rfl; have hcz10_3 : w6.cell? ⟨gb181, 3, none⟩ = some (.slice A0_3 l0_3.length c0_3) := (blk_cell BK181.out 3).trans rfl; have hcz10_4 : w6.cell? ⟨gb181, 4, none⟩ = some (.slice A0_4 l0_4.length c0_4) := (blk_cell BK181.out 4).trans rfl; have hfz10_0 := blk_frozen BK181.out 0; have hfz10_1 := blk_frozen BK181.out 1; have hfz10_2 := blk_frozen BK181.out 2; have hfz10_3 := blk_frozen BK181.out 3; have hfz10_4 := blk_frozen BK181.out 4))
  go_loopg [18] k (fun kq v18 w' => ∃ (x18_1 : Int) (x184003_1 : List (S114)) (u184003 : Value), v18 = .int .i64 x18_1 ∧ Aside0 (bourselaw12_To.l0 kq l0_3 (l0_3.length : Int) x18_1 a0_0 a0_1 a0_2 l0_3 l0_4 a0_0 a0_1 a0_2 x184003_1 = some (r1, r2, r3, r4, r5)) ∧ Aside0 (kq ≤ k) ∧ Aside0 (Kd.R k114 114 w' w.heap.size (fun _ => True) u184003 x184003_1) ∧ Aside0 (w'.heap[gb181]? = some (.cells #[.int .u64 a0_0, .int .u64 a0_1, .int .u64 a0_2, (.slice A0_3 l0_3.length c0_3), (.slice A0_4 l0_4.length c0_4)] 26 (0, 0))) ∧ Aside0 (w'.heap[gb182]? = some (.cells #[.int .u64 0, .int .u64 0, .int .u64 0, (.slice none 0 0), (.slice none 0 0)] 36 (0, 0))) ∧ Aside0 (w'.heap[gb183]? = some (.cells #[.int .u64 a0_0, .int .u64 a0_1, .int .u64 a0_2, u184003, (.slice none 0 0)] 36 (0, 0))) ∧ Aside0 (Below w.heap.size w w'))
  case atStart => exact ⟨(0), (([] : List (S114))), (.slice none 0 0), (by first | rfl | (simp; done) | (simp [*]; done)), H', ⟨Nat.le_refl _⟩, ⟨by first | exact Kd.R_nil _ _ _ _ _ | exact Kd.N_nil _ _ _ _ _ | exact Kd.V_nil _ _ _ _ _ | exact Kd.Q_nil _ _ _ _ _ | exact Kd.S_nil _ _ _ _ _⟩, ⟨by (with_reducible repeat (first | refine blk_drewN ?_ _ | refine blk_drew ?_ | refine blk_alloc ?_ _)); refine blk_far ?_ NB181_183.out _; (with_reducible repeat (first | refine blk_drewN ?_ _ | refine blk_drew ?_ | refine blk_alloc ?_ _)); refine blk_far ?_ NB181_183.out _; (with_reducible repeat (first | refine blk_drewN ?_ _ | refine blk_drew ?_ | refine blk_alloc ?_ _)); refine blk_far ?_ NB181_183.out _; (with_reducible repeat (first | refine blk_drewN ?_ _ | refine blk_drew ?_ | refine blk_alloc ?_ _)); refine blk_far ?_ NB181_183.out _; (with_reducible repeat (first | refine blk_drewN ?_ _ | refine blk_drew ?_ | refine blk_alloc ?_ _)); refine blk_far ?_ NB181_183.out _; (with_reducible repeat (first | refine blk_drewN ?_ _ | refine blk_drew ?_ | refine blk_alloc ?_ _)); exact BK181.out⟩, ⟨by (with_reducible repeat (first | refine blk_drewN ?_ _ | refine blk_drew ?_ | refine blk_alloc ?_ _)); refine blk_far ?_ NB182_183.out _; (with_reducible repeat (first | refine blk_drewN ?_ _ | refine blk_drew ?_ | refine blk_alloc ?_ _)); refine blk_far ?_ NB182_183.out _; (with_reducible repeat (first | refine blk_drewN ?_ _ | refine blk_drew ?_ | refine blk_alloc ?_ _)); refine blk_far ?_ NB182_183.out _; (with_reducible repeat (first | refine blk_drewN ?_ _ | refine blk_drew ?_ | refine blk_alloc ?_ _)); refine blk_far ?_ NB182_183.out _; (with_reducible repeat (first | refine blk_drewN ?_ _ | refine blk_drew ?_ | refine blk_alloc ?_ _)); refine blk_far ?_ NB182_183.out _; (with_reducible repeat (first | refine blk_drewN ?_ _ | refine blk_drew ?_ | refine blk_alloc ?_ _)); exact BK182.out⟩, ⟨by (with_reducible repeat (first | refine blk_drewN ?_ _ | refine blk_drew ?_ | refine blk_alloc ?_ _)); refine blk_put (cs := #[.int .u64 a0_0, .int .u64 a0_1, .int .u64 a0_2, .slice none 0 0, .slice none 0 0]) ?_ 4 _ rfl; (with_reducible repeat (first | refine blk_drewN ?_ _ | refine blk_drew ?_ | refine blk_alloc ?_ _)); refine blk_put (cs := #[.int .u64 a0_0, .int .u64 a0_1, .int .u64 a0_2, .slice none 0 0, .slice none 0 0]) ?_ 3 _ rfl; (with_reducible repeat (first | refine blk_drewN ?_ _ | refine blk_drew ?_ | refine blk_alloc ?_ _)); refine blk_put (cs := #[.int .u64 a0_0, .int .u64 a0_1, .int .u64 0, .slice none 0 0, .slice none 0 0]) ?_ 2 _ rfl; (with_reducible repeat (first | refine blk_drewN ?_ _ | refine blk_drew ?_ | refine blk_alloc ?_ _)); refine blk_put (cs := #[.int .u64 a0_0, .int .u64 0, .int .u64 0, .slice none 0 0, .slice none 0 0]) ?_ 1 _ rfl; (with_reducible repeat (first | refine blk_drewN ?_ _ | refine blk_drew ?_ | refine blk_alloc ?_ _)); refine blk_put (cs := #[.int .u64 0, .int .u64 0, .int .u64 0, .slice none 0 0, .slice none 0 0]) ?_ 0 _ rfl; (with_reducible repeat (first | refine blk_drewN ?_ _ | refine blk_drew ?_ | refine blk_alloc ?_ _)); exact BK183.out⟩, ⟨by repeat (first | (with_reducible first | exact HB.out | apply below_alloc | apply pw_below_drewN | apply below_drew1 | refine below_set ?_ GE181.out | refine below_set ?_ GE182.out | refine below_set ?_ GE183.out) | exact HB.out)⟩⟩
  case round =>
    clear H'
    try clear c1
    try clear p2
    try clear c4
    try clear c7
    try clear c8
    try clear hcz10_0
    try clear hcz10_1
    try clear hcz10_2
    try clear hcz10_3
    try clear hcz10_4
    try clear hcz5_0
    try clear hcz5_1
    try clear hcz5_2
    try clear hcz5_3
    try clear hcz5_4
    try clear hcz9_0
    try clear hcz9_1
    try clear hcz9_2
    try clear hcz9_3
    try clear hcz9_4
    try clear hfz10_0
    try clear hfz10_1
    try clear hfz10_2
    try clear hfz10_3
    try clear hfz10_4
    try clear hfz5_0
    try clear hfz5_1
    try clear hfz5_2
    try clear hfz5_3
    try clear hfz5_4
    try clear hfz9_0
    try clear hfz9_1
    try clear hfz9_2
    try clear hfz9_3
    try clear hfz9_4
    obtain ⟨x18_1, x184003_1, u184003, rfl, HA, HK1, HO_184003, BK181, BK182, BK183, HB⟩ := hrel
    cases gk with
    | zero => exact absurd HA.out (by simp [bourselaw12_To.l0])
    | succ k1 =>
      have H := HA.out
      clear HA
      simp only [bourselaw12_To.l0] at H
      by_cases c11 : x18_1 < (l0_3.length : Int)
      · rw [if_pos c11] at H
        have c11b0 : decide (x18_1 < (l0_3.length : Int)) = true := decide_eq_true c11
        clear c11
        by_cases c12 : 0 ≤ x18_1
        · rw [if_pos c12] at H
          have c12b0 : decide (0 ≤ x18_1) = true := decide_eq_true c12
          clear c12
          by_cases c13 : x18_1 < (l0_3.length : Int)
          · rw [if_pos c13] at H
            have c13b0 : decide (x18_1 < (l0_3.length : Int)) = true := decide_eq_true c13
            clear c13
            by_cases c14 : x184003_1.length < 2199023255552
            · rw [if_pos c14] at H
              have LMc14 := Aside0.mk c14
              clear c14
              obtain ⟨y186, hy186⟩ : ∃ y_ : List (S114), y_ = (x184003_1 ++ [(⟨(rd_T107 l0_3 x18_1).f0, (⟨(rd_T107 l0_3 x18_1).f1.f0, (rd_T107 l0_3 x18_1).f1.f1, (rd_T107 l0_3 x18_1).f1.f2, (rd_T107 l0_3 x18_1).f1.f3, (rd_T107 l0_3 x18_1).f1.f4⟩ : S112)⟩ : S114)]) := ⟨_, rfl⟩
              replace H : (bourselaw12_To.l0 k1 l0_3 (l0_3.length : Int) (wrap64 (x18_1 + 1)) a0_0 a0_1 a0_2 l0_3 l0_4 a0_0 a0_1 a0_2 y186) = some (r1, r2, r3, r4, r5) := by first | (rw [hy186]; with_reducible exact H) | (have H2_ := (Option.bind_some _ _).symm.trans H; rw [hy186]; with_reducible exact H2_) | (have H2_ := (Option.bind_some _ _).symm.trans H; with_reducible exact H2_) | with_reducible exact H | (rw [hy186]; exact H) | exact H
              have Ny186 := Aside0.mk hy186
              clear hy186
              have H' := Aside0.mk H
              clear H
              have p184 : 0 ≤ (x18_1 : Int) := of_decide_eq_true (by first | (with_reducible assumption) | assumption)
              have q184 : x18_1 < (l0_3.length : Int) := of_decide_eq_true (by first | (with_reducible assumption) | assumption)
              obtain ⟨ad184, e184, hx184_0, hx184_1, hx184_2, hx184_3, hx184_4, hx184_5⟩ := at_T107 HR0_3.out x18_1 p184 q184
              cases e184
              replace hx184_0 := (HB.out.cell (World.block_lt_of_cell? w _ hx184_0)).trans hx184_0
              replace hx184_1 := (HB.out.cell (World.block_lt_of_cell? w _ hx184_1)).trans hx184_1
              replace hx184_2 := (HB.out.cell (World.block_lt_of_cell? w _ hx184_2)).trans hx184_2
              replace hx184_3 := (HB.out.cell (World.block_lt_of_cell? w _ hx184_3)).trans hx184_3
              replace hx184_4 := (HB.out.cell (World.block_lt_of_cell? w _ hx184_4)).trans hx184_4
              replace hx184_5 := (HB.out.cell (World.block_lt_of_cell? w _ hx184_5)).trans hx184_5
              replace p184 := eq_true p184
              replace q184 := eq_true q184
              go_wp2_with (first | ((with_reducible refine gate_dst (N := 5) rfl ?_); refine box_event ?hg (N := 5) ?hd (cs := #[.int .i64 0, .int .u64 0, .int .u64 0, .int .u64 0, .string (⟨#[]⟩ : ByteArray), .string (⟨#[]⟩ : ByteArray)]) (t := 107) ?hr ?_; (case hd => rfl); (case hg => rfl); (case hr => first | (go_simp; done) | (go_simp; rfl)); intro gb185 hg w15 hbox hb; have n0_ := Aside0.mk (Kd.R_below (by (with_reducible repeat (first | apply Kd.R_alloc | apply Kd.R_drewN | apply Kd.R_drew)); exact HO_184003.out) hb); have n1_ := Aside0.mk (blk_below (g := gb181) (o := .cells #[.int .u64 a0_0, .int .u64 a0_1, .int .u64 a0_2, .slice (some ad184) l0_3.length c0_3, .slice A0_4 l0_4.length c0_4] 26 (0, 0)) (by (with_reducible repeat (first | refine blk_drewN ?_ _ | refine blk_drew ?_ | refine blk_alloc ?_ _)); exact BK181.out) hb); have n2_ := Aside0.mk (blk_below (g := gb182) (o := .cells #[.int .u64 0, .int .u64 0, .int .u64 0, .slice none 0 0, .slice none 0 0] 36 (0, 0)) (by (with_reducible repeat (first | refine blk_drewN ?_ _ | refine blk_drew ?_ | refine blk_alloc ?_ _)); exact BK182.out) hb); have n3_ := Aside0.mk (blk_below (g := gb183) (o := .cells #[.int .u64 a0_0, .int .u64 a0_1, .int .u64 a0_2, u184003, .slice none 0 0] 36 (0, 0)) (by (with_reducible repeat (first | refine blk_drewN ?_ _ | refine blk_drew ?_ | refine blk_alloc ?_ _)); exact BK183.out) hb); have n4_ := Aside0.mk (below_step (by repeat (first | (with_reducible first | exact HB.out | apply below_alloc | apply pw_below_drewN | apply below_drew1 | refine below_set ?_ GE181.out | refine below_set ?_ GE182.out | refine below_set ?_ GE183.out) | exact HB.out)) hb); have n5_ := Aside0.mk (hbox); have n6_ := Aside0.mk ((by rw [hg]; exact (below_size (by repeat (first | (with_reducible first | exact HB.out | apply below_alloc | apply pw_below_drewN | apply below_drew1 | refine below_set ?_ GE181.out | refine below_set ?_ GE182.out | refine below_set ?_ GE183.out) | exact HB.out))) : w.heap.size ≤ gb185)); have n7_ := Aside0.mk ((by rw [hg]; exact (below_size (by repeat (first | (with_reducible first | exact HB.out | apply below_alloc | apply pw_below_drewN | apply below_drew1 | refine below_set ?_ GE181.out | refine below_set ?_ GE182.out | refine below_set ?_ GE183.out) | exact HB.out))) : w.heap.size ≤ gb185)); have n8_ := Aside0.mk ((by rw [hg]; exact Nat.ne_of_lt (blk_lt (g := gb181) (o := .cells #[.int .u64 a0_0, .int .u64 a0_1, .int .u64 a0_2, .slice (some ad184) l0_3.length c0_3, .slice A0_4 l0_4.length c0_4] 26 (0, 0)) (by (with_reducible repeat (first | refine blk_drewN ?_ _ | refine blk_drew ?_ | refine blk_alloc ?_ _)); exact BK181.out)) : gb181 ≠ gb185)); have n9_ := Aside0.mk ((by rw [hg]; exact Nat.ne_of_gt (blk_lt (g := gb181) (o := .cells #[.int .u64 a0_0, .int .u64 a0_1, .int .u64 a0_2, .slice (some ad184) l0_3.length c0_3, .slice A0_4 l0_4.length c0_4] 26 (0, 0)) (by (with_reducible repeat (first | refine blk_drewN ?_ _ | refine blk_drew ?_ | refine blk_alloc ?_ _)); exact BK181.out)) : gb185 ≠ gb181)); have n10_ := Aside0.mk ((by rw [hg]; exact Nat.ne_of_lt (blk_lt (g := gb182) (o := .cells #[.int .u64 0, .int .u64 0, .int .u64 0, .slice none 0 0, .slice none 0 0] 36 (0, 0)) (by (with_reducible repeat (first | refine blk_drewN ?_ _ | refine blk_drew ?_ | refine blk_alloc ?_ _)); exact BK182.out)) : gb182 ≠ gb185)); have n11_ := Aside0.mk ((by rw [hg]; exact Nat.ne_of_gt (blk_lt (g := gb182) (o := .cells #[.int .u64 0, .int .u64 0, .int .u64 0, .slice none 0 0, .slice none 0 0] 36 (0, 0)) (by (with_reducible repeat (first | refine blk_drewN ?_ _ | refine blk_drew ?_ | refine blk_alloc ?_ _)); exact BK182.out)) : gb185 ≠ gb182)); have n12_ := Aside0.mk ((by rw [hg]; exact Nat.ne_of_lt (blk_lt (g := gb183) (o := .cells #[.int .u64 a0_0, .int .u64 a0_1, .int .u64 a0_2, u184003, .slice none 0 0] 36 (0, 0)) (by (with_reducible repeat (first | refine blk_drewN ?_ _ | refine blk_drew ?_ | refine blk_alloc ?_ _)); exact BK183.out)) : gb183 ≠ gb185)); have n13_ := Aside0.mk ((by rw [hg]; exact Nat.ne_of_gt (blk_lt (g := gb183) (o := .cells #[.int .u64 a0_0, .int .u64 a0_1, .int .u64 a0_2, u184003, .slice none 0 0] 36 (0, 0)) (by (with_reducible repeat (first | refine blk_drewN ?_ _ | refine blk_drew ?_ | refine blk_alloc ?_ _)); exact BK183.out)) : gb185 ≠ gb183)); clear HO_184003; clear BK181; clear BK182; clear BK183; clear HB; have HO_184003 := n0_; have BK181 := n1_; have BK182 := n2_; have BK183 := n3_; have HB := n4_; have BK185 := n5_; have GW185 := n6_; have GE185 := n7_; have NB181_185 := n8_; have NB185_181 := n9_; have NB182_185 := n10_; have NB185_182 := n11_; have NB183_185 := n12_; have NB185_183 := n13_; clear n0_ n1_ n2_ n3_ n4_ n5_ n6_ n7_ n8_ n9_ n10_ n11_ n12_ n13_; clear hb hbox hg; have hnb16 := NB185_181.out; have hnc16 := NB181_185.out; have hnb17 := NB185_182.out; have hnc17 := NB182_185.out; have hnb18 := NB185_183.out; have hnc18 := NB183_185.out; have hcz19_0 : w15.cell? ⟨gb185, 0, none⟩ = some (.int .i64 0) := (blk_cell BK185.out 0).trans rfl; have hcz19_1 : w15.cell? ⟨gb185, 1, none⟩ = some (.int .u64 0) := (blk_cell BK185.out 1).trans rfl; have hcz19_2 : w15.cell? ⟨gb185, 2, none⟩ = some (.int .u64 0) := (blk_cell BK185.out 2).trans rfl; have hcz19_3 : w15.cell? ⟨gb185, 3, none⟩ = some (.int .u64 0) := (blk_cell BK185.out 3).trans rfl; have hcz19_4 : w15.cell? ⟨gb185, 4, none⟩ = some (.string (⟨#[]⟩ : ByteArray)) := (blk_cell BK185.out 4).trans rfl; have hcz19_5 : w15.cell? ⟨gb185, 5, none⟩ = some (.string (⟨#[]⟩ : ByteArray)) := (blk_cell BK185.out 5).trans rfl; have hfz19_0 := blk_frozen BK185.out 0; have hfz19_1 := blk_frozen BK185.out 1; have hfz19_2 := blk_frozen BK185.out 2; have hfz19_3 := blk_frozen BK185.out 3; have hfz19_4 := blk_frozen BK185.out 4; have hfz19_5 := blk_frozen BK185.out 5; have hnb20 := NB183_181.out; have hnc20 := NB181_183.out; have hnb21 := NB183_182.out; have hnc21 := NB182_183.out; have hcz22_0 : w15.cell? ⟨gb183, 0, none⟩ = some (.int .u64 a0_0) := (blk_cell BK183.out 0).trans rfl; have hcz22_1 : w15.cell? ⟨gb183, 1, none⟩ = some (.int .u64 a0_1) := (blk_cell BK183.out 1).trans rfl; have hcz22_2 : w15.cell? ⟨gb183, 2, none⟩ = some (.int .u64 a0_2) := (blk_cell BK183.out 2).trans rfl; have hcz22_3 : w15.cell? ⟨gb183, 3, none⟩ = some (u184003) := (blk_cell BK183.out 3).trans rfl; have hcz22_4 : w15.cell? ⟨gb183, 4, none⟩ = some (.slice none 0 0) := (blk_cell BK183.out 4).trans rfl; have hfz22_0 := blk_frozen BK183.out 0; have hfz22_1 := blk_frozen BK183.out 1; have hfz22_2 := blk_frozen BK183.out 2; have hfz22_3 := blk_frozen BK183.out 3; have hfz22_4 := blk_frozen BK183.out 4) | ((with_reducible refine gate_builtin (b := .append) (xs := #[.tmp 23, .tmp 29]) rfl ?_); at_builtin; refine Kd.R_append k114 (w0 := w) w.heap.size rfl (.tmp 23) (.tmp 29) 33 114 (.agg #[(.int .i64 0), (.int .u64 0), (.int .u64 0), (.int .u64 0), (.string ⟨#[]⟩), (.string ⟨#[]⟩)]) 64 rfl Tryd.underlying33 info114 rfl (by decide) (by omega) u184003 x184003_1 (⟨(rd_T107 l0_3 x18_1).f0, (⟨(rd_T107 l0_3 x18_1).f1.f0, (rd_T107 l0_3 x18_1).f1.f1, (rd_T107 l0_3 x18_1).f1.f2, (rd_T107 l0_3 x18_1).f1.f3, (rd_T107 l0_3 x18_1).f1.f4⟩ : S112)⟩ : S114) [.int .i64 ((rd_T107 l0_3 x18_1).f0), .int .u64 ((rd_T107 l0_3 x18_1).f1.f0), .int .u64 ((rd_T107 l0_3 x18_1).f1.f1), .int .u64 ((rd_T107 l0_3 x18_1).f1.f2), .string ((rd_T107 l0_3 x18_1).f1.f3), .string ((rd_T107 l0_3 x18_1).f1.f4)] (fun _ => True) (fun _ => False) rfl (by first | (go_simp; done) | (go_simp; rfl)) ?aP (fun _ hk => hk.elim) ?aF ?aO ?aB ?aS ?aL ?_; (case aP => exact k114_mkM _ _ _ (⟨(rd_T107 l0_3 x18_1).f0, (⟨(rd_T107 l0_3 x18_1).f1.f0, (rd_T107 l0_3 x18_1).f1.f1, (rd_T107 l0_3 x18_1).f1.f2, (rd_T107 l0_3 x18_1).f1.f3, (rd_T107 l0_3 x18_1).f1.f4⟩ : S112)⟩ : S114)); (case aB => exact (by repeat (first | (with_reducible first | exact HB.out | apply below_alloc | apply pw_below_drewN | apply below_drew1 | refine below_set ?_ GE181.out | refine below_set ?_ GE182.out | refine below_set ?_ GE183.out | refine below_set ?_ GE185.out) | exact HB.out))); (case aF => exact (fun _ _ => trivial)); (case aO => exact (by (with_reducible repeat (first | apply Kd.R_alloc | apply Kd.R_drewN | apply Kd.R_drew)); exact Kd.R_mono (Kd.R_far (p := ⟨gb185, 5, none⟩) (Kd.R_far (p := ⟨gb185, 4, none⟩) (Kd.R_far (p := ⟨gb185, 3, none⟩) (Kd.R_far (p := ⟨gb185, 2, none⟩) (Kd.R_far (p := ⟨gb185, 1, none⟩) (Kd.R_far (p := ⟨gb185, 0, none⟩) (Kd.R_types HO_184003.out BK185.out (by decide)) (fun _ hk => hk.2) (.int .i64 ((rd_T107 l0_3 x18_1).f0))) (fun _ hk => hk.2) (.int .u64 ((rd_T107 l0_3 x18_1).f1.f0))) (fun _ hk => hk.2) (.int .u64 ((rd_T107 l0_3 x18_1).f1.f1))) (fun _ hk => hk.2) (.int .u64 ((rd_T107 l0_3 x18_1).f1.f2))) (fun _ hk => hk.2) (.string ((rd_T107 l0_3 x18_1).f1.f3))) (fun _ hk => hk.2) (.string ((rd_T107 l0_3 x18_1).f1.f4))) (fun _ hk => trivial))); (case aS => exact (below_size (by repeat (first | (with_reducible first | exact HB.out | apply below_alloc | apply pw_below_drewN | apply below_drew1 | refine below_set ?_ GE181.out | refine below_set ?_ GE182.out | refine below_set ?_ GE183.out | refine below_set ?_ GE185.out) | exact HB.out)))); (case aL => have := LMc14.out; omega); intro v187 w23 ho hb hg hat; rw [← Ny186.out] at ho; have n0_ := Aside0.mk (blk_grown (g := gb181) (o := .cells #[.int .u64 a0_0, .int .u64 a0_1, .int .u64 a0_2, .slice (some ad184) l0_3.length c0_3, .slice A0_4 l0_4.length c0_4] 26 (0, 0)) (by (with_reducible repeat (first | refine blk_drewN ?_ _ | refine blk_drew ?_ | refine blk_alloc ?_ _)); refine blk_far ?_ NB181_185.out _; (with_reducible repeat (first | refine blk_drewN ?_ _ | refine blk_drew ?_ | refine blk_alloc ?_ _)); refine blk_far ?_ NB181_185.out _; (with_reducible repeat (first | refine blk_drewN ?_ _ | refine blk_drew ?_ | refine blk_alloc ?_ _)); refine blk_far ?_ NB181_185.out _; (with_reducible repeat (first | refine blk_drewN ?_ _ | refine blk_drew ?_ | refine blk_alloc ?_ _)); refine blk_far ?_ NB181_185.out _; (with_reducible repeat (first | refine blk_drewN ?_ _ | refine blk_drew ?_ | refine blk_alloc ?_ _)); refine blk_far ?_ NB181_185.out _; (with_reducible repeat (first | refine blk_drewN ?_ _ | refine blk_drew ?_ | refine blk_alloc ?_ _)); refine blk_far ?_ NB181_185.out _; (with_reducible repeat (first | refine blk_drewN ?_ _ | refine blk_drew ?_ | refine blk_alloc ?_ _)); exact BK181.out) hg (Kd.R_ne HO_184003.out BK181.out (by decide))); have n1_ := Aside0.mk (blk_grown (g := gb182) (o := .cells #[.int .u64 0, .int .u64 0, .int .u64 0, .slice none 0 0, .slice none 0 0] 36 (0, 0)) (by (with_reducible repeat (first | refine blk_drewN ?_ _ | refine blk_drew ?_ | refine blk_alloc ?_ _)); refine blk_far ?_ NB182_185.out _; (with_reducible repeat (first | refine blk_drewN ?_ _ | refine blk_drew ?_ | refine blk_alloc ?_ _)); refine blk_far ?_ NB182_185.out _; (with_reducible repeat (first | refine blk_drewN ?_ _ | refine blk_drew ?_ | refine blk_alloc ?_ _)); refine blk_far ?_ NB182_185.out _; (with_reducible repeat (first | refine blk_drewN ?_ _ | refine blk_drew ?_ | refine blk_alloc ?_ _)); refine blk_far ?_ NB182_185.out _; (with_reducible repeat (first | refine blk_drewN ?_ _ | refine blk_drew ?_ | refine blk_alloc ?_ _)); refine blk_far ?_ NB182_185.out _; (with_reducible repeat (first | refine blk_drewN ?_ _ | refine blk_drew ?_ | refine blk_alloc ?_ _)); refine blk_far ?_ NB182_185.out _; (with_reducible repeat (first | refine blk_drewN ?_ _ | refine blk_drew ?_ | refine blk_alloc ?_ _)); exact BK182.out) hg (Kd.R_ne HO_184003.out BK182.out (by decide))); have n2_ := Aside0.mk (blk_grown (g := gb183) (o := .cells #[.int .u64 a0_0, .int .u64 a0_1, .int .u64 a0_2, u184003, .slice none 0 0] 36 (0, 0)) (by (with_reducible repeat (first | refine blk_drewN ?_ _ | refine blk_drew ?_ | refine blk_alloc ?_ _)); refine blk_far ?_ NB183_185.out _; (with_reducible repeat (first | refine blk_drewN ?_ _ | refine blk_drew ?_ | refine blk_alloc ?_ _)); refine blk_far ?_ NB183_185.out _; (with_reducible repeat (first | refine blk_drewN ?_ _ | refine blk_drew ?_ | refine blk_alloc ?_ _)); refine blk_far ?_ NB183_185.out _; (with_reducible repeat (first | refine blk_drewN ?_ _ | refine blk_drew ?_ | refine blk_alloc ?_ _)); refine blk_far ?_ NB183_185.out _; (with_reducible repeat (first | refine blk_drewN ?_ _ | refine blk_drew ?_ | refine blk_alloc ?_ _)); refine blk_far ?_ NB183_185.out _; (with_reducible repeat (first | refine blk_drewN ?_ _ | refine blk_drew ?_ | refine blk_alloc ?_ _)); refine blk_far ?_ NB183_185.out _; (with_reducible repeat (first | refine blk_drewN ?_ _ | refine blk_drew ?_ | refine blk_alloc ?_ _)); exact BK183.out) hg (Kd.R_ne HO_184003.out BK183.out (by decide))); have n3_ := Aside0.mk (blk_grown (g := gb185) (o := .cells #[.int .i64 ((rd_T107 l0_3 x18_1).f0), .int .u64 ((rd_T107 l0_3 x18_1).f1.f0), .int .u64 ((rd_T107 l0_3 x18_1).f1.f1), .int .u64 ((rd_T107 l0_3 x18_1).f1.f2), .string ((rd_T107 l0_3 x18_1).f1.f3), .string ((rd_T107 l0_3 x18_1).f1.f4)] 107 (0, 0)) (by (with_reducible repeat (first | refine blk_drewN ?_ _ | refine blk_drew ?_ | refine blk_alloc ?_ _)); refine blk_put (cs := #[.int .i64 ((rd_T107 l0_3 x18_1).f0), .int .u64 ((rd_T107 l0_3 x18_1).f1.f0), .int .u64 ((rd_T107 l0_3 x18_1).f1.f1), .int .u64 ((rd_T107 l0_3 x18_1).f1.f2), .string ((rd_T107 l0_3 x18_1).f1.f3), .string (⟨#[]⟩ : ByteArray)]) ?_ 5 _ rfl; (with_reducible repeat (first | refine blk_drewN ?_ _ | refine blk_drew ?_ | refine blk_alloc ?_ _)); refine blk_put (cs := #[.int .i64 ((rd_T107 l0_3 x18_1).f0), .int .u64 ((rd_T107 l0_3 x18_1).f1.f0), .int .u64 ((rd_T107 l0_3 x18_1).f1.f1), .int .u64 ((rd_T107 l0_3 x18_1).f1.f2), .string (⟨#[]⟩ : ByteArray), .string (⟨#[]⟩ : ByteArray)]) ?_ 4 _ rfl; (with_reducible repeat (first | refine blk_drewN ?_ _ | refine blk_drew ?_ | refine blk_alloc ?_ _)); refine blk_put (cs := #[.int .i64 ((rd_T107 l0_3 x18_1).f0), .int .u64 ((rd_T107 l0_3 x18_1).f1.f0), .int .u64 ((rd_T107 l0_3 x18_1).f1.f1), .int .u64 0, .string (⟨#[]⟩ : ByteArray), .string (⟨#[]⟩ : ByteArray)]) ?_ 3 _ rfl; (with_reducible repeat (first | refine blk_drewN ?_ _ | refine blk_drew ?_ | refine blk_alloc ?_ _)); refine blk_put (cs := #[.int .i64 ((rd_T107 l0_3 x18_1).f0), .int .u64 ((rd_T107 l0_3 x18_1).f1.f0), .int .u64 0, .int .u64 0, .string (⟨#[]⟩ : ByteArray), .string (⟨#[]⟩ : ByteArray)]) ?_ 2 _ rfl; (with_reducible repeat (first | refine blk_drewN ?_ _ | refine blk_drew ?_ | refine blk_alloc ?_ _)); refine blk_put (cs := #[.int .i64 ((rd_T107 l0_3 x18_1).f0), .int .u64 0, .int .u64 0, .int .u64 0, .string (⟨#[]⟩ : ByteArray), .string (⟨#[]⟩ : ByteArray)]) ?_ 1 _ rfl; (with_reducible repeat (first | refine blk_drewN ?_ _ | refine blk_drew ?_ | refine blk_alloc ?_ _)); refine blk_put (cs := #[.int .i64 0, .int .u64 0, .int .u64 0, .int .u64 0, .string (⟨#[]⟩ : ByteArray), .string (⟨#[]⟩ : ByteArray)]) ?_ 0 _ rfl; (with_reducible repeat (first | refine blk_drewN ?_ _ | refine blk_drew ?_ | refine blk_alloc ?_ _)); exact BK185.out) hg (Kd.R_ne HO_184003.out BK185.out (by decide))); have n4_ := Aside0.mk (hb); have n5_ := Aside0.mk (ho); clear BK181; clear BK182; clear BK183; clear BK185; clear HB; clear HO_184003; have BK181 := n0_; have BK182 := n1_; have BK183 := n2_; have BK185 := n3_; have HB := n4_; have HO188 := n5_; clear n0_ n1_ n2_ n3_ n4_ n5_; clear ho hb hg hat; obtain ⟨Ao24, co24, eo24⟩ := Kd.R_slice HO188.out; subst eo24; have hcz25_0 : w23.cell? ⟨gb183, 0, none⟩ = some (.int .u64 a0_0) := (blk_cell BK183.out 0).trans rfl; have hcz25_1 : w23.cell? ⟨gb183, 1, none⟩ = some (.int .u64 a0_1) := (blk_cell BK183.out 1).trans rfl; have hcz25_2 : w23.cell? ⟨gb183, 2, none⟩ = some (.int .u64 a0_2) := (blk_cell BK183.out 2).trans rfl; have hcz25_3 : w23.cell? ⟨gb183, 3, none⟩ = some (u184003) := (blk_cell BK183.out 3).trans rfl; have hcz25_4 : w23.cell? ⟨gb183, 4, none⟩ = some (.slice none 0 0) := (blk_cell BK183.out 4).trans rfl; have hfz25_0 := blk_frozen BK183.out 0; have hfz25_1 := blk_frozen BK183.out 1; have hfz25_2 := blk_frozen BK183.out 2; have hfz25_3 := blk_frozen BK183.out 3; have hfz25_4 := blk_frozen BK183.out 4))
              go_roundg k1
              case measure => have := HK1.out; omega
              case rel => exact ⟨(wrap64 (x18_1 + 1)), (y186), (.slice Ao24 y186.length co24), (by first | rfl | (simp; done) | (simp [*]; done)), H', ⟨by have := HK1.out; omega⟩, ⟨by (with_reducible repeat (first | apply Kd.R_alloc | apply Kd.R_drewN | apply Kd.R_drew)); exact Kd.R_mono (Kd.R_far (p := ⟨gb183, 3, none⟩) (Kd.R_types HO188.out BK183.out (by decide)) (fun _ hk => hk.2) (.slice Ao24 y186.length co24)) (fun _ hk => trivial)⟩, ⟨by (with_reducible repeat (first | refine blk_drewN ?_ _ | refine blk_drew ?_ | refine blk_alloc ?_ _)); refine blk_far ?_ NB181_183.out _; (with_reducible repeat (first | refine blk_drewN ?_ _ | refine blk_drew ?_ | refine blk_alloc ?_ _)); exact BK181.out⟩, ⟨by (with_reducible repeat (first | refine blk_drewN ?_ _ | refine blk_drew ?_ | refine blk_alloc ?_ _)); refine blk_far ?_ NB182_183.out _; (with_reducible repeat (first | refine blk_drewN ?_ _ | refine blk_drew ?_ | refine blk_alloc ?_ _)); exact BK182.out⟩, ⟨by (with_reducible repeat (first | refine blk_drewN ?_ _ | refine blk_drew ?_ | refine blk_alloc ?_ _)); refine blk_put (cs := #[.int .u64 a0_0, .int .u64 a0_1, .int .u64 a0_2, u184003, .slice none 0 0]) ?_ 3 _ rfl; (with_reducible repeat (first | refine blk_drewN ?_ _ | refine blk_drew ?_ | refine blk_alloc ?_ _)); exact BK183.out⟩, ⟨by repeat (first | (with_reducible first | exact HB.out | apply below_alloc | apply pw_below_drewN | apply below_drew1 | refine below_set ?_ GE181.out | refine below_set ?_ GE182.out | refine below_set ?_ GE183.out | refine below_set ?_ GE185.out) | exact HB.out)⟩⟩
            · rw [if_neg c14] at H
              exact absurd H (by simp)
          · rw [if_neg c13] at H
            exact absurd H (by simp)
        · rw [if_neg c12] at H
          exact absurd H (by simp)
      · rw [if_neg c11] at H
        have c11b0 : decide (x18_1 < (l0_3.length : Int)) = false := decide_eq_false c11
        clear c11
        have H' := Aside0.mk H
        clear H
        have hnb26 := NB181_182.out
        have hnc26 := NB182_181.out
        have hnb27 := NB181_183.out
        have hnc27 := NB183_181.out
        have hcz28_0 : wr.cell? ⟨gb181, 0, none⟩ = some (.int .u64 a0_0) := (blk_cell BK181.out 0).trans rfl
        have hcz28_1 : wr.cell? ⟨gb181, 1, none⟩ = some (.int .u64 a0_1) := (blk_cell BK181.out 1).trans rfl
        have hcz28_2 : wr.cell? ⟨gb181, 2, none⟩ = some (.int .u64 a0_2) := (blk_cell BK181.out 2).trans rfl
        have hcz28_3 : wr.cell? ⟨gb181, 3, none⟩ = some (.slice A0_3 l0_3.length c0_3) := (blk_cell BK181.out 3).trans rfl
        have hcz28_4 : wr.cell? ⟨gb181, 4, none⟩ = some (.slice A0_4 l0_4.length c0_4) := (blk_cell BK181.out 4).trans rfl
        have hfz28_0 := blk_frozen BK181.out 0
        have hfz28_1 := blk_frozen BK181.out 1
        have hfz28_2 := blk_frozen BK181.out 2
        have hfz28_3 := blk_frozen BK181.out 3
        have hfz28_4 := blk_frozen BK181.out 4
        go_wp2
        go_loopg [36] k1 (fun kq v36 w' => ∃ (x36_2 : Int) (x184004_2 : List (S115)) (u184004 : Value), v36 = .int .i64 x36_2 ∧ Aside0 (bourselaw12_To.l1 kq l0_4 (l0_4.length : Int) x36_2 a0_0 a0_1 a0_2 x184003_1 x184004_2 = some (r1, r2, r3, r4, r5)) ∧ Aside0 (kq ≤ k1) ∧ Aside0 (Kd.R k114 114 w' w.heap.size (fun _ => True) u184003 x184003_1) ∧ Aside0 (Kd.R k115 115 w' w.heap.size (fun _ => True) u184004 x184004_2) ∧ Aside0 (w'.heap[gb181]? = some (.cells #[.int .u64 a0_0, .int .u64 a0_1, .int .u64 a0_2, (.slice A0_3 l0_3.length c0_3), (.slice A0_4 l0_4.length c0_4)] 26 (0, 0))) ∧ Aside0 (w'.heap[gb182]? = some (.cells #[.int .u64 0, .int .u64 0, .int .u64 0, (.slice none 0 0), (.slice none 0 0)] 36 (0, 0))) ∧ Aside0 (w'.heap[gb183]? = some (.cells #[.int .u64 a0_0, .int .u64 a0_1, .int .u64 a0_2, u184003, u184004] 36 (0, 0))) ∧ Aside0 (Below w.heap.size w w'))
        case atStart => exact ⟨(0), (([] : List (S115))), (.slice none 0 0), (by first | rfl | (simp; done) | (simp [*]; done)), H', ⟨Nat.le_refl _⟩, ⟨by (with_reducible repeat (first | apply Kd.R_alloc | apply Kd.R_drewN | apply Kd.R_drew)); exact HO_184003.out⟩, ⟨by first | exact Kd.R_nil _ _ _ _ _ | exact Kd.N_nil _ _ _ _ _ | exact Kd.V_nil _ _ _ _ _ | exact Kd.Q_nil _ _ _ _ _ | exact Kd.S_nil _ _ _ _ _⟩, ⟨by (with_reducible repeat (first | refine blk_drewN ?_ _ | refine blk_drew ?_ | refine blk_alloc ?_ _)); exact BK181.out⟩, ⟨by (with_reducible repeat (first | refine blk_drewN ?_ _ | refine blk_drew ?_ | refine blk_alloc ?_ _)); exact BK182.out⟩, ⟨by (with_reducible repeat (first | refine blk_drewN ?_ _ | refine blk_drew ?_ | refine blk_alloc ?_ _)); exact BK183.out⟩, ⟨by repeat (first | (with_reducible first | exact HB.out | apply below_alloc | apply pw_below_drewN | apply below_drew1 | refine below_set ?_ GE181.out | refine below_set ?_ GE182.out | refine below_set ?_ GE183.out) | exact HB.out)⟩⟩
        case round =>
          clear H'
          try clear c1
          try clear p1
          try clear q1
          try clear hx1
          try clear c2
          try clear p2
          try clear c4
          try clear p6
          try clear c7
          try clear c8
          try clear c11
          try clear c11b0
          try clear c12
          try clear c12b0
          try clear c13
          try clear c13b0
          try clear c14
          try clear c16
          try clear c17
          try clear c18
          try clear p18
          try clear q18
          try clear hx18
          try clear c20
          try clear c21
          try clear c26
          try clear c27
          try clear hcz10_0
          try clear hcz10_1
          try clear hcz10_2
          try clear hcz10_3
          try clear hcz10_4
          try clear hcz19_0
          try clear hcz19_1
          try clear hcz19_2
          try clear hcz19_3
          try clear hcz19_4
          try clear hcz19_5
          try clear hcz22_0
          try clear hcz22_1
          try clear hcz22_2
          try clear hcz22_3
          try clear hcz22_4
          try clear hcz25_0
          try clear hcz25_1
          try clear hcz25_2
          try clear hcz25_3
          try clear hcz25_4
          try clear hcz28_0
          try clear hcz28_1
          try clear hcz28_2
          try clear hcz28_3
          try clear hcz28_4
          try clear hcz5_0
          try clear hcz5_1
          try clear hcz5_2
          try clear hcz5_3
          try clear hcz5_4
          try clear hcz9_0
          try clear hcz9_1
          try clear hcz9_2
          try clear hcz9_3
          try clear hcz9_4
          try clear hfz10_0
          try clear hfz10_1
          try clear hfz10_2
          try clear hfz10_3
          try clear hfz10_4
          try clear hfz19_0
          try clear hfz19_1
          try clear hfz19_2
          try clear hfz19_3
          try clear hfz19_4
          try clear hfz19_5
          try clear hfz22_0
          try clear hfz22_1
          try clear hfz22_2
          try clear hfz22_3
          try clear hfz22_4
          try clear hfz25_0
          try clear hfz25_1
          try clear hfz25_2
          try clear hfz25_3
          try clear hfz25_4
          try clear hfz28_0
          try clear hfz28_1
          try clear hfz28_2
          try clear hfz28_3
          try clear hfz28_4
          try clear hfz5_0
          try clear hfz5_1
          try clear hfz5_2
          try clear hfz5_3
          try clear hfz5_4
          try clear hfz9_0
          try clear hfz9_1
          try clear hfz9_2
          try clear hfz9_3
          try clear hfz9_4
          try clear hx184_0
          try clear hx184_1
          try clear hx184_2
          try clear hx184_3
          try clear hx184_4
          try clear hx184_5
          try clear p184
          try clear p2
          try clear q184
          obtain ⟨x36_2, x184004_2, u184004, rfl, HA, HK2, HO_184003, HO_184004, BK181, BK182, BK183, HB⟩ := hrel
          cases gk with
          | zero => exact absurd HA.out (by simp [bourselaw12_To.l1])
          | succ k2 =>
            have H := HA.out
            clear HA
            simp only [bourselaw12_To.l1] at H
            by_cases c29 : x36_2 < (l0_4.length : Int)
            · rw [if_pos c29] at H
              have c29b0 : decide (x36_2 < (l0_4.length : Int)) = true := decide_eq_true c29
              clear c29
              by_cases c30 : 0 ≤ x36_2
              · rw [if_pos c30] at H
                have c30b0 : decide (0 ≤ x36_2) = true := decide_eq_true c30
                clear c30
                by_cases c31 : x36_2 < (l0_4.length : Int)
                · rw [if_pos c31] at H
                  have c31b0 : decide (x36_2 < (l0_4.length : Int)) = true := decide_eq_true c31
                  clear c31
                  by_cases c32 : x184004_2.length < 8796093022208
                  · rw [if_pos c32] at H
                    have LMc32 := Aside0.mk c32
                    clear c32
                    obtain ⟨y191, hy191⟩ : ∃ y_ : List (S115), y_ = (x184004_2 ++ [(⟨(rd_T111 l0_4 x36_2).f0, (rd_T111 l0_4 x36_2).f1⟩ : S115)]) := ⟨_, rfl⟩
                    replace H : (bourselaw12_To.l1 k2 l0_4 (l0_4.length : Int) (wrap64 (x36_2 + 1)) a0_0 a0_1 a0_2 x184003_1 y191) = some (r1, r2, r3, r4, r5) := by first | (rw [hy191]; with_reducible exact H) | (have H2_ := (Option.bind_some _ _).symm.trans H; rw [hy191]; with_reducible exact H2_) | (have H2_ := (Option.bind_some _ _).symm.trans H; with_reducible exact H2_) | with_reducible exact H | (rw [hy191]; exact H) | exact H
                    have Ny191 := Aside0.mk hy191
                    clear hy191
                    have H' := Aside0.mk H
                    clear H
                    have p189 : 0 ≤ (x36_2 : Int) := of_decide_eq_true (by first | (with_reducible assumption) | assumption)
                    have q189 : x36_2 < (l0_4.length : Int) := of_decide_eq_true (by first | (with_reducible assumption) | assumption)
                    obtain ⟨ad189, e189, hx189_0, hx189_1⟩ := at_T111 HR0_4.out x36_2 p189 q189
                    cases e189
                    replace hx189_0 := (HB.out.cell (World.block_lt_of_cell? w _ hx189_0)).trans hx189_0
                    replace hx189_1 := (HB.out.cell (World.block_lt_of_cell? w _ hx189_1)).trans hx189_1
                    replace p189 := eq_true p189
                    replace q189 := eq_true q189
                    go_wp2_with (first | ((with_reducible refine gate_dst (N := 7) rfl ?_); refine box_event ?hg (N := 7) ?hd (cs := #[.int .i64 0, .int .u64 0]) (t := 111) ?hr ?_; (case hd => rfl); (case hg => rfl); (case hr => first | (go_simp; done) | (go_simp; rfl)); intro gb190 hg w33 hbox hb; have n0_ := Aside0.mk (Kd.R_below (by (with_reducible repeat (first | apply Kd.R_alloc | apply Kd.R_drewN | apply Kd.R_drew)); exact HO_184003.out) hb); have n1_ := Aside0.mk (Kd.R_below (by (with_reducible repeat (first | apply Kd.R_alloc | apply Kd.R_drewN | apply Kd.R_drew)); exact HO_184004.out) hb); have n2_ := Aside0.mk (blk_below (g := gb181) (o := .cells #[.int .u64 a0_0, .int .u64 a0_1, .int .u64 a0_2, .slice A0_3 l0_3.length c0_3, .slice (some ad189) l0_4.length c0_4] 26 (0, 0)) (by (with_reducible repeat (first | refine blk_drewN ?_ _ | refine blk_drew ?_ | refine blk_alloc ?_ _)); exact BK181.out) hb); have n3_ := Aside0.mk (blk_below (g := gb182) (o := .cells #[.int .u64 0, .int .u64 0, .int .u64 0, .slice none 0 0, .slice none 0 0] 36 (0, 0)) (by (with_reducible repeat (first | refine blk_drewN ?_ _ | refine blk_drew ?_ | refine blk_alloc ?_ _)); exact BK182.out) hb); have n4_ := Aside0.mk (blk_below (g := gb183) (o := .cells #[.int .u64 a0_0, .int .u64 a0_1, .int .u64 a0_2, u184003, u184004] 36 (0, 0)) (by (with_reducible repeat (first | refine blk_drewN ?_ _ | refine blk_drew ?_ | refine blk_alloc ?_ _)); exact BK183.out) hb); have n5_ := Aside0.mk (below_step (by repeat (first | (with_reducible first | exact HB.out | apply below_alloc | apply pw_below_drewN | apply below_drew1 | refine below_set ?_ GE181.out | refine below_set ?_ GE182.out | refine below_set ?_ GE183.out) | exact HB.out)) hb); have n6_ := Aside0.mk (hbox); have n7_ := Aside0.mk ((by rw [hg]; exact (below_size (by repeat (first | (with_reducible first | exact HB.out | apply below_alloc | apply pw_below_drewN | apply below_drew1 | refine below_set ?_ GE181.out | refine below_set ?_ GE182.out | refine below_set ?_ GE183.out) | exact HB.out))) : w.heap.size ≤ gb190)); have n8_ := Aside0.mk ((by rw [hg]; exact (below_size (by repeat (first | (with_reducible first | exact HB.out | apply below_alloc | apply pw_below_drewN | apply below_drew1 | refine below_set ?_ GE181.out | refine below_set ?_ GE182.out | refine below_set ?_ GE183.out) | exact HB.out))) : w.heap.size ≤ gb190)); have n9_ := Aside0.mk ((by rw [hg]; exact Nat.ne_of_lt (blk_lt (g := gb181) (o := .cells #[.int .u64 a0_0, .int .u64 a0_1, .int .u64 a0_2, .slice A0_3 l0_3.length c0_3, .slice (some ad189) l0_4.length c0_4] 26 (0, 0)) (by (with_reducible repeat (first | refine blk_drewN ?_ _ | refine blk_drew ?_ | refine blk_alloc ?_ _)); exact BK181.out)) : gb181 ≠ gb190)); have n10_ := Aside0.mk ((by rw [hg]; exact Nat.ne_of_gt (blk_lt (g := gb181) (o := .cells #[.int .u64 a0_0, .int .u64 a0_1, .int .u64 a0_2, .slice A0_3 l0_3.length c0_3, .slice (some ad189) l0_4.length c0_4] 26 (0, 0)) (by (with_reducible repeat (first | refine blk_drewN ?_ _ | refine blk_drew ?_ | refine blk_alloc ?_ _)); exact BK181.out)) : gb190 ≠ gb181)); have n11_ := Aside0.mk ((by rw [hg]; exact Nat.ne_of_lt (blk_lt (g := gb182) (o := .cells #[.int .u64 0, .int .u64 0, .int .u64 0, .slice none 0 0, .slice none 0 0] 36 (0, 0)) (by (with_reducible repeat (first | refine blk_drewN ?_ _ | refine blk_drew ?_ | refine blk_alloc ?_ _)); exact BK182.out)) : gb182 ≠ gb190)); have n12_ := Aside0.mk ((by rw [hg]; exact Nat.ne_of_gt (blk_lt (g := gb182) (o := .cells #[.int .u64 0, .int .u64 0, .int .u64 0, .slice none 0 0, .slice none 0 0] 36 (0, 0)) (by (with_reducible repeat (first | refine blk_drewN ?_ _ | refine blk_drew ?_ | refine blk_alloc ?_ _)); exact BK182.out)) : gb190 ≠ gb182)); have n13_ := Aside0.mk ((by rw [hg]; exact Nat.ne_of_lt (blk_lt (g := gb183) (o := .cells #[.int .u64 a0_0, .int .u64 a0_1, .int .u64 a0_2, u184003, u184004] 36 (0, 0)) (by (with_reducible repeat (first | refine blk_drewN ?_ _ | refine blk_drew ?_ | refine blk_alloc ?_ _)); exact BK183.out)) : gb183 ≠ gb190)); have n14_ := Aside0.mk ((by rw [hg]; exact Nat.ne_of_gt (blk_lt (g := gb183) (o := .cells #[.int .u64 a0_0, .int .u64 a0_1, .int .u64 a0_2, u184003, u184004] 36 (0, 0)) (by (with_reducible repeat (first | refine blk_drewN ?_ _ | refine blk_drew ?_ | refine blk_alloc ?_ _)); exact BK183.out)) : gb190 ≠ gb183)); clear HO_184003; clear HO_184004; clear BK181; clear BK182; clear BK183; clear HB; have HO_184003 := n0_; have HO_184004 := n1_; have BK181 := n2_; have BK182 := n3_; have BK183 := n4_; have HB := n5_; have BK190 := n6_; have GW190 := n7_; have GE190 := n8_; have NB181_190 := n9_; have NB190_181 := n10_; have NB182_190 := n11_; have NB190_182 := n12_; have NB183_190 := n13_; have NB190_183 := n14_; clear n0_ n1_ n2_ n3_ n4_ n5_ n6_ n7_ n8_ n9_ n10_ n11_ n12_ n13_ n14_; clear hb hbox hg; have hnb34 := NB190_181.out; have hnc34 := NB181_190.out; have hnb35 := NB190_182.out; have hnc35 := NB182_190.out; have hnb36 := NB190_183.out; have hnc36 := NB183_190.out; have hcz37_0 : w33.cell? ⟨gb190, 0, none⟩ = some (.int .i64 0) := (blk_cell BK190.out 0).trans rfl; have hcz37_1 : w33.cell? ⟨gb190, 1, none⟩ = some (.int .u64 0) := (blk_cell BK190.out 1).trans rfl; have hfz37_0 := blk_frozen BK190.out 0; have hfz37_1 := blk_frozen BK190.out 1; have hnb38 := NB183_181.out; have hnc38 := NB181_183.out; have hnb39 := NB183_182.out; have hnc39 := NB182_183.out; have hcz40_0 : w33.cell? ⟨gb183, 0, none⟩ = some (.int .u64 a0_0) := (blk_cell BK183.out 0).trans rfl; have hcz40_1 : w33.cell? ⟨gb183, 1, none⟩ = some (.int .u64 a0_1) := (blk_cell BK183.out 1).trans rfl; have hcz40_2 : w33.cell? ⟨gb183, 2, none⟩ = some (.int .u64 a0_2) := (blk_cell BK183.out 2).trans rfl; have hcz40_3 : w33.cell? ⟨gb183, 3, none⟩ = some (u184003) := (blk_cell BK183.out 3).trans rfl; have hcz40_4 : w33.cell? ⟨gb183, 4, none⟩ = some (u184004) := (blk_cell BK183.out 4).trans rfl; have hfz40_0 := blk_frozen BK183.out 0; have hfz40_1 := blk_frozen BK183.out 1; have hfz40_2 := blk_frozen BK183.out 2; have hfz40_3 := blk_frozen BK183.out 3; have hfz40_4 := blk_frozen BK183.out 4) | ((with_reducible refine gate_builtin (b := .append) (xs := #[.tmp 41, .tmp 43]) rfl ?_); at_builtin; refine Kd.R_append k115 (w0 := w) w.heap.size rfl (.tmp 41) (.tmp 43) 34 115 (.agg #[(.int .i64 0), (.int .u64 0)]) 16 rfl Tryd.underlying34 info115 rfl (by decide) (by omega) u184004 x184004_2 (⟨(rd_T111 l0_4 x36_2).f0, (rd_T111 l0_4 x36_2).f1⟩ : S115) [.int .i64 ((rd_T111 l0_4 x36_2).f0), .int .u64 ((rd_T111 l0_4 x36_2).f1)] (fun _ => True) (fun _ => False) rfl (by first | (go_simp; done) | (go_simp; rfl)) ?aP (fun _ hk => hk.elim) ?aF ?aO ?aB ?aS ?aL ?_; (case aP => exact k115_mkM _ _ _ (⟨(rd_T111 l0_4 x36_2).f0, (rd_T111 l0_4 x36_2).f1⟩ : S115)); (case aB => exact (by repeat (first | (with_reducible first | exact HB.out | apply below_alloc | apply pw_below_drewN | apply below_drew1 | refine below_set ?_ GE181.out | refine below_set ?_ GE182.out | refine below_set ?_ GE183.out | refine below_set ?_ GE190.out) | exact HB.out))); (case aF => exact (fun _ _ => trivial)); (case aO => exact (by (with_reducible repeat (first | apply Kd.R_alloc | apply Kd.R_drewN | apply Kd.R_drew)); exact Kd.R_mono (Kd.R_far (p := ⟨gb190, 1, none⟩) (Kd.R_far (p := ⟨gb190, 0, none⟩) (Kd.R_types HO_184004.out BK190.out (by decide)) (fun _ hk => hk.2) (.int .i64 ((rd_T111 l0_4 x36_2).f0))) (fun _ hk => hk.2) (.int .u64 ((rd_T111 l0_4 x36_2).f1))) (fun _ hk => trivial))); (case aS => exact (below_size (by repeat (first | (with_reducible first | exact HB.out | apply below_alloc | apply pw_below_drewN | apply below_drew1 | refine below_set ?_ GE181.out | refine below_set ?_ GE182.out | refine below_set ?_ GE183.out | refine below_set ?_ GE190.out) | exact HB.out)))); (case aL => have := LMc32.out; omega); intro v192 w41 ho hb hg hat; rw [← Ny191.out] at ho; have n0_ := Aside0.mk (Kd.R_over' (by (with_reducible repeat (first | apply Kd.R_alloc | apply Kd.R_drewN | apply Kd.R_drew)); exact (Kd.R_mono (Kd.R_far (p := ⟨gb190, 1, none⟩) (Kd.R_far (p := ⟨gb190, 0, none⟩) (Kd.R_types HO_184003.out BK190.out (by decide)) (fun _ hk => hk.2) (.int .i64 ((rd_T111 l0_4 x36_2).f0))) (fun _ hk => hk.2) (.int .u64 ((rd_T111 l0_4 x36_2).f1))) (fun _ h_ => h_.1))) (Kd.R_typed (by (with_reducible repeat (first | apply Kd.R_alloc | apply Kd.R_drewN | apply Kd.R_drew)); exact (Kd.R_mono (Kd.R_far (p := ⟨gb190, 1, none⟩) (Kd.R_far (p := ⟨gb190, 0, none⟩) (Kd.R_types HO_184004.out BK190.out (by decide)) (fun _ hk => hk.2) (.int .i64 ((rd_T111 l0_4 x36_2).f0))) (fun _ hk => hk.2) (.int .u64 ((rd_T111 l0_4 x36_2).f1))) (fun _ h_ => h_.1)))) (by decide) hg); have n1_ := Aside0.mk (blk_grown (g := gb181) (o := .cells #[.int .u64 a0_0, .int .u64 a0_1, .int .u64 a0_2, .slice A0_3 l0_3.length c0_3, .slice (some ad189) l0_4.length c0_4] 26 (0, 0)) (by (with_reducible repeat (first | refine blk_drewN ?_ _ | refine blk_drew ?_ | refine blk_alloc ?_ _)); refine blk_far ?_ NB181_190.out _; (with_reducible repeat (first | refine blk_drewN ?_ _ | refine blk_drew ?_ | refine blk_alloc ?_ _)); refine blk_far ?_ NB181_190.out _; (with_reducible repeat (first | refine blk_drewN ?_ _ | refine blk_drew ?_ | refine blk_alloc ?_ _)); exact BK181.out) hg (Kd.R_ne HO_184004.out BK181.out (by decide))); have n2_ := Aside0.mk (blk_grown (g := gb182) (o := .cells #[.int .u64 0, .int .u64 0, .int .u64 0, .slice none 0 0, .slice none 0 0] 36 (0, 0)) (by (with_reducible repeat (first | refine blk_drewN ?_ _ | refine blk_drew ?_ | refine blk_alloc ?_ _)); refine blk_far ?_ NB182_190.out _; (with_reducible repeat (first | refine blk_drewN ?_ _ | refine blk_drew ?_ | refine blk_alloc ?_ _)); refine blk_far ?_ NB182_190.out _; (with_reducible repeat (first | refine blk_drewN ?_ _ | refine blk_drew ?_ | refine blk_alloc ?_ _)); exact BK182.out) hg (Kd.R_ne HO_184004.out BK182.out (by decide))); have n3_ := Aside0.mk (blk_grown (g := gb183) (o := .cells #[.int .u64 a0_0, .int .u64 a0_1, .int .u64 a0_2, u184003, u184004] 36 (0, 0)) (by (with_reducible repeat (first | refine blk_drewN ?_ _ | refine blk_drew ?_ | refine blk_alloc ?_ _)); refine blk_far ?_ NB183_190.out _; (with_reducible repeat (first | refine blk_drewN ?_ _ | refine blk_drew ?_ | refine blk_alloc ?_ _)); refine blk_far ?_ NB183_190.out _; (with_reducible repeat (first | refine blk_drewN ?_ _ | refine blk_drew ?_ | refine blk_alloc ?_ _)); exact BK183.out) hg (Kd.R_ne HO_184004.out BK183.out (by decide))); have n4_ := Aside0.mk (blk_grown (g := gb190) (o := .cells #[.int .i64 ((rd_T111 l0_4 x36_2).f0), .int .u64 ((rd_T111 l0_4 x36_2).f1)] 111 (0, 0)) (by (with_reducible repeat (first | refine blk_drewN ?_ _ | refine blk_drew ?_ | refine blk_alloc ?_ _)); refine blk_put (cs := #[.int .i64 ((rd_T111 l0_4 x36_2).f0), .int .u64 0]) ?_ 1 _ rfl; (with_reducible repeat (first | refine blk_drewN ?_ _ | refine blk_drew ?_ | refine blk_alloc ?_ _)); refine blk_put (cs := #[.int .i64 0, .int .u64 0]) ?_ 0 _ rfl; (with_reducible repeat (first | refine blk_drewN ?_ _ | refine blk_drew ?_ | refine blk_alloc ?_ _)); exact BK190.out) hg (Kd.R_ne HO_184004.out BK190.out (by decide))); have n5_ := Aside0.mk (hb); have n6_ := Aside0.mk (ho); clear HO_184003; clear BK181; clear BK182; clear BK183; clear BK190; clear HB; clear HO_184004; have HO_184003 := n0_; have BK181 := n1_; have BK182 := n2_; have BK183 := n3_; have BK190 := n4_; have HB := n5_; have HO193 := n6_; clear n0_ n1_ n2_ n3_ n4_ n5_ n6_; clear ho hb hg hat; obtain ⟨Ao42, co42, eo42⟩ := Kd.R_slice HO193.out; subst eo42; have hcz43_0 : w41.cell? ⟨gb183, 0, none⟩ = some (.int .u64 a0_0) := (blk_cell BK183.out 0).trans rfl; have hcz43_1 : w41.cell? ⟨gb183, 1, none⟩ = some (.int .u64 a0_1) := (blk_cell BK183.out 1).trans rfl; have hcz43_2 : w41.cell? ⟨gb183, 2, none⟩ = some (.int .u64 a0_2) := (blk_cell BK183.out 2).trans rfl; have hcz43_3 : w41.cell? ⟨gb183, 3, none⟩ = some (u184003) := (blk_cell BK183.out 3).trans rfl; have hcz43_4 : w41.cell? ⟨gb183, 4, none⟩ = some (u184004) := (blk_cell BK183.out 4).trans rfl; have hfz43_0 := blk_frozen BK183.out 0; have hfz43_1 := blk_frozen BK183.out 1; have hfz43_2 := blk_frozen BK183.out 2; have hfz43_3 := blk_frozen BK183.out 3; have hfz43_4 := blk_frozen BK183.out 4))
                    go_roundg k2
                    case measure => have := HK1.out; have := HK2.out; omega
                    case rel => exact ⟨(wrap64 (x36_2 + 1)), (y191), (.slice Ao42 y191.length co42), (by first | rfl | (simp; done) | (simp [*]; done)), H', ⟨by have := HK1.out; have := HK2.out; omega⟩, ⟨by (with_reducible repeat (first | apply Kd.R_alloc | apply Kd.R_drewN | apply Kd.R_drew)); exact Kd.R_mono (Kd.R_far (p := ⟨gb183, 4, none⟩) (Kd.R_types HO_184003.out BK183.out (by decide)) (fun _ hk => hk.2) (.slice Ao42 y191.length co42)) (fun _ hk => trivial)⟩, ⟨by (with_reducible repeat (first | apply Kd.R_alloc | apply Kd.R_drewN | apply Kd.R_drew)); exact Kd.R_mono (Kd.R_far (p := ⟨gb183, 4, none⟩) (Kd.R_types HO193.out BK183.out (by decide)) (fun _ hk => hk.2) (.slice Ao42 y191.length co42)) (fun _ hk => trivial)⟩, ⟨by (with_reducible repeat (first | refine blk_drewN ?_ _ | refine blk_drew ?_ | refine blk_alloc ?_ _)); refine blk_far ?_ NB181_183.out _; (with_reducible repeat (first | refine blk_drewN ?_ _ | refine blk_drew ?_ | refine blk_alloc ?_ _)); exact BK181.out⟩, ⟨by (with_reducible repeat (first | refine blk_drewN ?_ _ | refine blk_drew ?_ | refine blk_alloc ?_ _)); refine blk_far ?_ NB182_183.out _; (with_reducible repeat (first | refine blk_drewN ?_ _ | refine blk_drew ?_ | refine blk_alloc ?_ _)); exact BK182.out⟩, ⟨by (with_reducible repeat (first | refine blk_drewN ?_ _ | refine blk_drew ?_ | refine blk_alloc ?_ _)); refine blk_put (cs := #[.int .u64 a0_0, .int .u64 a0_1, .int .u64 a0_2, u184003, u184004]) ?_ 4 _ rfl; (with_reducible repeat (first | refine blk_drewN ?_ _ | refine blk_drew ?_ | refine blk_alloc ?_ _)); exact BK183.out⟩, ⟨by repeat (first | (with_reducible first | exact HB.out | apply below_alloc | apply pw_below_drewN | apply below_drew1 | refine below_set ?_ GE181.out | refine below_set ?_ GE182.out | refine below_set ?_ GE183.out | refine below_set ?_ GE190.out) | exact HB.out)⟩⟩
                  · rw [if_neg c32] at H
                    exact absurd H (by simp)
                · rw [if_neg c31] at H
                  exact absurd H (by simp)
              · rw [if_neg c30] at H
                exact absurd H (by simp)
            · rw [if_neg c29] at H
              have c29b0 : decide (x36_2 < (l0_4.length : Int)) = false := decide_eq_false c29
              clear c29
              simp only [Option.some.injEq, Prod.mk.injEq] at H
              obtain ⟨rfl, rfl, rfl, rfl, rfl⟩ := H
              have hnb44 := NB183_181.out
              have hnc44 := NB181_183.out
              have hnb45 := NB183_182.out
              have hnc45 := NB182_183.out
              have hcz46_0 : wr.cell? ⟨gb183, 0, none⟩ = some (.int .u64 a0_0) := (blk_cell BK183.out 0).trans rfl
              have hcz46_1 : wr.cell? ⟨gb183, 1, none⟩ = some (.int .u64 a0_1) := (blk_cell BK183.out 1).trans rfl
              have hcz46_2 : wr.cell? ⟨gb183, 2, none⟩ = some (.int .u64 a0_2) := (blk_cell BK183.out 2).trans rfl
              have hcz46_3 : wr.cell? ⟨gb183, 3, none⟩ = some (u184003) := (blk_cell BK183.out 3).trans rfl
              have hcz46_4 : wr.cell? ⟨gb183, 4, none⟩ = some (u184004) := (blk_cell BK183.out 4).trans rfl
              have hfz46_0 := blk_frozen BK183.out 0
              have hfz46_1 := blk_frozen BK183.out 1
              have hfz46_2 := blk_frozen BK183.out 2
              have hfz46_3 := blk_frozen BK183.out 3
              have hfz46_4 := blk_frozen BK183.out 4
              have hnb47 := NB182_181.out
              have hnc47 := NB181_182.out
              have hcz48_0 : wr.cell? ⟨gb182, 0, none⟩ = some (.int .u64 0) := (blk_cell BK182.out 0).trans rfl
              have hcz48_1 : wr.cell? ⟨gb182, 1, none⟩ = some (.int .u64 0) := (blk_cell BK182.out 1).trans rfl
              have hcz48_2 : wr.cell? ⟨gb182, 2, none⟩ = some (.int .u64 0) := (blk_cell BK182.out 2).trans rfl
              have hcz48_3 : wr.cell? ⟨gb182, 3, none⟩ = some (.slice none 0 0) := (blk_cell BK182.out 3).trans rfl
              have hcz48_4 : wr.cell? ⟨gb182, 4, none⟩ = some (.slice none 0 0) := (blk_cell BK182.out 4).trans rfl
              have hfz48_0 := blk_frozen BK182.out 0
              have hfz48_1 := blk_frozen BK182.out 1
              have hfz48_2 := blk_frozen BK182.out 2
              have hfz48_3 := blk_frozen BK182.out 3
              have hfz48_4 := blk_frozen BK182.out 4
              obtain ⟨Ao49, co49, eo49⟩ := Kd.R_slice HO_184003.out
              subst eo49
              obtain ⟨Ao50, co50, eo50⟩ := Kd.R_slice HO_184004.out
              subst eo50
              go_wp2
              refine bodyPost_ret (results_cell_row rfl _ _ gb182 36 #[.int .u64 a0_0, .int .u64 a0_1, .int .u64 a0_2, .slice Ao49 x184003_1.length co49, .slice Ao50 x184004_2.length co50] (0, 0) _ rfl (by (with_reducible repeat (first | refine blk_drewN ?_ _ | refine blk_drew ?_ | refine blk_alloc ?_ _)); refine blk_put (cs := #[.int .u64 a0_0, .int .u64 a0_1, .int .u64 a0_2, .slice Ao49 x184003_1.length co49, .slice none 0 0]) ?_ 4 _ rfl; (with_reducible repeat (first | refine blk_drewN ?_ _ | refine blk_drew ?_ | refine blk_alloc ?_ _)); refine blk_put (cs := #[.int .u64 a0_0, .int .u64 a0_1, .int .u64 a0_2, .slice none 0 0, .slice none 0 0]) ?_ 3 _ rfl; (with_reducible repeat (first | refine blk_drewN ?_ _ | refine blk_drew ?_ | refine blk_alloc ?_ _)); refine blk_put (cs := #[.int .u64 a0_0, .int .u64 a0_1, .int .u64 0, .slice none 0 0, .slice none 0 0]) ?_ 2 _ rfl; (with_reducible repeat (first | refine blk_drewN ?_ _ | refine blk_drew ?_ | refine blk_alloc ?_ _)); refine blk_put (cs := #[.int .u64 a0_0, .int .u64 0, .int .u64 0, .slice none 0 0, .slice none 0 0]) ?_ 1 _ rfl; (with_reducible repeat (first | refine blk_drewN ?_ _ | refine blk_drew ?_ | refine blk_alloc ?_ _)); refine blk_put (cs := #[.int .u64 0, .int .u64 0, .int .u64 0, .slice none 0 0, .slice none 0 0]) ?_ 0 _ rfl; (with_reducible repeat (first | refine blk_drewN ?_ _ | refine blk_drew ?_ | refine blk_alloc ?_ _)); exact BK182.out) Tryd.underlying36 rfl (by kernel_rfl)) rfl ?_
              exact ⟨_, _, by first | rfl | (simp [errW_none, errW_some] <;> rfl) | (simp [*, errW_none, errW_some] <;> rfl), by (with_reducible repeat (first | apply Kd.R_alloc | apply Kd.R_drewN | apply Kd.R_drew)); exact Kd.R_mono (Kd.R_far (p := ⟨gb182, 4, none⟩) (Kd.R_far (p := ⟨gb182, 3, none⟩) (Kd.R_far (p := ⟨gb182, 2, none⟩) (Kd.R_far (p := ⟨gb182, 1, none⟩) (Kd.R_far (p := ⟨gb182, 0, none⟩) (Kd.R_types HO_184003.out BK182.out (by decide)) (fun _ hk => hk.2) (.int .u64 a0_0)) (fun _ hk => hk.2) (.int .u64 a0_1)) (fun _ hk => hk.2) (.int .u64 a0_2)) (fun _ hk => hk.2) (.slice Ao49 x184003_1.length co49)) (fun _ hk => hk.2) (.slice Ao50 x184004_2.length co50)) (fun _ hk => trivial), by (with_reducible repeat (first | apply Kd.R_alloc | apply Kd.R_drewN | apply Kd.R_drew)); exact Kd.R_mono (Kd.R_far (p := ⟨gb182, 4, none⟩) (Kd.R_far (p := ⟨gb182, 3, none⟩) (Kd.R_far (p := ⟨gb182, 2, none⟩) (Kd.R_far (p := ⟨gb182, 1, none⟩) (Kd.R_far (p := ⟨gb182, 0, none⟩) (Kd.R_types HO_184004.out BK182.out (by decide)) (fun _ hk => hk.2) (.int .u64 a0_0)) (fun _ hk => hk.2) (.int .u64 a0_1)) (fun _ hk => hk.2) (.int .u64 a0_2)) (fun _ hk => hk.2) (.slice Ao49 x184003_1.length co49)) (fun _ hk => hk.2) (.slice Ao50 x184004_2.length co50)) (fun _ hk => trivial), by repeat (first | (with_reducible first | exact HB.out | apply below_alloc | apply pw_below_drewN | apply below_drew1 | refine below_set ?_ GE181.out | refine below_set ?_ GE182.out | refine below_set ?_ GE183.out) | exact HB.out)⟩
end Go.Proofs.YteilnbnnhocciaaDoor.K

/-! K3 -/
namespace Go.Proofs.YteilnbnnhocciaaDoor.K
open Go.RowKit Go.Proofs.YteilnbnnhocciaaDoorW.PrintWords Go.Proofs.YteilnbnnhocciaaDoorW.PrintLast Go.Proofs.YteilnbnnhocciaaDoorW.PrintMore Go.Proofs.YteilnbnnhocciaaDoorM
attribute [local go_sem] max2_int min2_int max_two min_two max_three min_three max_four min_four
set_option linter.unusedVariables false
set_option linter.unusedSimpArgs false
theorem eqA112 (d : Nat) (w : World) (x0 y0 : Int) (x1 y1 : Int) (x2 y2 : Int) (x3 y3 : ByteArray) (x4 y4 : ByteArray) :
    (Op.equalIn (d + 2) 112 (.agg #[.int .u64 x0, .int .u64 x1, .int .u64 x2, .string x3, .string x4]) (.agg #[.int .u64 y0, .int .u64 y1, .int .u64 y2, .string y3, .string y4])).run Tryd.prog w = .ok (x0 == y0 && (x1 == y1 && (x2 == y2 && (x3.toList == y3.toList && (x4.toList == y4.toList))))) w := by
  refine eqA_of Tryd.underlying112 (by kernel_rfl) ?_
  refine eqf_cons (by rfl) (by go_simp; rfl) (by go_simp; rfl) (by go_simp) ?_
  refine eqf_cons (by rfl) (by go_simp; rfl) (by go_simp; rfl) (by go_simp) ?_
  refine eqf_cons (by rfl) (by go_simp; rfl) (by go_simp; rfl) (by go_simp) ?_
  refine eqf_cons (by rfl) (by go_simp; rfl) (by go_simp; rfl) (by go_simp) ?_
  exact eqf_last (by rfl) (by go_simp; rfl) (by go_simp; rfl) (by go_simp)
theorem eqA114 (d : Nat) (w : World) (x0 y0 : Int) (x1 y1 : Int) (x2 y2 : Int) (x3 y3 : Int) (x4 y4 : ByteArray) (x5 y5 : ByteArray) :
    (Op.equalIn (d + 3) 114 (.agg #[.int .i64 x0, .int .u64 x1, .int .u64 x2, .int .u64 x3, .string x4, .string x5]) (.agg #[.int .i64 y0, .int .u64 y1, .int .u64 y2, .int .u64 y3, .string y4, .string y5])).run Tryd.prog w = .ok (x0 == y0 && ((x1 == y1 && (x2 == y2 && (x3 == y3 && (x4.toList == y4.toList && (x5.toList == y5.toList))))))) w := by
  refine eqA_of Tryd.underlying114 (by kernel_rfl) ?_
  refine eqf_cons (by rfl) (by go_simp; rfl) (by go_simp; rfl) (by go_simp) ?_
  exact eqf_last (by rfl) (by go_simp) (by go_simp) (eqA112 (d + 0) w _ _ _ _ _ _ _ _ _ _)
end Go.Proofs.YteilnbnnhocciaaDoor.K

/-! K4 -/
namespace Go.Proofs.YteilnbnnhocciaaDoor.K
open Go.RowKit Go.Proofs.YteilnbnnhocciaaDoorW.PrintWords Go.Proofs.YteilnbnnhocciaaDoorW.PrintLast Go.Proofs.YteilnbnnhocciaaDoorW.PrintMore Go.Proofs.YteilnbnnhocciaaDoorM
attribute [local go_sem] max2_int min2_int max_two min_two max_three min_three max_four min_four
set_option linter.unusedVariables false
set_option linter.unusedSimpArgs false
theorem eqA115 (d : Nat) (w : World) (x0 y0 : Int) (x1 y1 : Int) :
    (Op.equalIn (d + 2) 115 (.agg #[.int .i64 x0, .int .u64 x1]) (.agg #[.int .i64 y0, .int .u64 y1])).run Tryd.prog w = .ok (x0 == y0 && (x1 == y1)) w := by
  refine eqA_of Tryd.underlying115 (by kernel_rfl) ?_
  refine eqf_cons (by rfl) (by go_simp; rfl) (by go_simp; rfl) (by go_simp) ?_
  exact eqf_last (by rfl) (by go_simp; rfl) (by go_simp; rfl) (by go_simp)
end Go.Proofs.YteilnbnnhocciaaDoor.K

/-! K39 -/
namespace Go.Proofs.YteilnbnnhocciaaDoor.K
open Go.RowKit Go.Proofs.YteilnbnnhocciaaDoorW.PrintWords Go.Proofs.YteilnbnnhocciaaDoorW.PrintLast Go.Proofs.YteilnbnnhocciaaDoorW.PrintMore Go.Proofs.YteilnbnnhocciaaDoorM
attribute [local go_sem] max2_int min2_int max_two min_two max_three min_three max_four min_four
set_option linter.unusedVariables false
set_option linter.unusedSimpArgs false
attribute [local go_sem high] eqA114 eqA115
mutual
def bourseref12_Same.j0 : Nat → Bool → Int → Int → Int → List (S114) → List (S115) → Int → Int → Int → List (S114) → List (S115) → Option (Bool)
  | 0, _, _, _, _, _, _, _, _, _, _, _ => none
  | k + 1, x43, x254000, x254001, x254002, x254003, x254004, x255000, x255001, x255002, x255003, x255004 => if x43 = true then (some false) else (bourseref12_Same.l0 k (x254003.length : Int) 0 x254000 x254001 x254002 x254003 x254004 x255000 x255001 x255002 x255003 x255004)
def bourseref12_Same.l0 : Nat → Int → Int → Int → Int → Int → List (S114) → List (S115) → Int → Int → Int → List (S114) → List (S115) → Option (Bool)
  | 0, _, _, _, _, _, _, _, _, _, _, _, _ => none
  | k + 1, x46, x47, x254000, x254001, x254002, x254003, x254004, x255000, x255001, x255002, x255003, x255004 => if x47 < x46 then (if 0 ≤ x47 then (if x47 < (x254003.length : Int) then (if x47 < (x255003.length : Int) then (if (!(((rd_T114 x254003 x47).f0) == ((rd_T114 x255003 x47).f0)) || ((!(((rd_T114 x254003 x47).f1.f0) == ((rd_T114 x255003 x47).f1.f0)) || (!(((rd_T114 x254003 x47).f1.f1) == ((rd_T114 x255003 x47).f1.f1)) || (!(((rd_T114 x254003 x47).f1.f2) == ((rd_T114 x255003 x47).f1.f2)) || (!((((rd_T114 x254003 x47).f1.f3).toList) == (((rd_T114 x255003 x47).f1.f3).toList)) || (!((((rd_T114 x254003 x47).f1.f4).toList) == (((rd_T114 x255003 x47).f1.f4).toList))))))))) = true then (some false) else (bourseref12_Same.l0 k x46 (wrap64 (x47 + 1)) x254000 x254001 x254002 x254003 x254004 x255000 x255001 x255002 x255003 x255004)) else (none)) else (none)) else (none)) else (bourseref12_Same.l1 k (x254004.length : Int) 0 x254000 x254001 x254002 x254003 x254004 x255000 x255001 x255002 x255003 x255004)
def bourseref12_Same.l1 : Nat → Int → Int → Int → Int → Int → List (S114) → List (S115) → Int → Int → Int → List (S114) → List (S115) → Option (Bool)
  | 0, _, _, _, _, _, _, _, _, _, _, _, _ => none
  | k + 1, x64, x65, x254000, x254001, x254002, x254003, x254004, x255000, x255001, x255002, x255003, x255004 => if x65 < x64 then (if 0 ≤ x65 then (if x65 < (x254004.length : Int) then (if x65 < (x255004.length : Int) then (if (!(((rd_T115 x254004 x65).f0) == ((rd_T115 x255004 x65).f0)) || (!(((rd_T115 x254004 x65).f1) == ((rd_T115 x255004 x65).f1)))) = true then (some false) else (bourseref12_Same.l1 k x64 (wrap64 (x65 + 1)) x254000 x254001 x254002 x254003 x254004 x255000 x255001 x255002 x255003 x255004)) else (none)) else (none)) else (none)) else (some true)
end
def bourseref12_Same.f (k : Nat) (a0_0 : Int) (a0_1 : Int) (a0_2 : Int) (l0_3 : List (S114)) (l0_4 : List (S115)) (a1_0 : Int) (a1_1 : Int) (a1_2 : Int) (l1_3 : List (S114)) (l1_4 : List (S115)) : Option (Bool) := if a0_0 = a1_0 then (if a0_1 = a1_1 then (if a0_2 = a1_2 then (if (l0_3.length : Int) = (l1_3.length : Int) then (bourseref12_Same.j0 k ((l0_4.length : Int) != (l1_4.length : Int)) a0_0 a0_1 a0_2 l0_3 l0_4 a1_0 a1_1 a1_2 l1_3 l1_4) else (bourseref12_Same.j0 k true a0_0 a0_1 a0_2 l0_3 l0_4 a1_0 a1_1 a1_2 l1_3 l1_4)) else (bourseref12_Same.j0 k true a0_0 a0_1 a0_2 l0_3 l0_4 a1_0 a1_1 a1_2 l1_3 l1_4)) else (bourseref12_Same.j0 k true a0_0 a0_1 a0_2 l0_3 l0_4 a1_0 a1_1 a1_2 l1_3 l1_4)) else (bourseref12_Same.j0 k true a0_0 a0_1 a0_2 l0_3 l0_4 a1_0 a1_1 a1_2 l1_3 l1_4)
set_option maxHeartbeats 8000000 in
set_option maxRecDepth 100000 in
theorem bourseref12_Same.calls (k : Nat) (a0_0 : Int) (a0_1 : Int) (a0_2 : Int) (A0_3 : Option Addr) (c0_3 : Nat) (l0_3 : List (S114)) (A0_4 : Option Addr) (c0_4 : Nat) (l0_4 : List (S115)) (a1_0 : Int) (a1_1 : Int) (a1_2 : Int) (A1_3 : Option Addr) (c1_3 : Nat) (l1_3 : List (S114)) (A1_4 : Option Addr) (c1_4 : Nat) (l1_4 : List (S115)) (r : Bool) (w : World) (hr0_3 : Kd.C k114 w A0_3 l0_3.length l0_3) (hc0_3 : l0_3.length ≤ c0_3) (hr0_4 : Kd.C k115 w A0_4 l0_4.length l0_4) (hc0_4 : l0_4.length ≤ c0_4) (hr1_3 : Kd.C k114 w A1_3 l1_3.length l1_3) (hc1_3 : l1_3.length ≤ c1_3) (hr1_4 : Kd.C k115 w A1_4 l1_4.length l1_4) (hc1_4 : l1_4.length ≤ c1_4) (h : bourseref12_Same.f k a0_0 a0_1 a0_2 l0_3 l0_4 a1_0 a1_1 a1_2 l1_3 l1_4 = some r) :
    Calls Tryd.prog 22 #[.agg #[.int .u64 a0_0, .int .u64 a0_1, .int .u64 a0_2, .slice A0_3 l0_3.length c0_3, .slice A0_4 l0_4.length c0_4], .agg #[.int .u64 a1_0, .int .u64 a1_1, .int .u64 a1_2, .slice A1_3 l1_3.length c1_3, .slice A1_4 l1_4.length c1_4]] w fun e w' => e = .returned (.bool r) ∧ Below w.heap.size w w' := by
  have hu36 := Tryd.underlying36
  have hu114 := Tryd.underlying114
  have hu115 := Tryd.underlying115
  have HR0_3 := Aside0.mk hr0_3
  have HC0_3 := Aside0.mk hc0_3
  clear hr0_3 hc0_3
  have HR0_4 := Aside0.mk hr0_4
  have HC0_4 := Aside0.mk hc0_4
  clear hr0_4 hc0_4
  have HR1_3 := Aside0.mk hr1_3
  have HC1_3 := Aside0.mk hc1_3
  clear hr1_3 hc1_3
  have HR1_4 := Aside0.mk hr1_4
  have HC1_4 := Aside0.mk hc1_4
  clear hr1_4 hc1_4
  have HB := Aside0.mk (Below.refl w.heap.size w)
  have H : (if a0_0 = a1_0 then (if a0_1 = a1_1 then (if a0_2 = a1_2 then (if (l0_3.length : Int) = (l1_3.length : Int) then (bourseref12_Same.j0 k ((l0_4.length : Int) != (l1_4.length : Int)) a0_0 a0_1 a0_2 l0_3 l0_4 a1_0 a1_1 a1_2 l1_3 l1_4) else (bourseref12_Same.j0 k true a0_0 a0_1 a0_2 l0_3 l0_4 a1_0 a1_1 a1_2 l1_3 l1_4)) else (bourseref12_Same.j0 k true a0_0 a0_1 a0_2 l0_3 l0_4 a1_0 a1_1 a1_2 l1_3 l1_4)) else (bourseref12_Same.j0 k true a0_0 a0_1 a0_2 l0_3 l0_4 a1_0 a1_1 a1_2 l1_3 l1_4)) else (bourseref12_Same.j0 k true a0_0 a0_1 a0_2 l0_3 l0_4 a1_0 a1_1 a1_2 l1_3 l1_4)) = some r := h
  clear h
  have HC3 := Aside0.mk H
  clear H
  go_enter Tryd.func22, Tryd.ntmps22
  go_upto_region 1 with (first | ((with_reducible refine gate_dst (N := 2) rfl ?_); (try (refine gate_guard (by rfl) ?_; dsimp only)); refine box_event ?hg (N := 2) ?hd (cs := #[.int .u64 a0_0, .int .u64 a0_1, .int .u64 a0_2, .slice A0_3 l0_3.length c0_3, .slice A0_4 l0_4.length c0_4]) (t := 36) ?hr ?_; (case hd => rfl); (case hg => rfl); (case hr => first | (go_simp; done) | (go_simp; rfl)); intro gb253 hg w4 hbox hb; have n0_ := Aside0.mk (below_step (by repeat (first | (with_reducible first | exact HB.out | apply below_alloc | apply pw_below_drewN | apply below_drew1) | exact HB.out)) hb); have n1_ := Aside0.mk (hbox); have n2_ := Aside0.mk ((by rw [hg]; exact (below_size (by repeat (first | (with_reducible first | exact HB.out | apply below_alloc | apply pw_below_drewN | apply below_drew1) | exact HB.out))) : w.heap.size ≤ gb253)); have n3_ := Aside0.mk ((by rw [hg]; exact (below_size (by repeat (first | (with_reducible first | exact HB.out | apply below_alloc | apply pw_below_drewN | apply below_drew1) | exact HB.out))) : w.heap.size ≤ gb253)); clear HB; have HB := n0_; have BK253 := n1_; have GW253 := n2_; have GE253 := n3_; clear n0_ n1_ n2_ n3_; clear hb hbox hg) | ((with_reducible refine gate_dst (N := 3) rfl ?_); (try (refine gate_guard (by rfl) ?_; dsimp only)); refine box_event ?hg (N := 3) ?hd (cs := #[.int .u64 a1_0, .int .u64 a1_1, .int .u64 a1_2, .slice A1_3 l1_3.length c1_3, .slice A1_4 l1_4.length c1_4]) (t := 36) ?hr ?_; (case hd => rfl); (case hg => rfl); (case hr => first | (go_simp; done) | (go_simp; rfl)); intro gb254 hg w5 hbox hb; have n0_ := Aside0.mk (blk_below (g := gb253) (o := .cells #[.int .u64 a0_0, .int .u64 a0_1, .int .u64 a0_2, .slice A0_3 l0_3.length c0_3, .slice A0_4 l0_4.length c0_4] 36 (0, 0)) (by (with_reducible repeat (first | refine blk_drewN ?_ _ | refine blk_drew ?_ | refine blk_alloc ?_ _)); exact BK253.out) hb); have n1_ := Aside0.mk (below_step (by repeat (first | (with_reducible first | exact HB.out | apply below_alloc | apply pw_below_drewN | apply below_drew1 | refine below_set ?_ GE253.out) | exact HB.out)) hb); have n2_ := Aside0.mk (hbox); have n3_ := Aside0.mk ((by rw [hg]; exact (below_size (by repeat (first | (with_reducible first | exact HB.out | apply below_alloc | apply pw_below_drewN | apply below_drew1 | refine below_set ?_ GE253.out) | exact HB.out))) : w.heap.size ≤ gb254)); have n4_ := Aside0.mk ((by rw [hg]; exact (below_size (by repeat (first | (with_reducible first | exact HB.out | apply below_alloc | apply pw_below_drewN | apply below_drew1 | refine below_set ?_ GE253.out) | exact HB.out))) : w.heap.size ≤ gb254)); have n5_ := Aside0.mk ((by rw [hg]; exact Nat.ne_of_lt (blk_lt (g := gb253) (o := .cells #[.int .u64 a0_0, .int .u64 a0_1, .int .u64 a0_2, .slice A0_3 l0_3.length c0_3, .slice A0_4 l0_4.length c0_4] 36 (0, 0)) (by (with_reducible repeat (first | refine blk_drewN ?_ _ | refine blk_drew ?_ | refine blk_alloc ?_ _)); exact BK253.out)) : gb253 ≠ gb254)); have n6_ := Aside0.mk ((by rw [hg]; exact Nat.ne_of_gt (blk_lt (g := gb253) (o := .cells #[.int .u64 a0_0, .int .u64 a0_1, .int .u64 a0_2, .slice A0_3 l0_3.length c0_3, .slice A0_4 l0_4.length c0_4] 36 (0, 0)) (by (with_reducible repeat (first | refine blk_drewN ?_ _ | refine blk_drew ?_ | refine blk_alloc ?_ _)); exact BK253.out)) : gb254 ≠ gb253)); clear BK253; clear HB; have BK253 := n0_; have HB := n1_; have BK254 := n2_; have GW254 := n3_; have GE254 := n4_; have NB253_254 := n5_; have NB254_253 := n6_; clear n0_ n1_ n2_ n3_ n4_ n5_ n6_; clear hb hbox hg))
  repeat (go_quiet (first | ((with_reducible refine gate_dst (N := 2) rfl ?_); (try (refine gate_guard (by rfl) ?_; dsimp only)); refine box_event ?hg (N := 2) ?hd (cs := #[.int .u64 a0_0, .int .u64 a0_1, .int .u64 a0_2, .slice A0_3 l0_3.length c0_3, .slice A0_4 l0_4.length c0_4]) (t := 36) ?hr ?_; (case hd => rfl); (case hg => rfl); (case hr => first | (go_simp; done) | (go_simp; rfl)); intro gb253 hg w4 hbox hb; have n0_ := Aside0.mk (below_step (by repeat (first | (with_reducible first | exact HB.out | apply below_alloc | apply pw_below_drewN | apply below_drew1) | exact HB.out)) hb); have n1_ := Aside0.mk (hbox); have n2_ := Aside0.mk ((by rw [hg]; exact (below_size (by repeat (first | (with_reducible first | exact HB.out | apply below_alloc | apply pw_below_drewN | apply below_drew1) | exact HB.out))) : w.heap.size ≤ gb253)); have n3_ := Aside0.mk ((by rw [hg]; exact (below_size (by repeat (first | (with_reducible first | exact HB.out | apply below_alloc | apply pw_below_drewN | apply below_drew1) | exact HB.out))) : w.heap.size ≤ gb253)); clear HB; have HB := n0_; have BK253 := n1_; have GW253 := n2_; have GE253 := n3_; clear n0_ n1_ n2_ n3_; clear hb hbox hg) | ((with_reducible refine gate_dst (N := 3) rfl ?_); (try (refine gate_guard (by rfl) ?_; dsimp only)); refine box_event ?hg (N := 3) ?hd (cs := #[.int .u64 a1_0, .int .u64 a1_1, .int .u64 a1_2, .slice A1_3 l1_3.length c1_3, .slice A1_4 l1_4.length c1_4]) (t := 36) ?hr ?_; (case hd => rfl); (case hg => rfl); (case hr => first | (go_simp; done) | (go_simp; rfl)); intro gb254 hg w5 hbox hb; have n0_ := Aside0.mk (blk_below (g := gb253) (o := .cells #[.int .u64 a0_0, .int .u64 a0_1, .int .u64 a0_2, .slice A0_3 l0_3.length c0_3, .slice A0_4 l0_4.length c0_4] 36 (0, 0)) (by (with_reducible repeat (first | refine blk_drewN ?_ _ | refine blk_drew ?_ | refine blk_alloc ?_ _)); exact BK253.out) hb); have n1_ := Aside0.mk (below_step (by repeat (first | (with_reducible first | exact HB.out | apply below_alloc | apply pw_below_drewN | apply below_drew1 | refine below_set ?_ GE253.out) | exact HB.out)) hb); have n2_ := Aside0.mk (hbox); have n3_ := Aside0.mk ((by rw [hg]; exact (below_size (by repeat (first | (with_reducible first | exact HB.out | apply below_alloc | apply pw_below_drewN | apply below_drew1 | refine below_set ?_ GE253.out) | exact HB.out))) : w.heap.size ≤ gb254)); have n4_ := Aside0.mk ((by rw [hg]; exact (below_size (by repeat (first | (with_reducible first | exact HB.out | apply below_alloc | apply pw_below_drewN | apply below_drew1 | refine below_set ?_ GE253.out) | exact HB.out))) : w.heap.size ≤ gb254)); have n5_ := Aside0.mk ((by rw [hg]; exact Nat.ne_of_lt (blk_lt (g := gb253) (o := .cells #[.int .u64 a0_0, .int .u64 a0_1, .int .u64 a0_2, .slice A0_3 l0_3.length c0_3, .slice A0_4 l0_4.length c0_4] 36 (0, 0)) (by (with_reducible repeat (first | refine blk_drewN ?_ _ | refine blk_drew ?_ | refine blk_alloc ?_ _)); exact BK253.out)) : gb253 ≠ gb254)); have n6_ := Aside0.mk ((by rw [hg]; exact Nat.ne_of_gt (blk_lt (g := gb253) (o := .cells #[.int .u64 a0_0, .int .u64 a0_1, .int .u64 a0_2, .slice A0_3 l0_3.length c0_3, .slice A0_4 l0_4.length c0_4] 36 (0, 0)) (by (with_reducible repeat (first | refine blk_drewN ?_ _ | refine blk_drew ?_ | refine blk_alloc ?_ _)); exact BK253.out)) : gb254 ≠ gb253)); clear BK253; clear HB; have BK253 := n0_; have HB := n1_; have BK254 := n2_; have GW254 := n3_; have GE254 := n4_; have NB253_254 := n5_; have NB254_253 := n6_; clear n0_ n1_ n2_ n3_ n4_ n5_ n6_; clear hb hbox hg)); go_upto_region 1 with (first | ((with_reducible refine gate_dst (N := 2) rfl ?_); (try (refine gate_guard (by rfl) ?_; dsimp only)); refine box_event ?hg (N := 2) ?hd (cs := #[.int .u64 a0_0, .int .u64 a0_1, .int .u64 a0_2, .slice A0_3 l0_3.length c0_3, .slice A0_4 l0_4.length c0_4]) (t := 36) ?hr ?_; (case hd => rfl); (case hg => rfl); (case hr => first | (go_simp; done) | (go_simp; rfl)); intro gb253 hg w4 hbox hb; have n0_ := Aside0.mk (below_step (by repeat (first | (with_reducible first | exact HB.out | apply below_alloc | apply pw_below_drewN | apply below_drew1) | exact HB.out)) hb); have n1_ := Aside0.mk (hbox); have n2_ := Aside0.mk ((by rw [hg]; exact (below_size (by repeat (first | (with_reducible first | exact HB.out | apply below_alloc | apply pw_below_drewN | apply below_drew1) | exact HB.out))) : w.heap.size ≤ gb253)); have n3_ := Aside0.mk ((by rw [hg]; exact (below_size (by repeat (first | (with_reducible first | exact HB.out | apply below_alloc | apply pw_below_drewN | apply below_drew1) | exact HB.out))) : w.heap.size ≤ gb253)); clear HB; have HB := n0_; have BK253 := n1_; have GW253 := n2_; have GE253 := n3_; clear n0_ n1_ n2_ n3_; clear hb hbox hg) | ((with_reducible refine gate_dst (N := 3) rfl ?_); (try (refine gate_guard (by rfl) ?_; dsimp only)); refine box_event ?hg (N := 3) ?hd (cs := #[.int .u64 a1_0, .int .u64 a1_1, .int .u64 a1_2, .slice A1_3 l1_3.length c1_3, .slice A1_4 l1_4.length c1_4]) (t := 36) ?hr ?_; (case hd => rfl); (case hg => rfl); (case hr => first | (go_simp; done) | (go_simp; rfl)); intro gb254 hg w5 hbox hb; have n0_ := Aside0.mk (blk_below (g := gb253) (o := .cells #[.int .u64 a0_0, .int .u64 a0_1, .int .u64 a0_2, .slice A0_3 l0_3.length c0_3, .slice A0_4 l0_4.length c0_4] 36 (0, 0)) (by (with_reducible repeat (first | refine blk_drewN ?_ _ | refine blk_drew ?_ | refine blk_alloc ?_ _)); exact BK253.out) hb); have n1_ := Aside0.mk (below_step (by repeat (first | (with_reducible first | exact HB.out | apply below_alloc | apply pw_below_drewN | apply below_drew1 | refine below_set ?_ GE253.out) | exact HB.out)) hb); have n2_ := Aside0.mk (hbox); have n3_ := Aside0.mk ((by rw [hg]; exact (below_size (by repeat (first | (with_reducible first | exact HB.out | apply below_alloc | apply pw_below_drewN | apply below_drew1 | refine below_set ?_ GE253.out) | exact HB.out))) : w.heap.size ≤ gb254)); have n4_ := Aside0.mk ((by rw [hg]; exact (below_size (by repeat (first | (with_reducible first | exact HB.out | apply below_alloc | apply pw_below_drewN | apply below_drew1 | refine below_set ?_ GE253.out) | exact HB.out))) : w.heap.size ≤ gb254)); have n5_ := Aside0.mk ((by rw [hg]; exact Nat.ne_of_lt (blk_lt (g := gb253) (o := .cells #[.int .u64 a0_0, .int .u64 a0_1, .int .u64 a0_2, .slice A0_3 l0_3.length c0_3, .slice A0_4 l0_4.length c0_4] 36 (0, 0)) (by (with_reducible repeat (first | refine blk_drewN ?_ _ | refine blk_drew ?_ | refine blk_alloc ?_ _)); exact BK253.out)) : gb253 ≠ gb254)); have n6_ := Aside0.mk ((by rw [hg]; exact Nat.ne_of_gt (blk_lt (g := gb253) (o := .cells #[.int .u64 a0_0, .int .u64 a0_1, .int .u64 a0_2, .slice A0_3 l0_3.length c0_3, .slice A0_4 l0_4.length c0_4] 36 (0, 0)) (by (with_reducible repeat (first | refine blk_drewN ?_ _ | refine blk_drew ?_ | refine blk_alloc ?_ _)); exact BK253.out)) : gb254 ≠ gb253)); clear BK253; clear HB; have BK253 := n0_; have HB := n1_; have BK254 := n2_; have GW254 := n3_; have GE254 := n4_; have NB253_254 := n5_; have NB254_253 := n6_; clear n0_ n1_ n2_ n3_ n4_ n5_ n6_; clear hb hbox hg)))
  (try simp only [Act.put, List.setIfInBounds_toArray, List.set_cons_zero, List.set_cons_succ])
  go_cut [43] (fun v43 wc => ∃ (kq : Nat) (x43_2 : Bool), v43 = .bool x43_2 ∧ Aside0 (bourseref12_Same.j0 kq x43_2 a0_0 a0_1 a0_2 l0_3 l0_4 a1_0 a1_1 a1_2 l1_3 l1_4 = some r) ∧ Aside0 (kq ≤ k) ∧ Aside0 (wc.heap[gb253]? = some (.cells #[.int .u64 a0_0, .int .u64 a0_1, .int .u64 a0_2, (.slice A0_3 l0_3.length c0_3), (.slice A0_4 l0_4.length c0_4)] 36 (0, 0))) ∧ Aside0 (wc.heap[gb254]? = some (.cells #[.int .u64 a1_0, .int .u64 a1_1, .int .u64 a1_2, (.slice A1_3 l1_3.length c1_3), (.slice A1_4 l1_4.length c1_4)] 36 (0, 0))) ∧ Aside0 (Below w.heap.size w wc))
  case first =>
    have H := HC3.out
    clear HC3
    by_cases c6 : a0_0 = a1_0
    · rw [if_pos c6] at H
      have c6b0 : (a0_0 == a1_0) = true := beq_iff_eq.mpr c6
      have c6b1 : (a0_0 != a1_0) = false := bne_eq_false_iff_eq.mpr c6
      clear c6
      (first | rw [c6b0] | (simp only [i64_w, i32_w]; rw [c6b0]) | skip)
      by_cases c7 : a0_1 = a1_1
      · rw [if_pos c7] at H
        have c7b0 : (a0_1 == a1_1) = true := beq_iff_eq.mpr c7
        have c7b1 : (a0_1 != a1_1) = false := bne_eq_false_iff_eq.mpr c7
        clear c7
        by_cases c8 : a0_2 = a1_2
        · rw [if_pos c8] at H
          have c8b0 : (a0_2 == a1_2) = true := beq_iff_eq.mpr c8
          have c8b1 : (a0_2 != a1_2) = false := bne_eq_false_iff_eq.mpr c8
          clear c8
          by_cases c9 : (l0_3.length : Int) = (l1_3.length : Int)
          · rw [if_pos c9] at H
            have c9b0 : ((l0_3.length : Int) == (l1_3.length : Int)) = true := beq_iff_eq.mpr c9
            have c9b1 : ((l0_3.length : Int) != (l1_3.length : Int)) = false := bne_eq_false_iff_eq.mpr c9
            have c9b2 : (l0_3.length == l1_3.length) = true := by first | simpa using c9 | (simp at c9 ⊢; omega)
            clear c9
            have H' := Aside0.mk H
            clear H
            have hnb10 := NB253_254.out
            have hnc10 := NB254_253.out
            have hcz11_0 : w5.cell? ⟨gb253, 0, none⟩ = some (.int .u64 a0_0) := (blk_cell BK253.out 0).trans rfl
            have hcz11_1 : w5.cell? ⟨gb253, 1, none⟩ = some (.int .u64 a0_1) := (blk_cell BK253.out 1).trans rfl
            have hcz11_2 : w5.cell? ⟨gb253, 2, none⟩ = some (.int .u64 a0_2) := (blk_cell BK253.out 2).trans rfl
            have hcz11_3 : w5.cell? ⟨gb253, 3, none⟩ = some (.slice A0_3 l0_3.length c0_3) := (blk_cell BK253.out 3).trans rfl
            have hcz11_4 : w5.cell? ⟨gb253, 4, none⟩ = some (.slice A0_4 l0_4.length c0_4) := (blk_cell BK253.out 4).trans rfl
            have hfz11_0 := blk_frozen BK253.out 0
            have hfz11_1 := blk_frozen BK253.out 1
            have hfz11_2 := blk_frozen BK253.out 2
            have hfz11_3 := blk_frozen BK253.out 3
            have hfz11_4 := blk_frozen BK253.out 4
            have hcz12_0 : w5.cell? ⟨gb254, 0, none⟩ = some (.int .u64 a1_0) := (blk_cell BK254.out 0).trans rfl
            have hcz12_1 : w5.cell? ⟨gb254, 1, none⟩ = some (.int .u64 a1_1) := (blk_cell BK254.out 1).trans rfl
            have hcz12_2 : w5.cell? ⟨gb254, 2, none⟩ = some (.int .u64 a1_2) := (blk_cell BK254.out 2).trans rfl
            have hcz12_3 : w5.cell? ⟨gb254, 3, none⟩ = some (.slice A1_3 l1_3.length c1_3) := (blk_cell BK254.out 3).trans rfl
            have hcz12_4 : w5.cell? ⟨gb254, 4, none⟩ = some (.slice A1_4 l1_4.length c1_4) := (blk_cell BK254.out 4).trans rfl
            have hfz12_0 := blk_frozen BK254.out 0
            have hfz12_1 := blk_frozen BK254.out 1
            have hfz12_2 := blk_frozen BK254.out 2
            have hfz12_3 := blk_frozen BK254.out 3
            have hfz12_4 := blk_frozen BK254.out 4
            go_wp2
            repeat (go_quiet (fail); try go_wp2)
            go_meet
            case rel => exact ⟨_, (((l0_4.length : Int) != (l1_4.length : Int))), (by first | rfl | (simp; done) | (simp [*]; done)), H', ⟨by first | omega | exact Nat.le_refl _⟩, ⟨by (with_reducible repeat (first | refine blk_drewN ?_ _ | refine blk_drew ?_ | refine blk_alloc ?_ _)); exact BK253.out⟩, ⟨by (with_reducible repeat (first | refine blk_drewN ?_ _ | refine blk_drew ?_ | refine blk_alloc ?_ _)); exact BK254.out⟩, ⟨by repeat (first | (with_reducible first | exact HB.out | apply below_alloc | apply pw_below_drewN | apply below_drew1 | refine below_set ?_ GE253.out | refine below_set ?_ GE254.out) | exact HB.out)⟩⟩
          · rw [if_neg c9] at H
            have c9b0 : ((l0_3.length : Int) == (l1_3.length : Int)) = false := beq_eq_false_iff_ne.mpr c9
            have c9b1 : ((l0_3.length : Int) != (l1_3.length : Int)) = true := bne_iff_ne.mpr c9
            have c9b2 : (l0_3.length == l1_3.length) = false := by first | simpa using c9 | (simp at c9 ⊢; omega)
            have H' := Aside0.mk H
            clear H
            have hnb13 := NB253_254.out
            have hnc13 := NB254_253.out
            have hcz14_0 : w5.cell? ⟨gb253, 0, none⟩ = some (.int .u64 a0_0) := (blk_cell BK253.out 0).trans rfl
            have hcz14_1 : w5.cell? ⟨gb253, 1, none⟩ = some (.int .u64 a0_1) := (blk_cell BK253.out 1).trans rfl
            have hcz14_2 : w5.cell? ⟨gb253, 2, none⟩ = some (.int .u64 a0_2) := (blk_cell BK253.out 2).trans rfl
            have hcz14_3 : w5.cell? ⟨gb253, 3, none⟩ = some (.slice A0_3 l0_3.length c0_3) := (blk_cell BK253.out 3).trans rfl
            have hcz14_4 : w5.cell? ⟨gb253, 4, none⟩ = some (.slice A0_4 l0_4.length c0_4) := (blk_cell BK253.out 4).trans rfl
            have hfz14_0 := blk_frozen BK253.out 0
            have hfz14_1 := blk_frozen BK253.out 1
            have hfz14_2 := blk_frozen BK253.out 2
            have hfz14_3 := blk_frozen BK253.out 3
            have hfz14_4 := blk_frozen BK253.out 4
            have hcz15_0 : w5.cell? ⟨gb254, 0, none⟩ = some (.int .u64 a1_0) := (blk_cell BK254.out 0).trans rfl
            have hcz15_1 : w5.cell? ⟨gb254, 1, none⟩ = some (.int .u64 a1_1) := (blk_cell BK254.out 1).trans rfl
            have hcz15_2 : w5.cell? ⟨gb254, 2, none⟩ = some (.int .u64 a1_2) := (blk_cell BK254.out 2).trans rfl
            have hcz15_3 : w5.cell? ⟨gb254, 3, none⟩ = some (.slice A1_3 l1_3.length c1_3) := (blk_cell BK254.out 3).trans rfl
            have hcz15_4 : w5.cell? ⟨gb254, 4, none⟩ = some (.slice A1_4 l1_4.length c1_4) := (blk_cell BK254.out 4).trans rfl
            have hfz15_0 := blk_frozen BK254.out 0
            have hfz15_1 := blk_frozen BK254.out 1
            have hfz15_2 := blk_frozen BK254.out 2
            have hfz15_3 := blk_frozen BK254.out 3
            have hfz15_4 := blk_frozen BK254.out 4
            go_wp2
            repeat (go_quiet (fail); try go_wp2)
            go_meet
            case rel => exact ⟨_, (true), (by first | rfl | (simp; done) | (simp [*]; done)), H', ⟨by first | omega | exact Nat.le_refl _⟩, ⟨by (with_reducible repeat (first | refine blk_drewN ?_ _ | refine blk_drew ?_ | refine blk_alloc ?_ _)); exact BK253.out⟩, ⟨by (with_reducible repeat (first | refine blk_drewN ?_ _ | refine blk_drew ?_ | refine blk_alloc ?_ _)); exact BK254.out⟩, ⟨by repeat (first | (with_reducible first | exact HB.out | apply below_alloc | apply pw_below_drewN | apply below_drew1 | refine below_set ?_ GE253.out | refine below_set ?_ GE254.out) | exact HB.out)⟩⟩
        · rw [if_neg c8] at H
          have c8b0 : (a0_2 == a1_2) = false := beq_eq_false_iff_ne.mpr c8
          have c8b1 : (a0_2 != a1_2) = true := bne_iff_ne.mpr c8
          have H' := Aside0.mk H
          clear H
          have hnb16 := NB253_254.out
          have hnc16 := NB254_253.out
          have hcz17_0 : w5.cell? ⟨gb253, 0, none⟩ = some (.int .u64 a0_0) := (blk_cell BK253.out 0).trans rfl
          have hcz17_1 : w5.cell? ⟨gb253, 1, none⟩ = some (.int .u64 a0_1) := (blk_cell BK253.out 1).trans rfl
          have hcz17_2 : w5.cell? ⟨gb253, 2, none⟩ = some (.int .u64 a0_2) := (blk_cell BK253.out 2).trans rfl
          have hcz17_3 : w5.cell? ⟨gb253, 3, none⟩ = some (.slice A0_3 l0_3.length c0_3) := (blk_cell BK253.out 3).trans rfl
          have hcz17_4 : w5.cell? ⟨gb253, 4, none⟩ = some (.slice A0_4 l0_4.length c0_4) := (blk_cell BK253.out 4).trans rfl
          have hfz17_0 := blk_frozen BK253.out 0
          have hfz17_1 := blk_frozen BK253.out 1
          have hfz17_2 := blk_frozen BK253.out 2
          have hfz17_3 := blk_frozen BK253.out 3
          have hfz17_4 := blk_frozen BK253.out 4
          have hcz18_0 : w5.cell? ⟨gb254, 0, none⟩ = some (.int .u64 a1_0) := (blk_cell BK254.out 0).trans rfl
          have hcz18_1 : w5.cell? ⟨gb254, 1, none⟩ = some (.int .u64 a1_1) := (blk_cell BK254.out 1).trans rfl
          have hcz18_2 : w5.cell? ⟨gb254, 2, none⟩ = some (.int .u64 a1_2) := (blk_cell BK254.out 2).trans rfl
          have hcz18_3 : w5.cell? ⟨gb254, 3, none⟩ = some (.slice A1_3 l1_3.length c1_3) := (blk_cell BK254.out 3).trans rfl
          have hcz18_4 : w5.cell? ⟨gb254, 4, none⟩ = some (.slice A1_4 l1_4.length c1_4) := (blk_cell BK254.out 4).trans rfl
          have hfz18_0 := blk_frozen BK254.out 0
          have hfz18_1 := blk_frozen BK254.out 1
          have hfz18_2 := blk_frozen BK254.out 2
          have hfz18_3 := blk_frozen BK254.out 3
          have hfz18_4 := blk_frozen BK254.out 4
          go_wp2
          repeat (go_quiet (fail); try go_wp2)
          go_meet
          case rel => exact ⟨_, (true), (by first | rfl | (simp; done) | (simp [*]; done)), H', ⟨by first | omega | exact Nat.le_refl _⟩, ⟨by (with_reducible repeat (first | refine blk_drewN ?_ _ | refine blk_drew ?_ | refine blk_alloc ?_ _)); exact BK253.out⟩, ⟨by (with_reducible repeat (first | refine blk_drewN ?_ _ | refine blk_drew ?_ | refine blk_alloc ?_ _)); exact BK254.out⟩, ⟨by repeat (first | (with_reducible first | exact HB.out | apply below_alloc | apply pw_below_drewN | apply below_drew1 | refine below_set ?_ GE253.out | refine below_set ?_ GE254.out) | exact HB.out)⟩⟩
      · rw [if_neg c7] at H
        have c7b0 : (a0_1 == a1_1) = false := beq_eq_false_iff_ne.mpr c7
        have c7b1 : (a0_1 != a1_1) = true := bne_iff_ne.mpr c7
        have H' := Aside0.mk H
        clear H
        have hnb19 := NB253_254.out
        have hnc19 := NB254_253.out
        have hcz20_0 : w5.cell? ⟨gb253, 0, none⟩ = some (.int .u64 a0_0) := (blk_cell BK253.out 0).trans rfl
        have hcz20_1 : w5.cell? ⟨gb253, 1, none⟩ = some (.int .u64 a0_1) := (blk_cell BK253.out 1).trans rfl
        have hcz20_2 : w5.cell? ⟨gb253, 2, none⟩ = some (.int .u64 a0_2) := (blk_cell BK253.out 2).trans rfl
        have hcz20_3 : w5.cell? ⟨gb253, 3, none⟩ = some (.slice A0_3 l0_3.length c0_3) := (blk_cell BK253.out 3).trans rfl
        have hcz20_4 : w5.cell? ⟨gb253, 4, none⟩ = some (.slice A0_4 l0_4.length c0_4) := (blk_cell BK253.out 4).trans rfl
        have hfz20_0 := blk_frozen BK253.out 0
        have hfz20_1 := blk_frozen BK253.out 1
        have hfz20_2 := blk_frozen BK253.out 2
        have hfz20_3 := blk_frozen BK253.out 3
        have hfz20_4 := blk_frozen BK253.out 4
        have hcz21_0 : w5.cell? ⟨gb254, 0, none⟩ = some (.int .u64 a1_0) := (blk_cell BK254.out 0).trans rfl
        have hcz21_1 : w5.cell? ⟨gb254, 1, none⟩ = some (.int .u64 a1_1) := (blk_cell BK254.out 1).trans rfl
        have hcz21_2 : w5.cell? ⟨gb254, 2, none⟩ = some (.int .u64 a1_2) := (blk_cell BK254.out 2).trans rfl
        have hcz21_3 : w5.cell? ⟨gb254, 3, none⟩ = some (.slice A1_3 l1_3.length c1_3) := (blk_cell BK254.out 3).trans rfl
        have hcz21_4 : w5.cell? ⟨gb254, 4, none⟩ = some (.slice A1_4 l1_4.length c1_4) := (blk_cell BK254.out 4).trans rfl
        have hfz21_0 := blk_frozen BK254.out 0
        have hfz21_1 := blk_frozen BK254.out 1
        have hfz21_2 := blk_frozen BK254.out 2
        have hfz21_3 := blk_frozen BK254.out 3
        have hfz21_4 := blk_frozen BK254.out 4
        go_wp2
        repeat (go_quiet (fail); try go_wp2)
        go_meet
        case rel => exact ⟨_, (true), (by first | rfl | (simp; done) | (simp [*]; done)), H', ⟨by first | omega | exact Nat.le_refl _⟩, ⟨by (with_reducible repeat (first | refine blk_drewN ?_ _ | refine blk_drew ?_ | refine blk_alloc ?_ _)); exact BK253.out⟩, ⟨by (with_reducible repeat (first | refine blk_drewN ?_ _ | refine blk_drew ?_ | refine blk_alloc ?_ _)); exact BK254.out⟩, ⟨by repeat (first | (with_reducible first | exact HB.out | apply below_alloc | apply pw_below_drewN | apply below_drew1 | refine below_set ?_ GE253.out | refine below_set ?_ GE254.out) | exact HB.out)⟩⟩
    · rw [if_neg c6] at H
      have c6b0 : (a0_0 == a1_0) = false := beq_eq_false_iff_ne.mpr c6
      have c6b1 : (a0_0 != a1_0) = true := bne_iff_ne.mpr c6
      (first | rw [c6b0] | (simp only [i64_w, i32_w]; rw [c6b0]) | skip)
      have H' := Aside0.mk H
      clear H
      have hnb22 := NB253_254.out
      have hnc22 := NB254_253.out
      have hcz23_0 : w5.cell? ⟨gb253, 0, none⟩ = some (.int .u64 a0_0) := (blk_cell BK253.out 0).trans rfl
      have hcz23_1 : w5.cell? ⟨gb253, 1, none⟩ = some (.int .u64 a0_1) := (blk_cell BK253.out 1).trans rfl
      have hcz23_2 : w5.cell? ⟨gb253, 2, none⟩ = some (.int .u64 a0_2) := (blk_cell BK253.out 2).trans rfl
      have hcz23_3 : w5.cell? ⟨gb253, 3, none⟩ = some (.slice A0_3 l0_3.length c0_3) := (blk_cell BK253.out 3).trans rfl
      have hcz23_4 : w5.cell? ⟨gb253, 4, none⟩ = some (.slice A0_4 l0_4.length c0_4) := (blk_cell BK253.out 4).trans rfl
      have hfz23_0 := blk_frozen BK253.out 0
      have hfz23_1 := blk_frozen BK253.out 1
      have hfz23_2 := blk_frozen BK253.out 2
      have hfz23_3 := blk_frozen BK253.out 3
      have hfz23_4 := blk_frozen BK253.out 4
      have hcz24_0 : w5.cell? ⟨gb254, 0, none⟩ = some (.int .u64 a1_0) := (blk_cell BK254.out 0).trans rfl
      have hcz24_1 : w5.cell? ⟨gb254, 1, none⟩ = some (.int .u64 a1_1) := (blk_cell BK254.out 1).trans rfl
      have hcz24_2 : w5.cell? ⟨gb254, 2, none⟩ = some (.int .u64 a1_2) := (blk_cell BK254.out 2).trans rfl
      have hcz24_3 : w5.cell? ⟨gb254, 3, none⟩ = some (.slice A1_3 l1_3.length c1_3) := (blk_cell BK254.out 3).trans rfl
      have hcz24_4 : w5.cell? ⟨gb254, 4, none⟩ = some (.slice A1_4 l1_4.length c1_4) := (blk_cell BK254.out 4).trans rfl
      have hfz24_0 := blk_frozen BK254.out 0
      have hfz24_1 := blk_frozen BK254.out 1
      have hfz24_2 := blk_frozen BK254.out 2
      have hfz24_3 := blk_frozen BK254.out 3
      have hfz24_4 := blk_frozen BK254.out 4
      go_wp2
      repeat (go_quiet (fail); try go_wp2)
      go_meet
      case rel => exact ⟨_, (true), (by first | rfl | (simp; done) | (simp [*]; done)), H', ⟨by first | omega | exact Nat.le_refl _⟩, ⟨by (with_reducible repeat (first | refine blk_drewN ?_ _ | refine blk_drew ?_ | refine blk_alloc ?_ _)); exact BK253.out⟩, ⟨by (with_reducible repeat (first | refine blk_drewN ?_ _ | refine blk_drew ?_ | refine blk_alloc ?_ _)); exact BK254.out⟩, ⟨by repeat (first | (with_reducible first | exact HB.out | apply below_alloc | apply pw_below_drewN | apply below_drew1 | refine below_set ?_ GE253.out | refine below_set ?_ GE254.out) | exact HB.out)⟩⟩
  case rest =>
    clear HC3
    try clear c1
    try clear c2
    try clear p2
    try clear c6
    try clear c6b0
    try clear c6b1
    try clear c7
    try clear c7b0
    try clear c7b1
    try clear c8
    try clear c8b0
    try clear c8b1
    try clear c9
    try clear c9b0
    try clear c9b1
    try clear c9b2
    try clear c10
    try clear c13
    try clear c16
    try clear c19
    try clear c22
    try clear hcz11_0
    try clear hcz11_1
    try clear hcz11_2
    try clear hcz11_3
    try clear hcz11_4
    try clear hcz12_0
    try clear hcz12_1
    try clear hcz12_2
    try clear hcz12_3
    try clear hcz12_4
    try clear hcz14_0
    try clear hcz14_1
    try clear hcz14_2
    try clear hcz14_3
    try clear hcz14_4
    try clear hcz15_0
    try clear hcz15_1
    try clear hcz15_2
    try clear hcz15_3
    try clear hcz15_4
    try clear hcz17_0
    try clear hcz17_1
    try clear hcz17_2
    try clear hcz17_3
    try clear hcz17_4
    try clear hcz18_0
    try clear hcz18_1
    try clear hcz18_2
    try clear hcz18_3
    try clear hcz18_4
    try clear hcz20_0
    try clear hcz20_1
    try clear hcz20_2
    try clear hcz20_3
    try clear hcz20_4
    try clear hcz21_0
    try clear hcz21_1
    try clear hcz21_2
    try clear hcz21_3
    try clear hcz21_4
    try clear hcz23_0
    try clear hcz23_1
    try clear hcz23_2
    try clear hcz23_3
    try clear hcz23_4
    try clear hcz24_0
    try clear hcz24_1
    try clear hcz24_2
    try clear hcz24_3
    try clear hcz24_4
    try clear hfz11_0
    try clear hfz11_1
    try clear hfz11_2
    try clear hfz11_3
    try clear hfz11_4
    try clear hfz12_0
    try clear hfz12_1
    try clear hfz12_2
    try clear hfz12_3
    try clear hfz12_4
    try clear hfz14_0
    try clear hfz14_1
    try clear hfz14_2
    try clear hfz14_3
    try clear hfz14_4
    try clear hfz15_0
    try clear hfz15_1
    try clear hfz15_2
    try clear hfz15_3
    try clear hfz15_4
    try clear hfz17_0
    try clear hfz17_1
    try clear hfz17_2
    try clear hfz17_3
    try clear hfz17_4
    try clear hfz18_0
    try clear hfz18_1
    try clear hfz18_2
    try clear hfz18_3
    try clear hfz18_4
    try clear hfz20_0
    try clear hfz20_1
    try clear hfz20_2
    try clear hfz20_3
    try clear hfz20_4
    try clear hfz21_0
    try clear hfz21_1
    try clear hfz21_2
    try clear hfz21_3
    try clear hfz21_4
    try clear hfz23_0
    try clear hfz23_1
    try clear hfz23_2
    try clear hfz23_3
    try clear hfz23_4
    try clear hfz24_0
    try clear hfz24_1
    try clear hfz24_2
    try clear hfz24_3
    try clear hfz24_4
    obtain ⟨kq, x43_2, rfl, HA, HJ2, BK253, BK254, HB⟩ := hcut
    cases kq with
    | zero => exact absurd HA.out (by simp [bourseref12_Same.j0])
    | succ kj2 =>
      have H := HA.out
      clear HA
      simp only [bourseref12_Same.j0] at H
      by_cases c25 : x43_2 = true
      · subst c25
        have H1 : (some false) = some r := by rw [if_pos rfl] at H; exact H
        clear H
        have H := H1
        clear H1
        obtain rfl := Option.some.inj H
        go_wp2
        repeat (go_quiet (fail); try go_wp2)
        go_ret
        exact ⟨by first | rfl | (simp [errW_none, errW_some] <;> rfl) | (simp [*, errW_none, errW_some] <;> rfl), by repeat (first | (with_reducible first | exact HB.out | apply below_alloc | apply pw_below_drewN | apply below_drew1 | refine below_set ?_ GE253.out | refine below_set ?_ GE254.out) | exact HB.out)⟩
      · replace c25 := Bool.eq_false_iff.mpr c25
        subst c25
        have H1 : (bourseref12_Same.l0 kj2 (l0_3.length : Int) 0 a0_0 a0_1 a0_2 l0_3 l0_4 a1_0 a1_1 a1_2 l1_3 l1_4) = some r := by rw [if_neg (show ¬ (false = true) by decide)] at H; exact H
        clear H
        have H := H1
        clear H1
        have H' := Aside0.mk H
        clear H
        have hnb26 := NB253_254.out
        have hnc26 := NB254_253.out
        have hcz27_0 : wc.cell? ⟨gb253, 0, none⟩ = some (.int .u64 a0_0) := (blk_cell BK253.out 0).trans rfl
        have hcz27_1 : wc.cell? ⟨gb253, 1, none⟩ = some (.int .u64 a0_1) := (blk_cell BK253.out 1).trans rfl
        have hcz27_2 : wc.cell? ⟨gb253, 2, none⟩ = some (.int .u64 a0_2) := (blk_cell BK253.out 2).trans rfl
        have hcz27_3 : wc.cell? ⟨gb253, 3, none⟩ = some (.slice A0_3 l0_3.length c0_3) := (blk_cell BK253.out 3).trans rfl
        have hcz27_4 : wc.cell? ⟨gb253, 4, none⟩ = some (.slice A0_4 l0_4.length c0_4) := (blk_cell BK253.out 4).trans rfl
        have hfz27_0 := blk_frozen BK253.out 0
        have hfz27_1 := blk_frozen BK253.out 1
        have hfz27_2 := blk_frozen BK253.out 2
        have hfz27_3 := blk_frozen BK253.out 3
        have hfz27_4 := blk_frozen BK253.out 4
        go_wp2
        repeat (go_quiet (fail); try go_wp2)
        go_loopg [47] kj2 (fun kq v47 w' => ∃ (x47_2 : Int), v47 = .int .i64 x47_2 ∧ Aside0 (bourseref12_Same.l0 kq (l0_3.length : Int) x47_2 a0_0 a0_1 a0_2 l0_3 l0_4 a1_0 a1_1 a1_2 l1_3 l1_4 = some r) ∧ Aside0 (kq ≤ kj2) ∧ Aside0 (w'.heap[gb253]? = some (.cells #[.int .u64 a0_0, .int .u64 a0_1, .int .u64 a0_2, (.slice A0_3 l0_3.length c0_3), (.slice A0_4 l0_4.length c0_4)] 36 (0, 0))) ∧ Aside0 (w'.heap[gb254]? = some (.cells #[.int .u64 a1_0, .int .u64 a1_1, .int .u64 a1_2, (.slice A1_3 l1_3.length c1_3), (.slice A1_4 l1_4.length c1_4)] 36 (0, 0))) ∧ Aside0 (Below w.heap.size w w'))
        case atStart => exact ⟨(0), (by first | rfl | (simp; done) | (simp [*]; done)), H', ⟨Nat.le_refl _⟩, ⟨by (with_reducible repeat (first | refine blk_drewN ?_ _ | refine blk_drew ?_ | refine blk_alloc ?_ _)); exact BK253.out⟩, ⟨by (with_reducible repeat (first | refine blk_drewN ?_ _ | refine blk_drew ?_ | refine blk_alloc ?_ _)); exact BK254.out⟩, ⟨by repeat (first | (with_reducible first | exact HB.out | apply below_alloc | apply pw_below_drewN | apply below_drew1 | refine below_set ?_ GE253.out | refine below_set ?_ GE254.out) | exact HB.out)⟩⟩
        case round =>
          clear H'
          try clear c1
          try clear c2
          try clear p2
          try clear c6
          try clear c6b0
          try clear c6b1
          try clear c7
          try clear c7b0
          try clear c7b1
          try clear c8
          try clear c8b0
          try clear c8b1
          try clear c9
          try clear c9b0
          try clear c9b1
          try clear c9b2
          try clear c10
          try clear c13
          try clear c16
          try clear c19
          try clear c22
          try clear c25
          try clear c26
          try clear hcz11_0
          try clear hcz11_1
          try clear hcz11_2
          try clear hcz11_3
          try clear hcz11_4
          try clear hcz12_0
          try clear hcz12_1
          try clear hcz12_2
          try clear hcz12_3
          try clear hcz12_4
          try clear hcz14_0
          try clear hcz14_1
          try clear hcz14_2
          try clear hcz14_3
          try clear hcz14_4
          try clear hcz15_0
          try clear hcz15_1
          try clear hcz15_2
          try clear hcz15_3
          try clear hcz15_4
          try clear hcz17_0
          try clear hcz17_1
          try clear hcz17_2
          try clear hcz17_3
          try clear hcz17_4
          try clear hcz18_0
          try clear hcz18_1
          try clear hcz18_2
          try clear hcz18_3
          try clear hcz18_4
          try clear hcz20_0
          try clear hcz20_1
          try clear hcz20_2
          try clear hcz20_3
          try clear hcz20_4
          try clear hcz21_0
          try clear hcz21_1
          try clear hcz21_2
          try clear hcz21_3
          try clear hcz21_4
          try clear hcz23_0
          try clear hcz23_1
          try clear hcz23_2
          try clear hcz23_3
          try clear hcz23_4
          try clear hcz24_0
          try clear hcz24_1
          try clear hcz24_2
          try clear hcz24_3
          try clear hcz24_4
          try clear hcz27_0
          try clear hcz27_1
          try clear hcz27_2
          try clear hcz27_3
          try clear hcz27_4
          try clear hfz11_0
          try clear hfz11_1
          try clear hfz11_2
          try clear hfz11_3
          try clear hfz11_4
          try clear hfz12_0
          try clear hfz12_1
          try clear hfz12_2
          try clear hfz12_3
          try clear hfz12_4
          try clear hfz14_0
          try clear hfz14_1
          try clear hfz14_2
          try clear hfz14_3
          try clear hfz14_4
          try clear hfz15_0
          try clear hfz15_1
          try clear hfz15_2
          try clear hfz15_3
          try clear hfz15_4
          try clear hfz17_0
          try clear hfz17_1
          try clear hfz17_2
          try clear hfz17_3
          try clear hfz17_4
          try clear hfz18_0
          try clear hfz18_1
          try clear hfz18_2
          try clear hfz18_3
          try clear hfz18_4
          try clear hfz20_0
          try clear hfz20_1
          try clear hfz20_2
          try clear hfz20_3
          try clear hfz20_4
          try clear hfz21_0
          try clear hfz21_1
          try clear hfz21_2
          try clear hfz21_3
          try clear hfz21_4
          try clear hfz23_0
          try clear hfz23_1
          try clear hfz23_2
          try clear hfz23_3
          try clear hfz23_4
          try clear hfz24_0
          try clear hfz24_1
          try clear hfz24_2
          try clear hfz24_3
          try clear hfz24_4
          try clear hfz27_0
          try clear hfz27_1
          try clear hfz27_2
          try clear hfz27_3
          try clear hfz27_4
          try clear p2
          obtain ⟨x47_2, rfl, HA, HK2, BK253, BK254, HB⟩ := hrel
          cases gk with
          | zero => exact absurd HA.out (by simp [bourseref12_Same.l0])
          | succ k2 =>
            have H := HA.out
            clear HA
            simp only [bourseref12_Same.l0] at H
            by_cases c28 : x47_2 < (l0_3.length : Int)
            · rw [if_pos c28] at H
              have c28b0 : decide (x47_2 < (l0_3.length : Int)) = true := decide_eq_true c28
              clear c28
              by_cases c29 : 0 ≤ x47_2
              · rw [if_pos c29] at H
                have c29b0 : decide (0 ≤ x47_2) = true := decide_eq_true c29
                clear c29
                by_cases c30 : x47_2 < (l0_3.length : Int)
                · rw [if_pos c30] at H
                  have c30b0 : decide (x47_2 < (l0_3.length : Int)) = true := decide_eq_true c30
                  clear c30
                  by_cases c31 : x47_2 < (l1_3.length : Int)
                  · rw [if_pos c31] at H
                    have c31b0 : decide (x47_2 < (l1_3.length : Int)) = true := decide_eq_true c31
                    clear c31
                    by_cases c32 : (!(((rd_T114 l0_3 x47_2).f0) == ((rd_T114 l1_3 x47_2).f0)) || ((!(((rd_T114 l0_3 x47_2).f1.f0) == ((rd_T114 l1_3 x47_2).f1.f0)) || (!(((rd_T114 l0_3 x47_2).f1.f1) == ((rd_T114 l1_3 x47_2).f1.f1)) || (!(((rd_T114 l0_3 x47_2).f1.f2) == ((rd_T114 l1_3 x47_2).f1.f2)) || (!((((rd_T114 l0_3 x47_2).f1.f3).toList) == (((rd_T114 l1_3 x47_2).f1.f3).toList)) || (!((((rd_T114 l0_3 x47_2).f1.f4).toList) == (((rd_T114 l1_3 x47_2).f1.f4).toList))))))))) = true
                    · rw [if_pos c32] at H
                      have c32b0 : (!(((rd_T114 l0_3 x47_2).f0) == ((rd_T114 l1_3 x47_2).f0)) || ((!(((rd_T114 l0_3 x47_2).f1.f0) == ((rd_T114 l1_3 x47_2).f1.f0)) || (!(((rd_T114 l0_3 x47_2).f1.f1) == ((rd_T114 l1_3 x47_2).f1.f1)) || (!(((rd_T114 l0_3 x47_2).f1.f2) == ((rd_T114 l1_3 x47_2).f1.f2)) || (!((((rd_T114 l0_3 x47_2).f1.f3).toList) == (((rd_T114 l1_3 x47_2).f1.f3).toList)) || (!((((rd_T114 l0_3 x47_2).f1.f4).toList) == (((rd_T114 l1_3 x47_2).f1.f4).toList))))))))) = true := c32
                      clear c32
                      obtain rfl := Option.some.inj H
                      have hnb33 := NB253_254.out
                      have hnc33 := NB254_253.out
                      have hcz34_0 : wr.cell? ⟨gb253, 0, none⟩ = some (.int .u64 a0_0) := (blk_cell BK253.out 0).trans rfl
                      have hcz34_1 : wr.cell? ⟨gb253, 1, none⟩ = some (.int .u64 a0_1) := (blk_cell BK253.out 1).trans rfl
                      have hcz34_2 : wr.cell? ⟨gb253, 2, none⟩ = some (.int .u64 a0_2) := (blk_cell BK253.out 2).trans rfl
                      have hcz34_3 : wr.cell? ⟨gb253, 3, none⟩ = some (.slice A0_3 l0_3.length c0_3) := (blk_cell BK253.out 3).trans rfl
                      have hcz34_4 : wr.cell? ⟨gb253, 4, none⟩ = some (.slice A0_4 l0_4.length c0_4) := (blk_cell BK253.out 4).trans rfl
                      have hfz34_0 := blk_frozen BK253.out 0
                      have hfz34_1 := blk_frozen BK253.out 1
                      have hfz34_2 := blk_frozen BK253.out 2
                      have hfz34_3 := blk_frozen BK253.out 3
                      have hfz34_4 := blk_frozen BK253.out 4
                      have p255 : 0 ≤ (x47_2 : Int) := of_decide_eq_true (by first | (with_reducible assumption) | assumption)
                      have q255 : x47_2 < (l0_3.length : Int) := of_decide_eq_true (by first | (with_reducible assumption) | assumption)
                      obtain ⟨ad255, e255, hx255_0, hx255_1, hx255_2, hx255_3, hx255_4, hx255_5⟩ := at_T114 HR0_3.out x47_2 p255 q255
                      cases e255
                      replace hx255_0 := (HB.out.cell (World.block_lt_of_cell? w _ hx255_0)).trans hx255_0
                      replace hx255_1 := (HB.out.cell (World.block_lt_of_cell? w _ hx255_1)).trans hx255_1
                      replace hx255_2 := (HB.out.cell (World.block_lt_of_cell? w _ hx255_2)).trans hx255_2
                      replace hx255_3 := (HB.out.cell (World.block_lt_of_cell? w _ hx255_3)).trans hx255_3
                      replace hx255_4 := (HB.out.cell (World.block_lt_of_cell? w _ hx255_4)).trans hx255_4
                      replace hx255_5 := (HB.out.cell (World.block_lt_of_cell? w _ hx255_5)).trans hx255_5
                      replace p255 := eq_true p255
                      replace q255 := eq_true q255
                      have hcz35_0 : wr.cell? ⟨gb254, 0, none⟩ = some (.int .u64 a1_0) := (blk_cell BK254.out 0).trans rfl
                      have hcz35_1 : wr.cell? ⟨gb254, 1, none⟩ = some (.int .u64 a1_1) := (blk_cell BK254.out 1).trans rfl
                      have hcz35_2 : wr.cell? ⟨gb254, 2, none⟩ = some (.int .u64 a1_2) := (blk_cell BK254.out 2).trans rfl
                      have hcz35_3 : wr.cell? ⟨gb254, 3, none⟩ = some (.slice A1_3 l1_3.length c1_3) := (blk_cell BK254.out 3).trans rfl
                      have hcz35_4 : wr.cell? ⟨gb254, 4, none⟩ = some (.slice A1_4 l1_4.length c1_4) := (blk_cell BK254.out 4).trans rfl
                      have hfz35_0 := blk_frozen BK254.out 0
                      have hfz35_1 := blk_frozen BK254.out 1
                      have hfz35_2 := blk_frozen BK254.out 2
                      have hfz35_3 := blk_frozen BK254.out 3
                      have hfz35_4 := blk_frozen BK254.out 4
                      have p256 : 0 ≤ (x47_2 : Int) := of_decide_eq_true (by first | (with_reducible assumption) | assumption)
                      have q256 : x47_2 < (l1_3.length : Int) := of_decide_eq_true (by first | (with_reducible assumption) | assumption)
                      obtain ⟨ad256, e256, hx256_0, hx256_1, hx256_2, hx256_3, hx256_4, hx256_5⟩ := at_T114 HR1_3.out x47_2 p256 q256
                      cases e256
                      replace hx256_0 := (HB.out.cell (World.block_lt_of_cell? w _ hx256_0)).trans hx256_0
                      replace hx256_1 := (HB.out.cell (World.block_lt_of_cell? w _ hx256_1)).trans hx256_1
                      replace hx256_2 := (HB.out.cell (World.block_lt_of_cell? w _ hx256_2)).trans hx256_2
                      replace hx256_3 := (HB.out.cell (World.block_lt_of_cell? w _ hx256_3)).trans hx256_3
                      replace hx256_4 := (HB.out.cell (World.block_lt_of_cell? w _ hx256_4)).trans hx256_4
                      replace hx256_5 := (HB.out.cell (World.block_lt_of_cell? w _ hx256_5)).trans hx256_5
                      replace p256 := eq_true p256
                      replace q256 := eq_true q256
                      go_wp2
                      repeat (go_quiet (fail); try go_wp2)
                      go_ret
                      exact ⟨by first | rfl | (simp [errW_none, errW_some] <;> rfl) | (simp [*, errW_none, errW_some] <;> rfl), by repeat (first | (with_reducible first | exact HB.out | apply below_alloc | apply pw_below_drewN | apply below_drew1 | refine below_set ?_ GE253.out | refine below_set ?_ GE254.out) | exact HB.out)⟩
                    · rw [if_neg c32] at H
                      have c32b0 : (!(((rd_T114 l0_3 x47_2).f0) == ((rd_T114 l1_3 x47_2).f0)) || ((!(((rd_T114 l0_3 x47_2).f1.f0) == ((rd_T114 l1_3 x47_2).f1.f0)) || (!(((rd_T114 l0_3 x47_2).f1.f1) == ((rd_T114 l1_3 x47_2).f1.f1)) || (!(((rd_T114 l0_3 x47_2).f1.f2) == ((rd_T114 l1_3 x47_2).f1.f2)) || (!((((rd_T114 l0_3 x47_2).f1.f3).toList) == (((rd_T114 l1_3 x47_2).f1.f3).toList)) || (!((((rd_T114 l0_3 x47_2).f1.f4).toList) == (((rd_T114 l1_3 x47_2).f1.f4).toList))))))))) = false := by simpa using c32
                      clear c32
                      have H' := Aside0.mk H
                      clear H
                      have hnb36 := NB253_254.out
                      have hnc36 := NB254_253.out
                      have hcz37_0 : wr.cell? ⟨gb253, 0, none⟩ = some (.int .u64 a0_0) := (blk_cell BK253.out 0).trans rfl
                      have hcz37_1 : wr.cell? ⟨gb253, 1, none⟩ = some (.int .u64 a0_1) := (blk_cell BK253.out 1).trans rfl
                      have hcz37_2 : wr.cell? ⟨gb253, 2, none⟩ = some (.int .u64 a0_2) := (blk_cell BK253.out 2).trans rfl
                      have hcz37_3 : wr.cell? ⟨gb253, 3, none⟩ = some (.slice A0_3 l0_3.length c0_3) := (blk_cell BK253.out 3).trans rfl
                      have hcz37_4 : wr.cell? ⟨gb253, 4, none⟩ = some (.slice A0_4 l0_4.length c0_4) := (blk_cell BK253.out 4).trans rfl
                      have hfz37_0 := blk_frozen BK253.out 0
                      have hfz37_1 := blk_frozen BK253.out 1
                      have hfz37_2 := blk_frozen BK253.out 2
                      have hfz37_3 := blk_frozen BK253.out 3
                      have hfz37_4 := blk_frozen BK253.out 4
                      have p255 : 0 ≤ (x47_2 : Int) := of_decide_eq_true (by first | (with_reducible assumption) | assumption)
                      have q255 : x47_2 < (l0_3.length : Int) := of_decide_eq_true (by first | (with_reducible assumption) | assumption)
                      obtain ⟨ad255, e255, hx255_0, hx255_1, hx255_2, hx255_3, hx255_4, hx255_5⟩ := at_T114 HR0_3.out x47_2 p255 q255
                      cases e255
                      replace hx255_0 := (HB.out.cell (World.block_lt_of_cell? w _ hx255_0)).trans hx255_0
                      replace hx255_1 := (HB.out.cell (World.block_lt_of_cell? w _ hx255_1)).trans hx255_1
                      replace hx255_2 := (HB.out.cell (World.block_lt_of_cell? w _ hx255_2)).trans hx255_2
                      replace hx255_3 := (HB.out.cell (World.block_lt_of_cell? w _ hx255_3)).trans hx255_3
                      replace hx255_4 := (HB.out.cell (World.block_lt_of_cell? w _ hx255_4)).trans hx255_4
                      replace hx255_5 := (HB.out.cell (World.block_lt_of_cell? w _ hx255_5)).trans hx255_5
                      replace p255 := eq_true p255
                      replace q255 := eq_true q255
                      have hcz38_0 : wr.cell? ⟨gb254, 0, none⟩ = some (.int .u64 a1_0) := (blk_cell BK254.out 0).trans rfl
                      have hcz38_1 : wr.cell? ⟨gb254, 1, none⟩ = some (.int .u64 a1_1) := (blk_cell BK254.out 1).trans rfl
                      have hcz38_2 : wr.cell? ⟨gb254, 2, none⟩ = some (.int .u64 a1_2) := (blk_cell BK254.out 2).trans rfl
                      have hcz38_3 : wr.cell? ⟨gb254, 3, none⟩ = some (.slice A1_3 l1_3.length c1_3) := (blk_cell BK254.out 3).trans rfl
                      have hcz38_4 : wr.cell? ⟨gb254, 4, none⟩ = some (.slice A1_4 l1_4.length c1_4) := (blk_cell BK254.out 4).trans rfl
                      have hfz38_0 := blk_frozen BK254.out 0
                      have hfz38_1 := blk_frozen BK254.out 1
                      have hfz38_2 := blk_frozen BK254.out 2
                      have hfz38_3 := blk_frozen BK254.out 3
                      have hfz38_4 := blk_frozen BK254.out 4
                      have p256 : 0 ≤ (x47_2 : Int) := of_decide_eq_true (by first | (with_reducible assumption) | assumption)
                      have q256 : x47_2 < (l1_3.length : Int) := of_decide_eq_true (by first | (with_reducible assumption) | assumption)
                      obtain ⟨ad256, e256, hx256_0, hx256_1, hx256_2, hx256_3, hx256_4, hx256_5⟩ := at_T114 HR1_3.out x47_2 p256 q256
                      cases e256
                      replace hx256_0 := (HB.out.cell (World.block_lt_of_cell? w _ hx256_0)).trans hx256_0
                      replace hx256_1 := (HB.out.cell (World.block_lt_of_cell? w _ hx256_1)).trans hx256_1
                      replace hx256_2 := (HB.out.cell (World.block_lt_of_cell? w _ hx256_2)).trans hx256_2
                      replace hx256_3 := (HB.out.cell (World.block_lt_of_cell? w _ hx256_3)).trans hx256_3
                      replace hx256_4 := (HB.out.cell (World.block_lt_of_cell? w _ hx256_4)).trans hx256_4
                      replace hx256_5 := (HB.out.cell (World.block_lt_of_cell? w _ hx256_5)).trans hx256_5
                      replace p256 := eq_true p256
                      replace q256 := eq_true q256
                      go_wp2
                      repeat (go_quiet (fail); try go_wp2)
                      go_roundg k2
                      case measure => have := HJ2.out; have := HK2.out; omega
                      case rel => exact ⟨(wrap64 (x47_2 + 1)), (by first | rfl | (simp; done) | (simp [*]; done)), H', ⟨by have := HJ2.out; have := HK2.out; omega⟩, ⟨by (with_reducible repeat (first | refine blk_drewN ?_ _ | refine blk_drew ?_ | refine blk_alloc ?_ _)); exact BK253.out⟩, ⟨by (with_reducible repeat (first | refine blk_drewN ?_ _ | refine blk_drew ?_ | refine blk_alloc ?_ _)); exact BK254.out⟩, ⟨by repeat (first | (with_reducible first | exact HB.out | apply below_alloc | apply pw_below_drewN | apply below_drew1 | refine below_set ?_ GE253.out | refine below_set ?_ GE254.out) | exact HB.out)⟩⟩
                  · rw [if_neg c31] at H
                    exact absurd H (by simp)
                · rw [if_neg c30] at H
                  exact absurd H (by simp)
              · rw [if_neg c29] at H
                exact absurd H (by simp)
            · rw [if_neg c28] at H
              have c28b0 : decide (x47_2 < (l0_3.length : Int)) = false := decide_eq_false c28
              clear c28
              have H' := Aside0.mk H
              clear H
              have hnb39 := NB253_254.out
              have hnc39 := NB254_253.out
              have hcz40_0 : wr.cell? ⟨gb253, 0, none⟩ = some (.int .u64 a0_0) := (blk_cell BK253.out 0).trans rfl
              have hcz40_1 : wr.cell? ⟨gb253, 1, none⟩ = some (.int .u64 a0_1) := (blk_cell BK253.out 1).trans rfl
              have hcz40_2 : wr.cell? ⟨gb253, 2, none⟩ = some (.int .u64 a0_2) := (blk_cell BK253.out 2).trans rfl
              have hcz40_3 : wr.cell? ⟨gb253, 3, none⟩ = some (.slice A0_3 l0_3.length c0_3) := (blk_cell BK253.out 3).trans rfl
              have hcz40_4 : wr.cell? ⟨gb253, 4, none⟩ = some (.slice A0_4 l0_4.length c0_4) := (blk_cell BK253.out 4).trans rfl
              have hfz40_0 := blk_frozen BK253.out 0
              have hfz40_1 := blk_frozen BK253.out 1
              have hfz40_2 := blk_frozen BK253.out 2
              have hfz40_3 := blk_frozen BK253.out 3
              have hfz40_4 := blk_frozen BK253.out 4
              go_wp2
              repeat (go_quiet (fail); try go_wp2)
              go_loopg [65] k2 (fun kq v65 w' => ∃ (x65_3 : Int), v65 = .int .i64 x65_3 ∧ Aside0 (bourseref12_Same.l1 kq (l0_4.length : Int) x65_3 a0_0 a0_1 a0_2 l0_3 l0_4 a1_0 a1_1 a1_2 l1_3 l1_4 = some r) ∧ Aside0 (kq ≤ k2) ∧ Aside0 (w'.heap[gb253]? = some (.cells #[.int .u64 a0_0, .int .u64 a0_1, .int .u64 a0_2, (.slice A0_3 l0_3.length c0_3), (.slice A0_4 l0_4.length c0_4)] 36 (0, 0))) ∧ Aside0 (w'.heap[gb254]? = some (.cells #[.int .u64 a1_0, .int .u64 a1_1, .int .u64 a1_2, (.slice A1_3 l1_3.length c1_3), (.slice A1_4 l1_4.length c1_4)] 36 (0, 0))) ∧ Aside0 (Below w.heap.size w w'))
              case atStart => exact ⟨(0), (by first | rfl | (simp; done) | (simp [*]; done)), H', ⟨Nat.le_refl _⟩, ⟨by (with_reducible repeat (first | refine blk_drewN ?_ _ | refine blk_drew ?_ | refine blk_alloc ?_ _)); exact BK253.out⟩, ⟨by (with_reducible repeat (first | refine blk_drewN ?_ _ | refine blk_drew ?_ | refine blk_alloc ?_ _)); exact BK254.out⟩, ⟨by repeat (first | (with_reducible first | exact HB.out | apply below_alloc | apply pw_below_drewN | apply below_drew1 | refine below_set ?_ GE253.out | refine below_set ?_ GE254.out) | exact HB.out)⟩⟩
              case round =>
                clear H'
                try clear c1
                try clear c2
                try clear p2
                try clear q2
                try clear hx2
                try clear c3
                try clear c6
                try clear c6b0
                try clear c6b1
                try clear p6
                try clear c7
                try clear c7b0
                try clear c7b1
                try clear c8
                try clear c8b0
                try clear c8b1
                try clear c9
                try clear c9b0
                try clear c9b1
                try clear c9b2
                try clear c10
                try clear c13
                try clear c16
                try clear c19
                try clear c22
                try clear c25
                try clear p25
                try clear q25
                try clear hx25
                try clear c26
                try clear c28
                try clear c28b0
                try clear c29
                try clear c29b0
                try clear c30
                try clear c30b0
                try clear c31
                try clear c31b0
                try clear c32
                try clear c32b0
                try clear c33
                try clear c36
                try clear c39
                try clear hcz11_0
                try clear hcz11_1
                try clear hcz11_2
                try clear hcz11_3
                try clear hcz11_4
                try clear hcz12_0
                try clear hcz12_1
                try clear hcz12_2
                try clear hcz12_3
                try clear hcz12_4
                try clear hcz14_0
                try clear hcz14_1
                try clear hcz14_2
                try clear hcz14_3
                try clear hcz14_4
                try clear hcz15_0
                try clear hcz15_1
                try clear hcz15_2
                try clear hcz15_3
                try clear hcz15_4
                try clear hcz17_0
                try clear hcz17_1
                try clear hcz17_2
                try clear hcz17_3
                try clear hcz17_4
                try clear hcz18_0
                try clear hcz18_1
                try clear hcz18_2
                try clear hcz18_3
                try clear hcz18_4
                try clear hcz20_0
                try clear hcz20_1
                try clear hcz20_2
                try clear hcz20_3
                try clear hcz20_4
                try clear hcz21_0
                try clear hcz21_1
                try clear hcz21_2
                try clear hcz21_3
                try clear hcz21_4
                try clear hcz23_0
                try clear hcz23_1
                try clear hcz23_2
                try clear hcz23_3
                try clear hcz23_4
                try clear hcz24_0
                try clear hcz24_1
                try clear hcz24_2
                try clear hcz24_3
                try clear hcz24_4
                try clear hcz27_0
                try clear hcz27_1
                try clear hcz27_2
                try clear hcz27_3
                try clear hcz27_4
                try clear hcz34_0
                try clear hcz34_1
                try clear hcz34_2
                try clear hcz34_3
                try clear hcz34_4
                try clear hcz35_0
                try clear hcz35_1
                try clear hcz35_2
                try clear hcz35_3
                try clear hcz35_4
                try clear hcz37_0
                try clear hcz37_1
                try clear hcz37_2
                try clear hcz37_3
                try clear hcz37_4
                try clear hcz38_0
                try clear hcz38_1
                try clear hcz38_2
                try clear hcz38_3
                try clear hcz38_4
                try clear hcz40_0
                try clear hcz40_1
                try clear hcz40_2
                try clear hcz40_3
                try clear hcz40_4
                try clear hfz11_0
                try clear hfz11_1
                try clear hfz11_2
                try clear hfz11_3
                try clear hfz11_4
                try clear hfz12_0
                try clear hfz12_1
                try clear hfz12_2
                try clear hfz12_3
                try clear hfz12_4
                try clear hfz14_0
                try clear hfz14_1
                try clear hfz14_2
                try clear hfz14_3
                try clear hfz14_4
                try clear hfz15_0
                try clear hfz15_1
                try clear hfz15_2
                try clear hfz15_3
                try clear hfz15_4
                try clear hfz17_0
                try clear hfz17_1
                try clear hfz17_2
                try clear hfz17_3
                try clear hfz17_4
                try clear hfz18_0
                try clear hfz18_1
                try clear hfz18_2
                try clear hfz18_3
                try clear hfz18_4
                try clear hfz20_0
                try clear hfz20_1
                try clear hfz20_2
                try clear hfz20_3
                try clear hfz20_4
                try clear hfz21_0
                try clear hfz21_1
                try clear hfz21_2
                try clear hfz21_3
                try clear hfz21_4
                try clear hfz23_0
                try clear hfz23_1
                try clear hfz23_2
                try clear hfz23_3
                try clear hfz23_4
                try clear hfz24_0
                try clear hfz24_1
                try clear hfz24_2
                try clear hfz24_3
                try clear hfz24_4
                try clear hfz27_0
                try clear hfz27_1
                try clear hfz27_2
                try clear hfz27_3
                try clear hfz27_4
                try clear hfz34_0
                try clear hfz34_1
                try clear hfz34_2
                try clear hfz34_3
                try clear hfz34_4
                try clear hfz35_0
                try clear hfz35_1
                try clear hfz35_2
                try clear hfz35_3
                try clear hfz35_4
                try clear hfz37_0
                try clear hfz37_1
                try clear hfz37_2
                try clear hfz37_3
                try clear hfz37_4
                try clear hfz38_0
                try clear hfz38_1
                try clear hfz38_2
                try clear hfz38_3
                try clear hfz38_4
                try clear hfz40_0
                try clear hfz40_1
                try clear hfz40_2
                try clear hfz40_3
                try clear hfz40_4
                try clear hx255_0
                try clear hx255_1
                try clear hx255_2
                try clear hx255_3
                try clear hx255_4
                try clear hx255_5
                try clear hx256_0
                try clear hx256_1
                try clear hx256_2
                try clear hx256_3
                try clear hx256_4
                try clear hx256_5
                try clear p2
                try clear p255
                try clear p256
                try clear q255
                try clear q256
                obtain ⟨x65_3, rfl, HA, HK3, BK253, BK254, HB⟩ := hrel
                cases gk with
                | zero => exact absurd HA.out (by simp [bourseref12_Same.l1])
                | succ k3 =>
                  have H := HA.out
                  clear HA
                  simp only [bourseref12_Same.l1] at H
                  by_cases c41 : x65_3 < (l0_4.length : Int)
                  · rw [if_pos c41] at H
                    have c41b0 : decide (x65_3 < (l0_4.length : Int)) = true := decide_eq_true c41
                    clear c41
                    by_cases c42 : 0 ≤ x65_3
                    · rw [if_pos c42] at H
                      have c42b0 : decide (0 ≤ x65_3) = true := decide_eq_true c42
                      clear c42
                      by_cases c43 : x65_3 < (l0_4.length : Int)
                      · rw [if_pos c43] at H
                        have c43b0 : decide (x65_3 < (l0_4.length : Int)) = true := decide_eq_true c43
                        clear c43
                        by_cases c44 : x65_3 < (l1_4.length : Int)
                        · rw [if_pos c44] at H
                          have c44b0 : decide (x65_3 < (l1_4.length : Int)) = true := decide_eq_true c44
                          clear c44
                          by_cases c45 : (!(((rd_T115 l0_4 x65_3).f0) == ((rd_T115 l1_4 x65_3).f0)) || (!(((rd_T115 l0_4 x65_3).f1) == ((rd_T115 l1_4 x65_3).f1)))) = true
                          · rw [if_pos c45] at H
                            have c45b0 : (!(((rd_T115 l0_4 x65_3).f0) == ((rd_T115 l1_4 x65_3).f0)) || (!(((rd_T115 l0_4 x65_3).f1) == ((rd_T115 l1_4 x65_3).f1)))) = true := c45
                            clear c45
                            obtain rfl := Option.some.inj H
                            have hnb46 := NB253_254.out
                            have hnc46 := NB254_253.out
                            have hcz47_0 : wr.cell? ⟨gb253, 0, none⟩ = some (.int .u64 a0_0) := (blk_cell BK253.out 0).trans rfl
                            have hcz47_1 : wr.cell? ⟨gb253, 1, none⟩ = some (.int .u64 a0_1) := (blk_cell BK253.out 1).trans rfl
                            have hcz47_2 : wr.cell? ⟨gb253, 2, none⟩ = some (.int .u64 a0_2) := (blk_cell BK253.out 2).trans rfl
                            have hcz47_3 : wr.cell? ⟨gb253, 3, none⟩ = some (.slice A0_3 l0_3.length c0_3) := (blk_cell BK253.out 3).trans rfl
                            have hcz47_4 : wr.cell? ⟨gb253, 4, none⟩ = some (.slice A0_4 l0_4.length c0_4) := (blk_cell BK253.out 4).trans rfl
                            have hfz47_0 := blk_frozen BK253.out 0
                            have hfz47_1 := blk_frozen BK253.out 1
                            have hfz47_2 := blk_frozen BK253.out 2
                            have hfz47_3 := blk_frozen BK253.out 3
                            have hfz47_4 := blk_frozen BK253.out 4
                            have p257 : 0 ≤ (x65_3 : Int) := of_decide_eq_true (by first | (with_reducible assumption) | assumption)
                            have q257 : x65_3 < (l0_4.length : Int) := of_decide_eq_true (by first | (with_reducible assumption) | assumption)
                            obtain ⟨ad257, e257, hx257_0, hx257_1⟩ := at_T115 HR0_4.out x65_3 p257 q257
                            cases e257
                            replace hx257_0 := (HB.out.cell (World.block_lt_of_cell? w _ hx257_0)).trans hx257_0
                            replace hx257_1 := (HB.out.cell (World.block_lt_of_cell? w _ hx257_1)).trans hx257_1
                            replace p257 := eq_true p257
                            replace q257 := eq_true q257
                            have hcz48_0 : wr.cell? ⟨gb254, 0, none⟩ = some (.int .u64 a1_0) := (blk_cell BK254.out 0).trans rfl
                            have hcz48_1 : wr.cell? ⟨gb254, 1, none⟩ = some (.int .u64 a1_1) := (blk_cell BK254.out 1).trans rfl
                            have hcz48_2 : wr.cell? ⟨gb254, 2, none⟩ = some (.int .u64 a1_2) := (blk_cell BK254.out 2).trans rfl
                            have hcz48_3 : wr.cell? ⟨gb254, 3, none⟩ = some (.slice A1_3 l1_3.length c1_3) := (blk_cell BK254.out 3).trans rfl
                            have hcz48_4 : wr.cell? ⟨gb254, 4, none⟩ = some (.slice A1_4 l1_4.length c1_4) := (blk_cell BK254.out 4).trans rfl
                            have hfz48_0 := blk_frozen BK254.out 0
                            have hfz48_1 := blk_frozen BK254.out 1
                            have hfz48_2 := blk_frozen BK254.out 2
                            have hfz48_3 := blk_frozen BK254.out 3
                            have hfz48_4 := blk_frozen BK254.out 4
                            have p258 : 0 ≤ (x65_3 : Int) := of_decide_eq_true (by first | (with_reducible assumption) | assumption)
                            have q258 : x65_3 < (l1_4.length : Int) := of_decide_eq_true (by first | (with_reducible assumption) | assumption)
                            obtain ⟨ad258, e258, hx258_0, hx258_1⟩ := at_T115 HR1_4.out x65_3 p258 q258
                            cases e258
                            replace hx258_0 := (HB.out.cell (World.block_lt_of_cell? w _ hx258_0)).trans hx258_0
                            replace hx258_1 := (HB.out.cell (World.block_lt_of_cell? w _ hx258_1)).trans hx258_1
                            replace p258 := eq_true p258
                            replace q258 := eq_true q258
                            go_wp2
                            repeat (go_quiet (fail); try go_wp2)
                            go_ret
                            exact ⟨by first | rfl | (simp [errW_none, errW_some] <;> rfl) | (simp [*, errW_none, errW_some] <;> rfl), by repeat (first | (with_reducible first | exact HB.out | apply below_alloc | apply pw_below_drewN | apply below_drew1 | refine below_set ?_ GE253.out | refine below_set ?_ GE254.out) | exact HB.out)⟩
                          · rw [if_neg c45] at H
                            have c45b0 : (!(((rd_T115 l0_4 x65_3).f0) == ((rd_T115 l1_4 x65_3).f0)) || (!(((rd_T115 l0_4 x65_3).f1) == ((rd_T115 l1_4 x65_3).f1)))) = false := by simpa using c45
                            clear c45
                            have H' := Aside0.mk H
                            clear H
                            have hnb49 := NB253_254.out
                            have hnc49 := NB254_253.out
                            have hcz50_0 : wr.cell? ⟨gb253, 0, none⟩ = some (.int .u64 a0_0) := (blk_cell BK253.out 0).trans rfl
                            have hcz50_1 : wr.cell? ⟨gb253, 1, none⟩ = some (.int .u64 a0_1) := (blk_cell BK253.out 1).trans rfl
                            have hcz50_2 : wr.cell? ⟨gb253, 2, none⟩ = some (.int .u64 a0_2) := (blk_cell BK253.out 2).trans rfl
                            have hcz50_3 : wr.cell? ⟨gb253, 3, none⟩ = some (.slice A0_3 l0_3.length c0_3) := (blk_cell BK253.out 3).trans rfl
                            have hcz50_4 : wr.cell? ⟨gb253, 4, none⟩ = some (.slice A0_4 l0_4.length c0_4) := (blk_cell BK253.out 4).trans rfl
                            have hfz50_0 := blk_frozen BK253.out 0
                            have hfz50_1 := blk_frozen BK253.out 1
                            have hfz50_2 := blk_frozen BK253.out 2
                            have hfz50_3 := blk_frozen BK253.out 3
                            have hfz50_4 := blk_frozen BK253.out 4
                            have p257 : 0 ≤ (x65_3 : Int) := of_decide_eq_true (by first | (with_reducible assumption) | assumption)
                            have q257 : x65_3 < (l0_4.length : Int) := of_decide_eq_true (by first | (with_reducible assumption) | assumption)
                            obtain ⟨ad257, e257, hx257_0, hx257_1⟩ := at_T115 HR0_4.out x65_3 p257 q257
                            cases e257
                            replace hx257_0 := (HB.out.cell (World.block_lt_of_cell? w _ hx257_0)).trans hx257_0
                            replace hx257_1 := (HB.out.cell (World.block_lt_of_cell? w _ hx257_1)).trans hx257_1
                            replace p257 := eq_true p257
                            replace q257 := eq_true q257
                            have hcz51_0 : wr.cell? ⟨gb254, 0, none⟩ = some (.int .u64 a1_0) := (blk_cell BK254.out 0).trans rfl
                            have hcz51_1 : wr.cell? ⟨gb254, 1, none⟩ = some (.int .u64 a1_1) := (blk_cell BK254.out 1).trans rfl
                            have hcz51_2 : wr.cell? ⟨gb254, 2, none⟩ = some (.int .u64 a1_2) := (blk_cell BK254.out 2).trans rfl
                            have hcz51_3 : wr.cell? ⟨gb254, 3, none⟩ = some (.slice A1_3 l1_3.length c1_3) := (blk_cell BK254.out 3).trans rfl
                            have hcz51_4 : wr.cell? ⟨gb254, 4, none⟩ = some (.slice A1_4 l1_4.length c1_4) := (blk_cell BK254.out 4).trans rfl
                            have hfz51_0 := blk_frozen BK254.out 0
                            have hfz51_1 := blk_frozen BK254.out 1
                            have hfz51_2 := blk_frozen BK254.out 2
                            have hfz51_3 := blk_frozen BK254.out 3
                            have hfz51_4 := blk_frozen BK254.out 4
                            have p258 : 0 ≤ (x65_3 : Int) := of_decide_eq_true (by first | (with_reducible assumption) | assumption)
                            have q258 : x65_3 < (l1_4.length : Int) := of_decide_eq_true (by first | (with_reducible assumption) | assumption)
                            obtain ⟨ad258, e258, hx258_0, hx258_1⟩ := at_T115 HR1_4.out x65_3 p258 q258
                            cases e258
                            replace hx258_0 := (HB.out.cell (World.block_lt_of_cell? w _ hx258_0)).trans hx258_0
                            replace hx258_1 := (HB.out.cell (World.block_lt_of_cell? w _ hx258_1)).trans hx258_1
                            replace p258 := eq_true p258
                            replace q258 := eq_true q258
                            go_wp2
                            repeat (go_quiet (fail); try go_wp2)
                            go_roundg k3
                            case measure => have := HJ2.out; have := HK2.out; have := HK3.out; omega
                            case rel => exact ⟨(wrap64 (x65_3 + 1)), (by first | rfl | (simp; done) | (simp [*]; done)), H', ⟨by have := HJ2.out; have := HK2.out; have := HK3.out; omega⟩, ⟨by (with_reducible repeat (first | refine blk_drewN ?_ _ | refine blk_drew ?_ | refine blk_alloc ?_ _)); exact BK253.out⟩, ⟨by (with_reducible repeat (first | refine blk_drewN ?_ _ | refine blk_drew ?_ | refine blk_alloc ?_ _)); exact BK254.out⟩, ⟨by repeat (first | (with_reducible first | exact HB.out | apply below_alloc | apply pw_below_drewN | apply below_drew1 | refine below_set ?_ GE253.out | refine below_set ?_ GE254.out) | exact HB.out)⟩⟩
                        · rw [if_neg c44] at H
                          exact absurd H (by simp)
                      · rw [if_neg c43] at H
                        exact absurd H (by simp)
                    · rw [if_neg c42] at H
                      exact absurd H (by simp)
                  · rw [if_neg c41] at H
                    have c41b0 : decide (x65_3 < (l0_4.length : Int)) = false := decide_eq_false c41
                    clear c41
                    obtain rfl := Option.some.inj H
                    go_wp2
                    repeat (go_quiet (fail); try go_wp2)
                    go_ret
                    exact ⟨by first | rfl | (simp [errW_none, errW_some] <;> rfl) | (simp [*, errW_none, errW_some] <;> rfl), by repeat (first | (with_reducible first | exact HB.out | apply below_alloc | apply pw_below_drewN | apply below_drew1 | refine below_set ?_ GE253.out | refine below_set ?_ GE254.out) | exact HB.out)⟩
end Go.Proofs.YteilnbnnhocciaaDoor.K

/-! F2 -/
set_option linter.unusedVariables false
namespace Go.Proofs.YteilnbnnhocciaaDoor.E
open Go.RowKit Go.Proofs.YteilnbnnhocciaaDoorW.PrintWords Go.Proofs.YteilnbnnhocciaaDoorW.PrintMore Go.Proofs.YteilnbnnhocciaaDoorM Go.Proofs.YteilnbnnhocciaaDoor.K
theorem rd114c {l : List S107} {i : Nat} (h : i < l.length) : rd_T114 (l.map c107) (i : Int) = c107 l[i] := by simp [rd_T114, List.getD, h]
theorem rd115c {l : List S111} {i : Nat} (h : i < l.length) : rd_T115 (l.map c111) (i : Int) = c111 l[i] := by simp [rd_T115, List.getD, h]
theorem c107_0 (a : S107) : (c107 a).f0 = a.f0 := rfl
theorem c107_1 (a : S107) : (c107 a).f1.f0 = a.f1.f0 := rfl
theorem c107_2 (a : S107) : (c107 a).f1.f1 = a.f1.f1 := rfl
theorem c107_3 (a : S107) : (c107 a).f1.f2 = a.f1.f2 := rfl
theorem c107_4 (a : S107) : (c107 a).f1.f3 = a.f1.f3 := rfl
theorem c107_5 (a : S107) : (c107 a).f1.f4 = a.f1.f4 := rfl
theorem c111_0 (a : S111) : (c111 a).f0 = a.f0 := rfl
theorem c111_1 (a : S111) : (c111 a).f1 = a.f1 := rfl
theorem wr1 {i n : Nat} (h : i < n) (hn : n ≤ 9223372036854775807) : wrap64 ((i : Int) + 1) = ((i + 1 : Nat) : Int) := by rw [wrap_in (by omega) (by omega)]; omega
theorem wrong_val_eq (lv num : Int) (l m : ByteArray) : edit_wrong.val lv num l m = if lv < 0 then 21 else if lv > 3 then 21 else if (l.size : Int) < 1 then 19 else if (l.size : Int) > 200 then 19 else if (m.size : Int) < 1 then 19 else if (m.size : Int) > 200 then 19 else if (Op.bytesLess m.toList l.toList) = true then 19 else if num = 0 then 8 else 0 := by
  unfold edit_wrong.val
  by_cases h1 : lv < 0
  · have hb : edit_levelB lv = false := by simp [edit_levelB]; omega
    rw [if_pos h1, if_pos hb]
  · by_cases h2 : lv > 3
    · have hb : edit_levelB lv = false := by simp [edit_levelB]; omega
      rw [if_neg h1, if_pos h2, if_pos hb]
    · have hb : ¬ edit_levelB lv = false := by simp [edit_levelB]; omega
      rw [if_neg h1, if_neg h2, if_neg hb]
      by_cases h3 : (l.size : Int) < 1
      · have hk : edit_keyedB l = false := by simp [edit_keyedB]; omega
        rw [if_pos h3, if_pos (by rw [hk]; simp)]
      · by_cases h4 : (l.size : Int) > 200
        · have hk : edit_keyedB l = false := by simp [edit_keyedB]; omega
          rw [if_neg h3, if_pos h4, if_pos (by rw [hk]; simp)]
        · have hk : edit_keyedB l = true := by simp [edit_keyedB]; omega
          rw [if_neg h3, if_neg h4, hk]
          by_cases h5 : (m.size : Int) < 1
          · have hm : edit_keyedB m = false := by simp [edit_keyedB]; omega
            rw [if_pos h5, if_pos (by rw [hm]; simp)]
          · by_cases h6 : (m.size : Int) > 200
            · have hm : edit_keyedB m = false := by simp [edit_keyedB]; omega
              rw [if_neg h5, if_pos h6, if_pos (by rw [hm]; simp)]
            · have hm : edit_keyedB m = true := by simp [edit_keyedB]; omega
              rw [if_neg h5, if_neg h6, hm]
              by_cases h7 : (Op.bytesLess m.toList l.toList) = true
              · rw [if_pos h7, if_pos (by rw [h7]; rfl)]
              · have h7' : Op.bytesLess m.toList l.toList = false := by simpa using h7
                rw [if_neg h7, if_neg (by rw [h7']; simp)]
theorem check_l1 (k : Nat) (x20 : List S114) (x21 x22 x y z : Int) (cc : List S114) (gg : List S115) (lv n1 n2 n3 : Int) (l m : ByteArray) :
    bourseref12_Edit_Check.l1 (k + 3) x20 x21 x22 [l, m] (([l, m] : List ByteArray).length : Int) 0 x y z cc gg lv n1 n2 n3 l m =
      if (l.size : Int) < 1 then some 19 else if (l.size : Int) > 200 then some 19 else if (m.size : Int) < 1 then some 19 else if (m.size : Int) > 200 then some 19 else if (Op.bytesLess m.toList l.toList) = true then some 19 else if n1 = 0 then some 8 else bourseref12_Edit_Check.l0 k x20 x21 (wrap64 (x22 + 1)) x y z cc gg := by
  have e0 : rdOf ByteArray.empty [l, m] 0 = l := rfl
  have e1 : rdOf ByteArray.empty [l, m] 1 = m := rfl
  have w0 : wrap64 (0 + 1) = 1 := wrap_in (n := 0 + 1) (by decide) (by decide)
  have w1 : wrap64 (1 + 1) = 2 := wrap_in (n := 1 + 1) (by decide) (by decide)
  have hl : (([l, m] : List ByteArray).length : Int) = 2 := rfl
  rw [hl, bourseref12_Edit_Check.l1, if_pos (by decide), if_pos (by decide), hl, if_pos (by decide), e0, w0]
  by_cases h3 : (l.size : Int) < 1
  · rw [if_pos h3, if_pos h3]
  · by_cases h4 : (l.size : Int) > 200
    · rw [if_neg h3, if_pos h4, if_neg h3, if_pos h4]
    · rw [if_neg h3, if_neg h4, if_neg h3, if_neg h4, bourseref12_Edit_Check.l1, if_pos (by decide), if_pos (by decide), hl, if_pos (by decide), e1, w1]
      by_cases h5 : (m.size : Int) < 1
      · rw [if_pos h5, if_pos h5]
      · by_cases h6 : (m.size : Int) > 200
        · rw [if_neg h5, if_pos h6, if_neg h5, if_pos h6]
        · rw [if_neg h5, if_neg h6, if_neg h5, if_neg h6, bourseref12_Edit_Check.l1, if_neg (by decide)]
theorem check_step (k i : Nat) (c : List S107) (x y z : Int) (cc : List S114) (gg : List S115) (hi : i < c.length) (hc : c.length ≤ 200) :
    bourseref12_Edit_Check.l0 (k + 5) (c.map c107) (c.length : Int) (i : Int) x y z cc gg = if edit_wrong.val c[i].f0 c[i].f1.f0 c[i].f1.f3 c[i].f1.f4 = 0 then bourseref12_Edit_Check.l0 k (c.map c107) (c.length : Int) ((i + 1 : Nat) : Int) x y z cc gg else some (edit_wrong.val c[i].f0 c[i].f1.f0 c[i].f1.f3 c[i].f1.f4) := by
  rw [bourseref12_Edit_Check.l0, if_pos (by omega), if_pos (by omega), if_pos (by rw [List.length_map]; omega), rd114c hi]
  generalize hA : c[i] = a
  rw [c107_0, c107_1, c107_2, c107_3, c107_4, c107_5]
  rw [wrong_val_eq]
  by_cases h1 : a.f0 < 0
  · rw [if_pos h1, if_pos h1, bourseref12_Edit_Check.j2, if_pos rfl, if_neg (by decide)]
  · rw [if_neg h1, if_neg h1, bourseref12_Edit_Check.j2]
    by_cases h2 : a.f0 > 3
    · rw [if_pos (by simpa using h2), if_pos h2, if_neg (by decide)]
    · rw [if_neg (by simpa using h2), if_neg h2]
      simp only [Option.bind_some]
      rw [check_l1, wr1 hi (by omega)]
      by_cases h3 : (a.f1.f3.size : Int) < 1
      · rw [if_pos h3, if_pos h3, if_neg (by decide)]
      · by_cases h4 : (a.f1.f3.size : Int) > 200
        · rw [if_neg h3, if_pos h4, if_neg h3, if_pos h4, if_neg (by decide)]
        · by_cases h5 : (a.f1.f4.size : Int) < 1
          · rw [if_neg h3, if_neg h4, if_pos h5, if_neg h3, if_neg h4, if_pos h5, if_neg (by decide)]
          · by_cases h6 : (a.f1.f4.size : Int) > 200
            · rw [if_neg h3, if_neg h4, if_neg h5, if_pos h6, if_neg h3, if_neg h4, if_neg h5, if_pos h6, if_neg (by decide)]
            · by_cases h7 : (Op.bytesLess a.f1.f4.toList a.f1.f3.toList) = true
              · rw [if_neg h3, if_neg h4, if_neg h5, if_neg h6, if_pos h7, if_neg h3, if_neg h4, if_neg h5, if_neg h6, if_pos h7, if_neg (by decide)]
              · by_cases h8 : a.f1.f0 = 0
                · rw [if_neg h3, if_neg h4, if_neg h5, if_neg h6, if_neg h7, if_pos h8, if_neg h3, if_neg h4, if_neg h5, if_neg h6, if_neg h7, if_pos h8, if_neg (by decide)]
                · rw [if_neg h3, if_neg h4, if_neg h5, if_neg h6, if_neg h7, if_neg h8, if_neg h3, if_neg h4, if_neg h5, if_neg h6, if_neg h7, if_neg h8, if_pos rfl]
theorem goneB_eq (a : S111) : edit_goneB a = (decide (a.f0 < 0) || decide (a.f0 > 3)) := by
  unfold edit_goneB edit_levelB
  by_cases h1 : a.f0 < 0
  · have : ¬ (0 ≤ a.f0 ∧ a.f0 < 4) := by omega
    simp [h1, this]
  · by_cases h2 : a.f0 > 3
    · have : ¬ (0 ≤ a.f0 ∧ a.f0 < 4) := by omega
      simp [h1, h2, this]
    · have : (0 ≤ a.f0 ∧ a.f0 < 4) := by omega
      simp [h1, h2, this]
theorem check_l2 : ∀ (d k i : Nat) (g : List S111), i + d = g.length → d < k → g.length ≤ 200 → bourseref12_Edit_Check.l2 k (g.map c111) (g.length : Int) (i : Int) = some (if (g.drop i).any edit_goneB then 21 else 0) := by
  intro d
  induction d with
  | zero =>
    intro k i g hi hk hg
    obtain ⟨k, rfl⟩ : ∃ k', k = k' + 1 := ⟨k - 1, by omega⟩
    rw [bourseref12_Edit_Check.l2, if_neg (by omega), List.drop_of_length_le (by omega)]
    rfl
  | succ d ih =>
    intro k i g hi hk hg
    obtain ⟨k, rfl⟩ : ∃ k', k = k' + 1 := ⟨k - 1, by omega⟩
    have hlt : i < g.length := by omega
    rw [bourseref12_Edit_Check.l2, if_pos (by omega), if_pos (by omega), if_pos (by rw [List.length_map]; omega), rd115c hlt, wr1 hlt (by omega), ih k (i + 1) g (by omega) (by omega) hg, List.drop_eq_getElem_cons hlt, List.any_cons, goneB_eq]
    generalize hA : g[i] = a
    rw [c111_0]
    by_cases h1 : a.f0 < 0
    · rw [if_pos h1]; simp [h1]
    · rw [if_neg h1]
      by_cases h2 : a.f0 > 3
      · rw [if_pos h2]; simp [h2]
      · rw [if_neg h2]; simp [h1, h2]
theorem check_l0 : ∀ (d k i : Nat) (c : List S107) (g : List S111) (x y z : Int) (cc : List S114), i + d = c.length → 5 * d + g.length + 5 ≤ k → c.length ≤ 200 → g.length ≤ 200 →
    bourseref12_Edit_Check.l0 k (c.map c107) (c.length : Int) (i : Int) x y z cc (g.map c111) = some (if edit_firstWrong (c.drop i) ≠ 0 then edit_firstWrong (c.drop i) else if g.any edit_goneB then 21 else 0) := by
  intro d
  induction d with
  | zero =>
    intro k i c g x y z cc hi hk hc hg
    obtain ⟨k, rfl⟩ : ∃ k', k = k' + 1 := ⟨k - 1, by omega⟩
    rw [bourseref12_Edit_Check.l0, if_neg (by omega), List.drop_of_length_le (by omega)]
    have := check_l2 g.length k 0 g (by omega) (by omega) hg
    rw [List.length_map]
    rw [show ((0 : Nat) : Int) = 0 from rfl, List.drop_zero] at this
    rw [this]
    simp [edit_firstWrong]
  | succ d ih =>
    intro k i c g x y z cc hi hk hc hg
    obtain ⟨k, rfl⟩ : ∃ k', k = k' + 5 := ⟨k - 5, by omega⟩
    have hlt : i < c.length := by omega
    rw [check_step k i c x y z cc _ hlt hc, List.drop_eq_getElem_cons hlt, edit_firstWrong, ih k (i + 1) c g x y z cc (by omega) (by omega) hc hg]
    by_cases h : edit_wrong.val c[i].f0 c[i].f1.f0 c[i].f1.f3 c[i].f1.f4 = 0
    · rw [if_pos h, if_pos h]
    · rw [if_neg h, if_neg h, if_pos h]
theorem check_eq (k : Nat) (hk : 2000 ≤ k) (x y z : Int) (c : List S107) (g : List S111) : bourseref12_Edit_Check.f k x y z (c.map c107) (g.map c111) = some (edit_Edit_Check.val c g) := by
  obtain ⟨k, rfl⟩ : ∃ k', k = k' + 1 := ⟨k - 1, by omega⟩
  unfold bourseref12_Edit_Check.f edit_Edit_Check.val
  rw [List.length_map, List.length_map]
  by_cases h1 : (c.length : Int) > 200
  · rw [if_pos h1, bourseref12_Edit_Check.j0, if_pos rfl, if_pos (.inl (by omega))]
  · rw [if_neg h1, bourseref12_Edit_Check.j0]
    by_cases h2 : (g.length : Int) > 200
    · rw [if_pos (by simpa using h2), if_pos (.inr (by omega))]
    · rw [if_neg (by simpa using h2), if_neg (by omega), List.length_map]
      have := check_l0 c.length k 0 c g x y z (c.map c107) (by omega) (by omega) (by omega) (by omega)
      rw [show ((0 : Nat) : Int) = 0 from rfl, List.drop_zero] at this
      exact this
theorem to_l1 : ∀ (d k i : Nat) (g : List S111) (a b e : Int) (c : List S114) (acc : List S115), i + d = g.length → d < k → acc.length + d ≤ 1000000 → g.length ≤ 9223372036854775807 →
    bourselaw12_To.l1 k g (g.length : Int) (i : Int) a b e c acc = some (a, b, e, c, acc ++ (g.drop i).map c111) := by
  intro d
  induction d with
  | zero =>
    intro k i g a b e c acc hi hk hl hg
    obtain ⟨k, rfl⟩ : ∃ k', k = k' + 1 := ⟨k - 1, by omega⟩
    rw [bourselaw12_To.l1, if_neg (by omega), List.drop_of_length_le (by omega)]
    simp
  | succ d ih =>
    intro k i g a b e c acc hi hk hl hg
    obtain ⟨k, rfl⟩ : ∃ k', k = k' + 1 := ⟨k - 1, by omega⟩
    have hlt : i < g.length := by omega
    rw [bourselaw12_To.l1, if_pos (by omega), if_pos (by omega), if_pos (by omega), if_pos (by omega), wr1 hlt hg, rd111 hlt, ih k (i + 1) g a b e c _ (by omega) (by omega) (by simp; omega) hg, List.drop_eq_getElem_cons hlt]
    simp only [List.append_assoc, List.map_cons, List.cons_append, List.nil_append]; rfl
theorem to_l0 : ∀ (d k i : Nat) (c : List S107) (g : List S111) (x y z a b e : Int) (cc : List S107) (acc : List S114), i + d = c.length → d + g.length + 2 ≤ k → acc.length + d ≤ 1000000 → g.length ≤ 1000000 → c.length ≤ 9223372036854775807 →
    bourselaw12_To.l0 k c (c.length : Int) (i : Int) x y z cc g a b e acc = some (a, b, e, acc ++ (c.drop i).map c107, g.map c111) := by
  intro d
  induction d with
  | zero =>
    intro k i c g x y z a b e cc acc hi hk hl hg hc
    obtain ⟨k, rfl⟩ : ∃ k', k = k' + 1 := ⟨k - 1, by omega⟩
    rw [bourselaw12_To.l0, if_neg (by omega), List.drop_of_length_le (by omega)]
    have := to_l1 g.length k 0 g a b e acc [] (by omega) (by omega) (by simpa using hg) (by omega)
    rw [show ((0 : Nat) : Int) = 0 from rfl, List.drop_zero] at this
    rw [this]
    simp
  | succ d ih =>
    intro k i c g x y z a b e cc acc hi hk hl hg hc
    obtain ⟨k, rfl⟩ : ∃ k', k = k' + 1 := ⟨k - 1, by omega⟩
    have hlt : i < c.length := by omega
    rw [bourselaw12_To.l0, if_pos (by omega), if_pos (by omega), if_pos (by omega), if_pos (by omega), wr1 hlt hc, rd107 hlt, ih k (i + 1) c g x y z a b e cc _ (by omega) (by omega) (by simp; omega) hg hc, List.drop_eq_getElem_cons hlt]
    simp only [List.append_assoc, List.map_cons, List.cons_append, List.nil_append]; rfl
theorem to_eq (k : Nat) (x y z : Int) (c : List S107) (g : List S111) (hc : c.length ≤ 1000000) (hg : g.length ≤ 1000000) (hk : c.length + g.length + 2 ≤ k) : bourselaw12_To.f k x y z c g = some (x, y, z, c.map c107, g.map c111) := by
  unfold bourselaw12_To.f
  have := to_l0 c.length k 0 c g x y z x y z c [] (by omega) hk (by simpa using hc) hg (by omega)
  rw [show ((0 : Nat) : Int) = 0 from rfl, List.drop_zero, List.nil_append] at this
  exact this
theorem same_l1 : ∀ (d k i : Nat) (c : List S114) (g : List S115) (x y z : Int), i + d = g.length → d < k → g.length ≤ 9223372036854775807 → bourseref12_Same.l1 k (g.length : Int) (i : Int) x y z c g x y z c g = some true := by
  intro d
  induction d with
  | zero =>
    intro k i c g x y z hi hk hg
    obtain ⟨k, rfl⟩ : ∃ k', k = k' + 1 := ⟨k - 1, by omega⟩
    rw [bourseref12_Same.l1, if_neg (by omega)]
  | succ d ih =>
    intro k i c g x y z hi hk hg
    obtain ⟨k, rfl⟩ : ∃ k', k = k' + 1 := ⟨k - 1, by omega⟩
    have hlt : i < g.length := by omega
    rw [bourseref12_Same.l1, if_pos (by omega), if_pos (by omega), if_pos (by omega), if_pos (by omega), if_neg (by simp), wr1 hlt hg, ih k (i + 1) c g x y z (by omega) (by omega) hg]
theorem same_l0 : ∀ (d k i : Nat) (c : List S114) (g : List S115) (x y z : Int), i + d = c.length → d + g.length + 2 ≤ k → c.length ≤ 9223372036854775807 → g.length ≤ 9223372036854775807 → bourseref12_Same.l0 k (c.length : Int) (i : Int) x y z c g x y z c g = some true := by
  intro d
  induction d with
  | zero =>
    intro k i c g x y z hi hk hc hg
    obtain ⟨k, rfl⟩ : ∃ k', k = k' + 1 := ⟨k - 1, by omega⟩
    rw [bourseref12_Same.l0, if_neg (by omega)]
    exact same_l1 g.length k 0 c g x y z (by omega) (by omega) hg
  | succ d ih =>
    intro k i c g x y z hi hk hc hg
    obtain ⟨k, rfl⟩ : ∃ k', k = k' + 1 := ⟨k - 1, by omega⟩
    have hlt : i < c.length := by omega
    rw [bourseref12_Same.l0, if_pos (by omega), if_pos (by omega), if_pos (by omega), if_pos (by omega), if_neg (by simp), wr1 hlt hc, ih k (i + 1) c g x y z (by omega) (by omega) hc hg]
theorem same_self (k : Nat) (x y z : Int) (c : List S114) (g : List S115) (hk : c.length + g.length + 3 ≤ k) (hc : c.length ≤ 9223372036854775807) (hg : g.length ≤ 9223372036854775807) : bourseref12_Same.f k x y z c g x y z c g = some true := by
  obtain ⟨k, rfl⟩ : ∃ k', k = k' + 1 := ⟨k - 1, by omega⟩
  unfold bourseref12_Same.f
  rw [if_pos rfl, if_pos rfl, if_pos rfl, if_pos rfl, bourseref12_Same.j0, if_neg (by simp)]
  exact same_l0 c.length k 0 c g x y z (by omega) (by omega) hc hg
end Go.Proofs.YteilnbnnhocciaaDoor.E

/-! K28 -/
namespace Go.Proofs.YteilnbnnhocciaaDoor.K
open Go.RowKit Go.Proofs.YteilnbnnhocciaaDoorW.PrintWords Go.Proofs.YteilnbnnhocciaaDoorW.PrintLast Go.Proofs.YteilnbnnhocciaaDoorW.PrintMore Go.Proofs.YteilnbnnhocciaaDoorM
attribute [local go_sem] max2_int min2_int max_two min_two max_three min_three max_four min_four
set_option linter.unusedVariables false
set_option linter.unusedSimpArgs false
def bourseref03_Num.l0 : Nat → Int → ByteArray → Option (ByteArray)
  | 0, _, _ => none
  | k + 1, x0, x3 => if x0 > 127 then ((some (([(IntKind.u64.wrap (128 + (Int.tmod x0 128))) % 256] : List Int) : List Int)).bind fun y203 => (if x3.size + (strOfNums y203).size ≤ 9223372036854775807 then (bourseref03_Num.l0 k (IntKind.u64.wrap (Int.tdiv x0 128)) (x3 ++ (strOfNums y203))) else (none))) else ((some (([(x0) % 256] : List Int) : List Int)).bind fun y206 => (if x3.size + (strOfNums y206).size ≤ 9223372036854775807 then (some (x3 ++ (strOfNums y206))) else (none)))
def bourseref03_Num.f (k : Nat) (a0 : Int) : Option (ByteArray) := bourseref03_Num.l0 k a0 (⟨#[]⟩ : ByteArray)
set_option maxHeartbeats 8000000 in
set_option maxRecDepth 100000 in
theorem bourseref03_Num.calls (k : Nat) (a0 : Int) (r : ByteArray) (w : World) (h : bourseref03_Num.f k a0 = some r) :
    Calls Tryd.prog 53 #[.int .u64 a0] w fun e w' => e = .returned (.string r) ∧ Below w.heap.size w w' := by
  have HB := Aside0.mk (Below.refl w.heap.size w)
  have H : (bourseref03_Num.l0 k a0 (⟨#[]⟩ : ByteArray)) = some r := h
  clear h
  have H' := Aside0.mk H
  clear H
  go_enter Tryd.func53, Tryd.ntmps53
  go_wp2
  go_loopg [0, 3] k (fun kq v0 v3 w' => ∃ (x0_1 : Int) (x3_1 : ByteArray), v0 = .int .u64 x0_1 ∧ v3 = .string x3_1 ∧ Aside0 (bourseref03_Num.l0 kq x0_1 x3_1 = some r) ∧ Aside0 (kq ≤ k) ∧ Aside0 (Below w.heap.size w w'))
  case atStart => exact ⟨(a0), ((⟨#[]⟩ : ByteArray)), (by first | rfl | (simp; done) | (simp [*]; done)), (by first | rfl | (simp; done) | (simp [*]; done)), H', ⟨Nat.le_refl _⟩, ⟨by repeat (first | (with_reducible first | exact HB.out | apply below_alloc | apply pw_below_drewN | apply below_drew1) | exact HB.out)⟩⟩
  case round =>
    clear H'
    obtain ⟨x0_1, x3_1, rfl, rfl, HA, HK1, HB⟩ := hrel
    cases gk with
    | zero => exact absurd HA.out (by simp [bourseref03_Num.l0])
    | succ k1 =>
      have H := HA.out
      clear HA
      simp only [bourseref03_Num.l0] at H
      by_cases c2 : x0_1 > 127
      · rw [if_pos c2] at H
        have c2b0 : decide (127 < x0_1) = true := decide_eq_true c2
        clear c2
        obtain ⟨y203, hy203⟩ : ∃ y_ : List Int, y_ = (([(IntKind.u64.wrap (128 + (Int.tmod x0_1 128))) % 256] : List Int)) := ⟨_, rfl⟩
        replace H : (if x3_1.size + (strOfNums y203).size ≤ 9223372036854775807 then (bourseref03_Num.l0 k1 (IntKind.u64.wrap (Int.tdiv x0_1 128)) (x3_1 ++ (strOfNums y203))) else (none)) = some r := by first | (rw [hy203]; with_reducible exact H) | (have H2_ := (Option.bind_some _ _).symm.trans H; rw [hy203]; with_reducible exact H2_) | (have H2_ := (Option.bind_some _ _).symm.trans H; with_reducible exact H2_) | with_reducible exact H | (rw [hy203]; exact H) | exact H
        have Ny203 := Aside0.mk hy203
        clear hy203
        by_cases c3 : x3_1.size + (strOfNums y203).size ≤ 9223372036854775807
        · rw [if_pos c3] at H
          have c3b0 := eq_true c3
          have c3b1 : decide (x3_1.size + (strOfNums y203).size ≤ 9223372036854775807) = true := decide_eq_true c3
          try have c3b2 : (9223372036854775807 < x3_1.size + (strOfNums y203).size) = False := eq_false (Nat.not_lt.2 c3)
          have H' := Aside0.mk H
          clear H
          go_wp2_with (first | ((with_reducible refine gate_dst (N := 11) rfl ?_); refine Kd.R_lit (Kd.int .u8) _ 5 ?hg (N := 11) ?hd (xs := ([(IntKind.u64.wrap (128 + (Int.tmod x0_1 128))) % 256] : List Int)) (inner := [.int .u8 ((IntKind.u64.wrap (128 + (Int.tmod x0_1 128))) % 256)]) (ok := fun _ => True) (okp := fun _ => True) ?hr ?hp (fun _ hk => hk) trivial (Below.refl _ _) (Nat.le_refl _) (by simp) ?_; (case hd => rfl); (case hg => rfl); (case hr => first | (go_simp; done) | (go_simp; rfl)); (case hp => exact (Reps.one (show Kd.M (Kd.int .u8) _ _ _ ((IntKind.u64.wrap (128 + (Int.tmod x0_1 128))) % 256) [.int .u8 ((IntKind.u64.wrap (128 + (Int.tmod x0_1 128))) % 256)] from rfl) (Reps.none _ _))); intro v204 w4 ho5 hb hg_ hnew_; clear hg_ hnew_; (first | rw [← Ny203.out] at ho5 | (simp only [Int.reduceToNat] at ho5; rw [← Ny203.out] at ho5)); have n0_ := Aside0.mk (Kd.R_lower ho5 (below_size (by repeat (first | (with_reducible first | exact HB.out | apply below_alloc | apply pw_below_drewN | apply below_drew1) | exact HB.out)))); have n1_ := Aside0.mk (below_step (by repeat (first | (with_reducible first | exact HB.out | apply below_alloc | apply pw_below_drewN | apply below_drew1) | exact HB.out)) hb); clear HB; have HO205 := n0_; have HB := n1_; clear n0_ n1_; clear hb ho5; have hcv6 := own_string (P := Tryd.prog) Tryd.underlying64 Tryd.underlying5 Tryd.underlying9 (Kd.own_of_R HO205.out)))
          go_roundg k1
          case measure => have := HK1.out; omega
          case rel => exact ⟨(IntKind.u64.wrap (Int.tdiv x0_1 128)), (x3_1 ++ (strOfNums y203)), (by first | rfl | (simp; done) | (simp [*]; done)), (by first | rfl | (simp; done) | (simp [*]; done)), H', ⟨by have := HK1.out; omega⟩, ⟨by repeat (first | (with_reducible first | exact HB.out | apply below_alloc | apply pw_below_drewN | apply below_drew1) | exact HB.out)⟩⟩
        · rw [if_neg c3] at H
          exact absurd H (by simp)
      · rw [if_neg c2] at H
        have c2b0 : decide (127 < x0_1) = false := decide_eq_false c2
        clear c2
        obtain ⟨y206, hy206⟩ : ∃ y_ : List Int, y_ = (([(x0_1) % 256] : List Int)) := ⟨_, rfl⟩
        replace H : (if x3_1.size + (strOfNums y206).size ≤ 9223372036854775807 then (some (x3_1 ++ (strOfNums y206))) else (none)) = some r := by first | (rw [hy206]; with_reducible exact H) | (have H2_ := (Option.bind_some _ _).symm.trans H; rw [hy206]; with_reducible exact H2_) | (have H2_ := (Option.bind_some _ _).symm.trans H; with_reducible exact H2_) | with_reducible exact H | (rw [hy206]; exact H) | exact H
        have Ny206 := Aside0.mk hy206
        clear hy206
        by_cases c7 : x3_1.size + (strOfNums y206).size ≤ 9223372036854775807
        · rw [if_pos c7] at H
          have c7b0 := eq_true c7
          have c7b1 : decide (x3_1.size + (strOfNums y206).size ≤ 9223372036854775807) = true := decide_eq_true c7
          try have c7b2 : (9223372036854775807 < x3_1.size + (strOfNums y206).size) = False := eq_false (Nat.not_lt.2 c7)
          obtain rfl := Option.some.inj H
          go_wp2_with (first | ((with_reducible refine gate_dst (N := 19) rfl ?_); refine Kd.R_lit (Kd.int .u8) _ 5 ?hg (N := 19) ?hd (xs := ([(x0_1) % 256] : List Int)) (inner := [.int .u8 ((x0_1) % 256)]) (ok := fun _ => True) (okp := fun _ => True) ?hr ?hp (fun _ hk => hk) trivial (Below.refl _ _) (Nat.le_refl _) (by simp) ?_; (case hd => rfl); (case hg => rfl); (case hr => first | (go_simp; done) | (go_simp; rfl)); (case hp => exact (Reps.one (show Kd.M (Kd.int .u8) _ _ _ ((x0_1) % 256) [.int .u8 ((x0_1) % 256)] from rfl) (Reps.none _ _))); intro v207 w8 ho9 hb hg_ hnew_; clear hg_ hnew_; (first | rw [← Ny206.out] at ho9 | (simp only [Int.reduceToNat] at ho9; rw [← Ny206.out] at ho9)); have n0_ := Aside0.mk (Kd.R_lower ho9 (below_size (by repeat (first | (with_reducible first | exact HB.out | apply below_alloc | apply pw_below_drewN | apply below_drew1) | exact HB.out)))); have n1_ := Aside0.mk (below_step (by repeat (first | (with_reducible first | exact HB.out | apply below_alloc | apply pw_below_drewN | apply below_drew1) | exact HB.out)) hb); clear HB; have HO208 := n0_; have HB := n1_; clear n0_ n1_; clear hb ho9; have hcv10 := own_string (P := Tryd.prog) Tryd.underlying64 Tryd.underlying5 Tryd.underlying9 (Kd.own_of_R HO208.out)))
          go_ret
          exact ⟨by first | rfl | (simp [errW_none, errW_some] <;> rfl) | (simp [*, errW_none, errW_some] <;> rfl), by repeat (first | (with_reducible first | exact HB.out | apply below_alloc | apply pw_below_drewN | apply below_drew1) | exact HB.out)⟩
        · rw [if_neg c7] at H
          exact absurd H (by simp)
end Go.Proofs.YteilnbnnhocciaaDoor.K

/-! K29 -/
namespace Go.Proofs.YteilnbnnhocciaaDoor.K
open Go.RowKit Go.Proofs.YteilnbnnhocciaaDoorW.PrintWords Go.Proofs.YteilnbnnhocciaaDoorW.PrintLast Go.Proofs.YteilnbnnhocciaaDoorW.PrintMore Go.Proofs.YteilnbnnhocciaaDoorM
attribute [local go_sem] max2_int min2_int max_two min_two max_three min_three max_four min_four
set_option linter.unusedVariables false
set_option linter.unusedSimpArgs false
def bourseref03_Text.f (k : Nat) (a0 : ByteArray) : Option (ByteArray) := (bourseref03_Num.f k (IntKind.u64.wrap ((a0.size : Int)))).bind fun t109 => (if t109.size + a0.size ≤ 9223372036854775807 then (some (t109 ++ a0)) else (none))
set_option maxHeartbeats 1000000 in
theorem bourseref03_Text.calls (k : Nat) (a0 : ByteArray) (r : ByteArray) (w : World) (h : bourseref03_Text.f k a0 = some r) :
    Calls Tryd.prog 54 #[.string a0] w fun e w' => e = .returned (.string r) ∧ Below w.heap.size w w' := by
  obtain ⟨t, A20, H⟩ := Option.bind_eq_some_iff.mp h
  by_cases c3 : t.size + a0.size ≤ 9223372036854775807
  · rw [if_pos c3] at H
    obtain rfl := Option.some.inj H
    have hc := Aside0.mk (Nat.not_lt.2 c3)
    clear c3 H h
    have A2 := Aside0.mk A20
    clear A20
    go_enter Tryd.func54, Tryd.ntmps54
    go_wp2_with fail
    refine (bourseref03_Num.calls k _ t _ A2.out).mono ?_
    rintro e w4 ⟨rfl, hb⟩
    have hc' := hc.out
    go_wp2
    go_ret
    exact ⟨rfl, hb⟩
  · rw [if_neg c3] at H
    exact absurd H (by simp)
end Go.Proofs.YteilnbnnhocciaaDoor.K
