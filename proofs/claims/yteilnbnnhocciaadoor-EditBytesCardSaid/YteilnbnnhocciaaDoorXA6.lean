/- EditBytes is true for every input: the card, tied (part 6 of 7; packed by program out of the texts named below) -/
import Derived.Test.YteilnbnnhocciaaDoorXA5

/-! K30 -/
namespace Go.Proofs.YteilnbnnhocciaaDoor.K
open Go.RowKit Go.Proofs.YteilnbnnhocciaaDoorW.PrintWords Go.Proofs.YteilnbnnhocciaaDoorW.PrintLast Go.Proofs.YteilnbnnhocciaaDoorW.PrintMore Go.Proofs.YteilnbnnhocciaaDoorM
attribute [local go_sem] max2_int min2_int max_two min_two max_three min_three max_four min_four
set_option linter.unusedVariables false
set_option linter.unusedSimpArgs false
mutual
def bourseref12_Edit_Bytes.l0 : Nat → ByteArray → List (S114) → Int → Int → Int → Int → Int → List (S114) → List (S115) → Option (ByteArray × Int)
  | 0, _, _, _, _, _, _, _, _, _ => none
  | k + 1, x5, x33, x34, x35, x210000, x210001, x210002, x210003, x210004 => if x35 < x34 then (if 0 ≤ x35 then (if x35 < (x33.length : Int) then ((bourseref03_Num.f k (IntKind.u64.wrap ((rd_T114 x33 x35).f0))).bind fun t217 => (if x5.size + t217.size ≤ 9223372036854775807 then ((bourseref03_Num.f k ((rd_T114 x33 x35).f1.f0)).bind fun t218 => (if (x5 ++ t217).size + t218.size ≤ 9223372036854775807 then ((bourseref03_Num.f k ((rd_T114 x33 x35).f1.f1)).bind fun t219 => (if ((x5 ++ t217) ++ t218).size + t219.size ≤ 9223372036854775807 then ((bourseref03_Num.f k ((rd_T114 x33 x35).f1.f2)).bind fun t220 => (if (((x5 ++ t217) ++ t218) ++ t219).size + t220.size ≤ 9223372036854775807 then ((bourseref03_Text.f k ((rd_T114 x33 x35).f1.f3)).bind fun t221 => (if ((((x5 ++ t217) ++ t218) ++ t219) ++ t220).size + t221.size ≤ 9223372036854775807 then ((bourseref03_Text.f k ((rd_T114 x33 x35).f1.f4)).bind fun t222 => (if (((((x5 ++ t217) ++ t218) ++ t219) ++ t220) ++ t221).size + t222.size ≤ 9223372036854775807 then (bourseref12_Edit_Bytes.l0 k ((((((x5 ++ t217) ++ t218) ++ t219) ++ t220) ++ t221) ++ t222) x33 x34 (wrap64 (x35 + 1)) x210000 x210001 x210002 x210003 x210004) else (none))) else (none))) else (none))) else (none))) else (none))) else (none))) else (none)) else (none)) else ((bourseref03_Num.f k (IntKind.u64.wrap ((x210004.length : Int)))).bind fun t223 => (if x5.size + t223.size ≤ 9223372036854775807 then (bourseref12_Edit_Bytes.l1 k (x5 ++ t223) x210004 (x210004.length : Int) 0) else (none)))
def bourseref12_Edit_Bytes.l1 : Nat → ByteArray → List (S115) → Int → Int → Option (ByteArray × Int)
  | 0, _, _, _, _ => none
  | k + 1, x5, x79, x80, x81 => if x81 < x80 then (if 0 ≤ x81 then (if x81 < (x79.length : Int) then ((bourseref03_Num.f k (IntKind.u64.wrap ((rd_T115 x79 x81).f0))).bind fun t226 => (if x5.size + t226.size ≤ 9223372036854775807 then ((bourseref03_Num.f k ((rd_T115 x79 x81).f1)).bind fun t227 => (if (x5 ++ t226).size + t227.size ≤ 9223372036854775807 then (bourseref12_Edit_Bytes.l1 k ((x5 ++ t226) ++ t227) x79 x80 (wrap64 (x81 + 1))) else (none))) else (none))) else (none)) else (none)) else (some (x5, 0))
end
def bourseref12_Edit_Bytes.f (k : Nat) (a0_0 : Int) (a0_1 : Int) (a0_2 : Int) (l0_3 : List (S114)) (l0_4 : List (S115)) : Option (ByteArray × Int) := (bourseref12_Edit_Check.f k a0_0 a0_1 a0_2 l0_3 l0_4).bind fun t210 => (if t210 = 0 then ((bourseref03_Num.f k a0_0).bind fun t211 => ((bourseref03_Num.f k a0_1).bind fun t212 => (if t211.size + t212.size ≤ 9223372036854775807 then ((bourseref03_Num.f k a0_2).bind fun t213 => (if (t211 ++ t212).size + t213.size ≤ 9223372036854775807 then ((bourseref03_Num.f k (IntKind.u64.wrap ((l0_3.length : Int)))).bind fun t214 => (if ((t211 ++ t212) ++ t213).size + t214.size ≤ 9223372036854775807 then (bourseref12_Edit_Bytes.l0 k (((t211 ++ t212) ++ t213) ++ t214) l0_3 (l0_3.length : Int) 0 a0_0 a0_1 a0_2 l0_3 l0_4) else (none))) else (none))) else (none)))) else (some ((⟨#[]⟩ : ByteArray), t210)))
def bourseref12_Edit_Bytes.T4 : Bool × List (List Nat × List Nat) := (true, [([], []), ([0], [0]), ([1], [1]), ([], []), ([3], [3]), ([4, 2], [4]), ([2, 5], [2, 5]), ([], []), ([7], [7]), ([8, 5], [8]), ([6, 9], [6, 9]), ([], []), ([11], [11]), ([12], [12]), ([13], [13]), ([14, 9], [14]), ([10, 15], [10, 15]), ([16, 15, 0, 1, 2, 3, 4, 5, 6, 7, 8, 9, 10, 11, 12, 13, 14, 15, 16], [16])])
def bourseref12_Edit_Bytes.B4 : List Nat := [0, 1, 3, 0, 8, 31, 63, 0, 128, 447, 1023, 0, 2048, 6144, 14336, 31679, 65535, 131071]
theorem bourseref12_Edit_Bytes.tab4 : rtab .any (opsOf Tryd.f17 4) = bourseref12_Edit_Bytes.T4 := by kernel_rfl
theorem bourseref12_Edit_Bytes.bits4 : waitsOk bourseref12_Edit_Bytes.T4.2 bourseref12_Edit_Bytes.B4 = true := by kernel_rfl
def bourseref12_Edit_Bytes.T8 : Bool × List (List Nat × List Nat) := (true, [([], []), ([], []), ([1], [1]), ([2], [2]), ([3], [3]), ([0, 4], [0, 4]), ([], []), ([6], [6]), ([7], [7]), ([8, 4], [8]), ([5, 9], [5, 9]), ([], []), ([11], [11]), ([12], [12]), ([13, 9], [13]), ([10, 14], [10, 14]), ([], []), ([16], [16]), ([17], [17]), ([18, 14], [18]), ([15, 19], [15, 19]), ([], []), ([21], [21]), ([22], [22]), ([23, 19], [23]), ([20, 24], [20, 24]), ([], []), ([26], [26]), ([27], [27]), ([28, 24], [28]), ([25, 29], [25, 29]), ([30, 29, 0, 1, 2, 3, 4, 5, 6, 7, 8, 9, 10, 11, 12, 13, 14, 15, 16, 17, 18, 19, 20, 21, 22, 23, 24, 25, 26, 27, 28, 29, 30], [0, 30])])
def bourseref12_Edit_Bytes.B8 : List Nat := [0, 0, 2, 6, 14, 31, 0, 64, 192, 478, 1023, 0, 2048, 6144, 15326, 32767, 0, 65536, 196608, 490462, 1048575, 0, 2097152, 6291456, 15694814, 33554431, 0, 67108864, 201326592, 502234078, 1073741823, 2147483647]
theorem bourseref12_Edit_Bytes.tab8 : rtab .any (opsOf Tryd.f17 8) = bourseref12_Edit_Bytes.T8 := by kernel_rfl
theorem bourseref12_Edit_Bytes.bits8 : waitsOk bourseref12_Edit_Bytes.T8.2 bourseref12_Edit_Bytes.B8 = true := by kernel_rfl
def bourseref12_Edit_Bytes.T14 : Bool × List (List Nat × List Nat) := (true, [([], []), ([], []), ([1], [1]), ([2], [2]), ([3], [3]), ([0, 4], [0, 4]), ([], []), ([6], [6]), ([7, 4], [7]), ([5, 8], [5, 8]), ([9, 8, 0, 1, 2, 3, 4, 5, 6, 7, 8, 9], [0, 9])])
def bourseref12_Edit_Bytes.B14 : List Nat := [0, 0, 2, 6, 14, 31, 0, 64, 222, 511, 1023]
theorem bourseref12_Edit_Bytes.tab14 : rtab .any (opsOf Tryd.f17 14) = bourseref12_Edit_Bytes.T14 := by kernel_rfl
theorem bourseref12_Edit_Bytes.bits14 : waitsOk bourseref12_Edit_Bytes.T14.2 bourseref12_Edit_Bytes.B14 = true := by kernel_rfl
set_option maxHeartbeats 8000000 in
set_option maxRecDepth 100000 in
theorem bourseref12_Edit_Bytes.calls (k : Nat) (a0_0 : Int) (a0_1 : Int) (a0_2 : Int) (A0_3 : Option Addr) (c0_3 : Nat) (l0_3 : List (S114)) (A0_4 : Option Addr) (c0_4 : Nat) (l0_4 : List (S115)) (r1 : ByteArray) (r2 : Int) (w : World) (hr0_3 : Kd.C k114 w A0_3 l0_3.length l0_3) (hc0_3 : l0_3.length ≤ c0_3) (hr0_4 : Kd.C k115 w A0_4 l0_4.length l0_4) (hc0_4 : l0_4.length ≤ c0_4) (h : bourseref12_Edit_Bytes.f k a0_0 a0_1 a0_2 l0_3 l0_4 = some (r1, r2)) :
    Calls Tryd.prog 17 #[.agg #[.int .u64 a0_0, .int .u64 a0_1, .int .u64 a0_2, .slice A0_3 l0_3.length c0_3, .slice A0_4 l0_4.length c0_4]] w fun e w' => e = .returned (.tuple #[.string r1, .int .i64 r2]) ∧ Below w.heap.size w w' := by
  have hu36 := Tryd.underlying36
  have hu114 := Tryd.underlying114
  have hu115 := Tryd.underlying115
  have HR0_3 := Aside0.mk hr0_3
  have HC0_3 := Aside0.mk hc0_3
  clear hr0_3 hc0_3
  have HR0_4 := Aside0.mk hr0_4
  have HC0_4 := Aside0.mk hc0_4
  clear hr0_4 hc0_4
  have HB := Aside0.mk (Below.refl w.heap.size w)
  have H : ((bourseref12_Edit_Check.f k a0_0 a0_1 a0_2 l0_3 l0_4).bind fun t210 => (if t210 = 0 then ((bourseref03_Num.f k a0_0).bind fun t211 => ((bourseref03_Num.f k a0_1).bind fun t212 => (if t211.size + t212.size ≤ 9223372036854775807 then ((bourseref03_Num.f k a0_2).bind fun t213 => (if (t211 ++ t212).size + t213.size ≤ 9223372036854775807 then ((bourseref03_Num.f k (IntKind.u64.wrap ((l0_3.length : Int)))).bind fun t214 => (if ((t211 ++ t212) ++ t213).size + t214.size ≤ 9223372036854775807 then (bourseref12_Edit_Bytes.l0 k (((t211 ++ t212) ++ t213) ++ t214) l0_3 (l0_3.length : Int) 0 a0_0 a0_1 a0_2 l0_3 l0_4) else (none))) else (none))) else (none)))) else (some ((⟨#[]⟩ : ByteArray), t210)))) = some (r1, r2) := h
  clear h
  replace H := Option.bind_eq_some_iff.mp H
  obtain ⟨t210, A20, H⟩ := H
  replace H : (if t210 = 0 then ((bourseref03_Num.f k a0_0).bind fun t211 => ((bourseref03_Num.f k a0_1).bind fun t212 => (if t211.size + t212.size ≤ 9223372036854775807 then ((bourseref03_Num.f k a0_2).bind fun t213 => (if (t211 ++ t212).size + t213.size ≤ 9223372036854775807 then ((bourseref03_Num.f k (IntKind.u64.wrap ((l0_3.length : Int)))).bind fun t214 => (if ((t211 ++ t212) ++ t213).size + t214.size ≤ 9223372036854775807 then (bourseref12_Edit_Bytes.l0 k (((t211 ++ t212) ++ t213) ++ t214) l0_3 (l0_3.length : Int) 0 a0_0 a0_1 a0_2 l0_3 l0_4) else (none))) else (none))) else (none)))) else (some ((⟨#[]⟩ : ByteArray), t210))) = some (r1, r2) := H
  have A2 := Aside0.mk A20
  clear A20
  by_cases c3 : t210 = 0
  · rw [if_pos c3] at H
    have c3b0 : (t210 == 0) = true := beq_iff_eq.mpr c3
    have c3b1 : (t210 != 0) = false := bne_eq_false_iff_eq.mpr c3
    clear c3
    replace H := Option.bind_eq_some_iff.mp H
    obtain ⟨t211, A40, H⟩ := H
    replace H : ((bourseref03_Num.f k a0_1).bind fun t212 => (if t211.size + t212.size ≤ 9223372036854775807 then ((bourseref03_Num.f k a0_2).bind fun t213 => (if (t211 ++ t212).size + t213.size ≤ 9223372036854775807 then ((bourseref03_Num.f k (IntKind.u64.wrap ((l0_3.length : Int)))).bind fun t214 => (if ((t211 ++ t212) ++ t213).size + t214.size ≤ 9223372036854775807 then (bourseref12_Edit_Bytes.l0 k (((t211 ++ t212) ++ t213) ++ t214) l0_3 (l0_3.length : Int) 0 a0_0 a0_1 a0_2 l0_3 l0_4) else (none))) else (none))) else (none))) = some (r1, r2) := H
    have A4 := Aside0.mk A40
    clear A40
    replace H := Option.bind_eq_some_iff.mp H
    obtain ⟨t212, A50, H⟩ := H
    replace H : (if t211.size + t212.size ≤ 9223372036854775807 then ((bourseref03_Num.f k a0_2).bind fun t213 => (if (t211 ++ t212).size + t213.size ≤ 9223372036854775807 then ((bourseref03_Num.f k (IntKind.u64.wrap ((l0_3.length : Int)))).bind fun t214 => (if ((t211 ++ t212) ++ t213).size + t214.size ≤ 9223372036854775807 then (bourseref12_Edit_Bytes.l0 k (((t211 ++ t212) ++ t213) ++ t214) l0_3 (l0_3.length : Int) 0 a0_0 a0_1 a0_2 l0_3 l0_4) else (none))) else (none))) else (none)) = some (r1, r2) := H
    have A5 := Aside0.mk A50
    clear A50
    by_cases c6 : t211.size + t212.size ≤ 9223372036854775807
    · rw [if_pos c6] at H
      have c6b0 := eq_true c6
      have c6b1 : decide (t211.size + t212.size ≤ 9223372036854775807) = true := decide_eq_true c6
      try have c6b2 : (9223372036854775807 < t211.size + t212.size) = False := eq_false (Nat.not_lt.2 c6)
      replace H := Option.bind_eq_some_iff.mp H
      obtain ⟨t213, A70, H⟩ := H
      replace H : (if (t211 ++ t212).size + t213.size ≤ 9223372036854775807 then ((bourseref03_Num.f k (IntKind.u64.wrap ((l0_3.length : Int)))).bind fun t214 => (if ((t211 ++ t212) ++ t213).size + t214.size ≤ 9223372036854775807 then (bourseref12_Edit_Bytes.l0 k (((t211 ++ t212) ++ t213) ++ t214) l0_3 (l0_3.length : Int) 0 a0_0 a0_1 a0_2 l0_3 l0_4) else (none))) else (none)) = some (r1, r2) := H
      have A7 := Aside0.mk A70
      clear A70
      by_cases c8 : (t211 ++ t212).size + t213.size ≤ 9223372036854775807
      · rw [if_pos c8] at H
        have c8b0 := eq_true c8
        have c8b1 : decide ((t211 ++ t212).size + t213.size ≤ 9223372036854775807) = true := decide_eq_true c8
        try have c8b2 : (9223372036854775807 < (t211 ++ t212).size + t213.size) = False := eq_false (Nat.not_lt.2 c8)
        try (have c8b3 := c8b2; simp only [ByteArray.size_append'] at c8b3)
        replace H := Option.bind_eq_some_iff.mp H
        obtain ⟨t214, A90, H⟩ := H
        replace H : (if ((t211 ++ t212) ++ t213).size + t214.size ≤ 9223372036854775807 then (bourseref12_Edit_Bytes.l0 k (((t211 ++ t212) ++ t213) ++ t214) l0_3 (l0_3.length : Int) 0 a0_0 a0_1 a0_2 l0_3 l0_4) else (none)) = some (r1, r2) := H
        have A9 := Aside0.mk A90
        clear A90
        by_cases c10 : ((t211 ++ t212) ++ t213).size + t214.size ≤ 9223372036854775807
        · rw [if_pos c10] at H
          have c10b0 := eq_true c10
          have c10b1 : decide (((t211 ++ t212) ++ t213).size + t214.size ≤ 9223372036854775807) = true := decide_eq_true c10
          try have c10b2 : (9223372036854775807 < ((t211 ++ t212) ++ t213).size + t214.size) = False := eq_false (Nat.not_lt.2 c10)
          try (have c10b3 := c10b2; simp only [ByteArray.size_append'] at c10b3)
          have H' := Aside0.mk H
          clear H
          go_enter Tryd.func17, Tryd.ntmps17
          try go_wp2_with (first | ((with_reducible refine gate_dst (N := 1) rfl ?_); refine box_event ?hg (N := 1) ?hd (cs := #[.int .u64 a0_0, .int .u64 a0_1, .int .u64 a0_2, .slice A0_3 l0_3.length c0_3, .slice A0_4 l0_4.length c0_4]) (t := 36) ?hr ?_; (case hd => rfl); (case hg => rfl); (case hr => first | (go_simp; done) | (go_simp; rfl)); intro gb209 hg w11 hbox hb; have n0_ := Aside0.mk (below_step (by repeat (first | (with_reducible first | exact HB.out | apply below_alloc | apply pw_below_drewN | apply below_drew1) | exact HB.out)) hb); have n1_ := Aside0.mk (hbox); have n2_ := Aside0.mk ((by rw [hg]; exact (below_size (by repeat (first | (with_reducible first | exact HB.out | apply below_alloc | apply pw_below_drewN | apply below_drew1) | exact HB.out))) : w.heap.size ≤ gb209)); have n3_ := Aside0.mk ((by rw [hg]; exact (below_size (by repeat (first | (with_reducible first | exact HB.out | apply below_alloc | apply pw_below_drewN | apply below_drew1) | exact HB.out))) : w.heap.size ≤ gb209)); clear HB; have HB := n0_; have BK209 := n1_; have GW209 := n2_; have GE209 := n3_; clear n0_ n1_ n2_ n3_; clear hb hbox hg; have hcz12_0 : w11.cell? ⟨gb209, 0, none⟩ = some (.int .u64 a0_0) := (blk_cell BK209.out 0).trans rfl; have hcz12_1 : w11.cell? ⟨gb209, 1, none⟩ = some (.int .u64 a0_1) := (blk_cell BK209.out 1).trans rfl; have hcz12_2 : w11.cell? ⟨gb209, 2, none⟩ = some (.int .u64 a0_2) := (blk_cell BK209.out 2).trans rfl; have hcz12_3 : w11.cell? ⟨gb209, 3, none⟩ = some (.slice A0_3 l0_3.length c0_3) := (blk_cell BK209.out 3).trans rfl; have hcz12_4 : w11.cell? ⟨gb209, 4, none⟩ = some (.slice A0_4 l0_4.length c0_4) := (blk_cell BK209.out 4).trans rfl; have hfz12_0 := blk_frozen BK209.out 0; have hfz12_1 := blk_frozen BK209.out 1; have hfz12_2 := blk_frozen BK209.out 2; have hfz12_3 := blk_frozen BK209.out 3; have hfz12_4 := blk_frozen BK209.out 4) | ((with_reducible refine gate_callee (f := 21) rfl ?_); refine goesL_ (some 11) rfl rfl Tryd.func21 (by kernel_rfl) rfl #[.agg #[.int .u64 a0_0, .int .u64 a0_1, .int .u64 a0_2, .slice A0_3 l0_3.length c0_3, .slice A0_4 l0_4.length c0_4]] rfl (by (try simp only [List.map_toArray, List.map_cons, List.map_nil]); first | done | rfl | (simp only [List.length_drop, List.length_take]; rfl)) ?_; (with_reducible refine (bourseref12_Edit_Check.calls k a0_0 a0_1 a0_2 _ _ l0_3 _ _ l0_4 t210 _ ?side1 ?side2 ?side3 ?side4 A2.out).mono ?_); (case side1 => repeat (first | exact (Kd.C_below HR0_3.out HB.out) | (with_reducible refine Kd.C_alloc ?_ _) | (with_reducible refine Kd.C_drewN ?_ _) | (with_reducible refine Kd.C_drew ?_))); (case side2 => exact HC0_3.out); (case side3 => repeat (first | exact (Kd.C_below HR0_4.out HB.out) | (with_reducible refine Kd.C_alloc ?_ _) | (with_reducible refine Kd.C_drewN ?_ _) | (with_reducible refine Kd.C_drew ?_))); (case side4 => exact HC0_4.out); rintro e w13 ⟨rfl, hb⟩; refine ⟨_, rfl, ?_⟩; have n0_ := Aside0.mk (blk_below (g := gb209) (o := .cells #[.int .u64 a0_0, .int .u64 a0_1, .int .u64 a0_2, .slice A0_3 l0_3.length c0_3, .slice A0_4 l0_4.length c0_4] 36 (0, 0)) (by (with_reducible repeat (first | refine blk_drewN ?_ _ | refine blk_drew ?_ | refine blk_alloc ?_ _)); exact BK209.out) hb); have n1_ := Aside0.mk (below_step (by repeat (first | (with_reducible first | exact HB.out | apply below_alloc | apply pw_below_drewN | apply below_drew1 | refine below_set ?_ GE209.out) | exact HB.out)) hb); clear BK209; clear HB; have BK209 := n0_; have HB := n1_; clear n0_ n1_; (try clear hb); (try clear hb2); (try clear hk); (try clear hi)))
          have n0_ := Aside0.mk (blk_drew BK209.out)
          have n1_ := Aside0.mk (below_drew1 HB.out)
          clear BK209
          clear HB
          have BK209 := n0_
          have HB := n1_
          clear n0_ n1_
          refine start_ (n := 18) (S := fun w' => w'.cell? ⟨gb209, 0, none⟩ = some (.int .u64 a0_0) ∧ w'.cell? ⟨gb209, 1, none⟩ = some (.int .u64 a0_1) ∧ w'.cell? ⟨gb209, 2, none⟩ = some (.int .u64 a0_2) ∧ w'.cell? ⟨gb209, 3, none⟩ = some (.slice A0_3 l0_3.length c0_3) ∧ w'.cell? ⟨gb209, 4, none⟩ = some (.slice A0_4 l0_4.length c0_4)) (ds := []) #[false, false, false, false, false, false, false, false, false, false, false, false, false, false, false, false, false, false] (by kernel_rfl) rfl rfl ⟨(blk_cell BK209.out 0).trans rfl, (blk_cell BK209.out 1).trans rfl, (blk_cell BK209.out 2).trans rfl, (blk_cell BK209.out 3).trans rfl, (blk_cell BK209.out 4).trans rfl⟩ (fun hHeld => ?_); refine with_tabW bourseref12_Edit_Bytes.tab4 bourseref12_Edit_Bytes.bits4 (fun HT_ HW_ => ?_)
          generalize w13.drew = w14 at BK209 HB hHeld ⊢
          refine pure_ (i := 0) (N := some 15) (v := ?_) (a' := ?_) #[true, false, false, false, false, false, false, false, false, false, false, false, false, false, false, false, false, false] rfl rfl (any_of HT_.out (by kernel_rfl)) (fun _ _ _ h => h) (Or.inl ⟨by rfl, ?_⟩) ?_ ?_
          rotate_left
          · intro w'
            go_simp
            with_reducible rfl
          rotate_left
          · simp only [Act.put, List.setIfInBounds_toArray, List.set_cons_zero, List.set_cons_succ, i64_w, i32_w]
            rfl
          refine pure_ (i := 3) (N := some 18) (v := ?_) (a' := ?_) #[true, false, false, true, false, false, false, false, false, false, false, false, false, false, false, false, false, false] rfl rfl (any_of HT_.out (by kernel_rfl)) (fun _ _ _ h => h) (Or.inl ⟨by rfl, ?_⟩) ?_ ?_
          rotate_left
          · intro w'
            go_simp
            with_reducible rfl
          rotate_left
          · simp only [Act.put, List.setIfInBounds_toArray, List.set_cons_zero, List.set_cons_succ, i64_w, i32_w]
            rfl
          refine pure_ (i := 7) (N := some 22) (v := ?_) (a' := ?_) #[true, false, false, true, false, false, false, true, false, false, false, false, false, false, false, false, false, false] rfl rfl (any_of HT_.out (by kernel_rfl)) (fun _ _ _ h => h) (Or.inl ⟨by rfl, ?_⟩) ?_ ?_
          rotate_left
          · intro w'
            go_simp
            with_reducible rfl
          rotate_left
          · simp only [Act.put, List.setIfInBounds_toArray, List.set_cons_zero, List.set_cons_succ, i64_w, i32_w]
            rfl
          refine pure_ (i := 11) (N := some 26) (v := ?_) (a' := ?_) #[true, false, false, true, false, false, false, true, false, false, false, true, false, false, false, false, false, false] rfl rfl (any_of HT_.out (by kernel_rfl)) (fun _ _ _ h => h) (Or.inl ⟨by rfl, ?_⟩) ?_ ?_
          rotate_left
          · intro w'
            go_simp
            with_reducible rfl
          rotate_left
          · simp only [Act.put, List.setIfInBounds_toArray, List.set_cons_zero, List.set_cons_succ, i64_w, i32_w]
            rfl
          refine take_ (i := 1) (N := some 16) (v := ?_) (a' := ?_) #[true, true, false, true, false, false, false, true, false, false, false, true, false, false, false, false, false, false] rfl rfl (take_ofW HT_.out HW_.out (by kernel_rfl)) (fun _ _ _ h => h) (Or.inl ⟨by rfl, ?_⟩) hHeld ?_ ?_
          rotate_left
          · rintro w' ⟨s0, s1, s2, s3, s4⟩
            go_simp
            with_reducible rfl
          rotate_left
          · simp only [Act.put, List.setIfInBounds_toArray, List.set_cons_zero, List.set_cons_succ, i64_w, i32_w]
            rfl
          refine take_ (i := 4) (N := some 19) (v := ?_) (a' := ?_) #[true, true, false, true, true, false, false, true, false, false, false, true, false, false, false, false, false, false] rfl rfl (take_ofW HT_.out HW_.out (by kernel_rfl)) (fun _ _ _ h => h) (Or.inl ⟨by rfl, ?_⟩) hHeld ?_ ?_
          rotate_left
          · rintro w' ⟨s0, s1, s2, s3, s4⟩
            go_simp
            with_reducible rfl
          rotate_left
          · simp only [Act.put, List.setIfInBounds_toArray, List.set_cons_zero, List.set_cons_succ, i64_w, i32_w]
            rfl
          refine take_ (i := 8) (N := some 23) (v := ?_) (a' := ?_) #[true, true, false, true, true, false, false, true, true, false, false, true, false, false, false, false, false, false] rfl rfl (take_ofW HT_.out HW_.out (by kernel_rfl)) (fun _ _ _ h => h) (Or.inl ⟨by rfl, ?_⟩) hHeld ?_ ?_
          rotate_left
          · rintro w' ⟨s0, s1, s2, s3, s4⟩
            go_simp
            with_reducible rfl
          rotate_left
          · simp only [Act.put, List.setIfInBounds_toArray, List.set_cons_zero, List.set_cons_succ, i64_w, i32_w]
            rfl
          refine take_ (i := 12) (N := some 27) (v := ?_) (a' := ?_) #[true, true, false, true, true, false, false, true, true, false, false, true, true, false, false, false, false, false] rfl rfl (take_ofW HT_.out HW_.out (by kernel_rfl)) (fun _ _ _ h => h) (Or.inl ⟨by rfl, ?_⟩) hHeld ?_ ?_
          rotate_left
          · rintro w' ⟨s0, s1, s2, s3, s4⟩
            go_simp
            with_reducible rfl
          rotate_left
          · simp only [Act.put, List.setIfInBounds_toArray, List.set_cons_zero, List.set_cons_succ, i64_w, i32_w]
            rfl
          refine pure_ (i := 13) (N := some 28) (v := ?_) (a' := ?_) #[true, true, false, true, true, false, false, true, true, false, false, true, true, true, false, false, false, false] rfl rfl (any_of HT_.out (by kernel_rfl)) (fun _ _ _ h => h) (Or.inl ⟨by rfl, ?_⟩) ?_ ?_
          rotate_left
          · intro w'
            go_simp
            with_reducible rfl
          rotate_left
          · simp only [Act.put, List.setIfInBounds_toArray, List.set_cons_zero, List.set_cons_succ, i64_w, i32_w]
            rfl
          refine pure_ (i := 14) (N := some 29) (v := ?_) (a' := ?_) #[true, true, false, true, true, false, false, true, true, false, false, true, true, true, true, false, false, false] rfl rfl (any_of HT_.out (by kernel_rfl)) (fun _ _ _ h => h) (Or.inl ⟨by rfl, ?_⟩) ?_ ?_
          rotate_left
          · intro w'
            go_simp
            with_reducible rfl
          rotate_left
          · simp only [Act.put, List.setIfInBounds_toArray, List.set_cons_zero, List.set_cons_succ, i64_w, i32_w]
            rfl
          refine one_ (i := 2) (N := some 17) #[true, true, true, true, true, false, false, true, true, false, false, true, true, true, true, false, false, false] rfl rfl (one_of HT_.out (by kernel_rfl)) (by decide) (fun K hK => ?_)
          refine goes_ Tryd.func53 (by kernel_rfl) rfl #[.int .u64 a0_0] (by rfl) rfl rfl (by (try simp only [List.map_toArray, List.map_cons, List.map_nil]); first | done | rfl | (simp only [List.length_drop, List.length_take]; rfl)) ?_
          with_reducible refine (bourseref03_Num.calls k a0_0 t211 _ A4.out).mono ?_
          rintro e w15 ⟨rfl, hb⟩
          refine ⟨_, rfl, ?_⟩
          have n0_ := Aside0.mk (blk_below (g := gb209) (o := .cells #[.int .u64 a0_0, .int .u64 a0_1, .int .u64 a0_2, .slice A0_3 l0_3.length c0_3, .slice A0_4 l0_4.length c0_4] 36 (0, 0)) (by (with_reducible repeat (first | refine blk_drewN ?_ _ | refine blk_drew ?_ | refine blk_alloc ?_ _)); exact BK209.out) hb)
          have n1_ := Aside0.mk (below_step (by repeat (first | (with_reducible first | exact HB.out | apply below_alloc | apply pw_below_drewN | apply below_drew1 | refine below_set ?_ GE209.out) | exact HB.out)) hb)
          clear BK209
          clear HB
          have BK209 := n0_
          have HB := n1_
          clear n0_ n1_
          (try clear hb)
          (try clear hb2)
          (try clear hk)
          (try clear hi)
          refine hK.out _ _ ⟨(blk_cell BK209.out 0).trans rfl, (blk_cell BK209.out 1).trans rfl, (blk_cell BK209.out 2).trans rfl, (blk_cell BK209.out 3).trans rfl, (blk_cell BK209.out 4).trans rfl⟩ (fun hHeld => ?_)
          clear hK K
          refine norm_ (a' := ?_) ?_ ?_
          rotate_left
          · show Act.put _ (some 17) _ = _
            simp only [Act.put, List.setIfInBounds_toArray, List.set_cons_zero, List.set_cons_succ, i64_w, i32_w]
            rfl
          refine one_ (i := 5) (N := some 20) #[true, true, true, true, true, true, false, true, true, false, false, true, true, true, true, false, false, false] rfl rfl (one_of HT_.out (by kernel_rfl)) (by decide) (fun K hK => ?_)
          refine goes_ Tryd.func53 (by kernel_rfl) rfl #[.int .u64 a0_1] (by rfl) rfl rfl (by (try simp only [List.map_toArray, List.map_cons, List.map_nil]); first | done | rfl | (simp only [List.length_drop, List.length_take]; rfl)) ?_
          with_reducible refine (bourseref03_Num.calls k a0_1 t212 _ A5.out).mono ?_
          rintro e w16 ⟨rfl, hb⟩
          refine ⟨_, rfl, ?_⟩
          have n0_ := Aside0.mk (blk_below (g := gb209) (o := .cells #[.int .u64 a0_0, .int .u64 a0_1, .int .u64 a0_2, .slice A0_3 l0_3.length c0_3, .slice A0_4 l0_4.length c0_4] 36 (0, 0)) (by (with_reducible repeat (first | refine blk_drewN ?_ _ | refine blk_drew ?_ | refine blk_alloc ?_ _)); exact BK209.out) hb)
          have n1_ := Aside0.mk (below_step (by repeat (first | (with_reducible first | exact HB.out | apply below_alloc | apply pw_below_drewN | apply below_drew1 | refine below_set ?_ GE209.out) | exact HB.out)) hb)
          clear BK209
          clear HB
          have BK209 := n0_
          have HB := n1_
          clear n0_ n1_
          (try clear hb)
          (try clear hb2)
          (try clear hk)
          (try clear hi)
          refine hK.out _ _ ⟨(blk_cell BK209.out 0).trans rfl, (blk_cell BK209.out 1).trans rfl, (blk_cell BK209.out 2).trans rfl, (blk_cell BK209.out 3).trans rfl, (blk_cell BK209.out 4).trans rfl⟩ (fun hHeld => ?_)
          clear hK K
          refine norm_ (a' := ?_) ?_ ?_
          rotate_left
          · show Act.put _ (some 20) _ = _
            simp only [Act.put, List.setIfInBounds_toArray, List.set_cons_zero, List.set_cons_succ, i64_w, i32_w]
            rfl
          refine pure_ (i := 6) (N := some 21) (v := ?_) (a' := ?_) #[true, true, true, true, true, true, true, true, true, false, false, true, true, true, true, false, false, false] rfl rfl (any_of HT_.out (by kernel_rfl)) (fun _ _ _ h => h) (Or.inl ⟨by rfl, ?_⟩) ?_ ?_
          rotate_left
          · intro w'
            go_simp
            with_reducible rfl
          rotate_left
          · simp only [Act.put, List.setIfInBounds_toArray, List.set_cons_zero, List.set_cons_succ, i64_w, i32_w]
            rfl
          refine one_ (i := 9) (N := some 24) #[true, true, true, true, true, true, true, true, true, true, false, true, true, true, true, false, false, false] rfl rfl (one_of HT_.out (by kernel_rfl)) (by decide) (fun K hK => ?_)
          refine goes_ Tryd.func53 (by kernel_rfl) rfl #[.int .u64 a0_2] (by rfl) rfl rfl (by (try simp only [List.map_toArray, List.map_cons, List.map_nil]); first | done | rfl | (simp only [List.length_drop, List.length_take]; rfl)) ?_
          with_reducible refine (bourseref03_Num.calls k a0_2 t213 _ A7.out).mono ?_
          rintro e w17 ⟨rfl, hb⟩
          refine ⟨_, rfl, ?_⟩
          have n0_ := Aside0.mk (blk_below (g := gb209) (o := .cells #[.int .u64 a0_0, .int .u64 a0_1, .int .u64 a0_2, .slice A0_3 l0_3.length c0_3, .slice A0_4 l0_4.length c0_4] 36 (0, 0)) (by (with_reducible repeat (first | refine blk_drewN ?_ _ | refine blk_drew ?_ | refine blk_alloc ?_ _)); exact BK209.out) hb)
          have n1_ := Aside0.mk (below_step (by repeat (first | (with_reducible first | exact HB.out | apply below_alloc | apply pw_below_drewN | apply below_drew1 | refine below_set ?_ GE209.out) | exact HB.out)) hb)
          clear BK209
          clear HB
          have BK209 := n0_
          have HB := n1_
          clear n0_ n1_
          (try clear hb)
          (try clear hb2)
          (try clear hk)
          (try clear hi)
          refine hK.out _ _ ⟨(blk_cell BK209.out 0).trans rfl, (blk_cell BK209.out 1).trans rfl, (blk_cell BK209.out 2).trans rfl, (blk_cell BK209.out 3).trans rfl, (blk_cell BK209.out 4).trans rfl⟩ (fun hHeld => ?_)
          clear hK K
          refine norm_ (a' := ?_) ?_ ?_
          rotate_left
          · show Act.put _ (some 24) _ = _
            simp only [Act.put, List.setIfInBounds_toArray, List.set_cons_zero, List.set_cons_succ, i64_w, i32_w]
            rfl
          refine pure_ (i := 10) (N := some 25) (v := ?_) (a' := ?_) #[true, true, true, true, true, true, true, true, true, true, true, true, true, true, true, false, false, false] rfl rfl (any_of HT_.out (by kernel_rfl)) (fun _ _ _ h => h) (Or.inl ⟨by rfl, ?_⟩) ?_ ?_
          rotate_left
          · intro w'
            go_simp
            with_reducible rfl
          rotate_left
          · simp only [Act.put, List.setIfInBounds_toArray, List.set_cons_zero, List.set_cons_succ, i64_w, i32_w]
            rfl
          refine one_ (i := 15) (N := some 30) #[true, true, true, true, true, true, true, true, true, true, true, true, true, true, true, true, false, false] rfl rfl (one_of HT_.out (by kernel_rfl)) (by decide) (fun K hK => ?_)
          refine goes_ Tryd.func53 (by kernel_rfl) rfl #[.int .u64 (IntKind.u64.wrap ((l0_3.length : Int)))] (by rfl) rfl rfl (by (try simp only [List.map_toArray, List.map_cons, List.map_nil]); first | done | rfl | (simp only [List.length_drop, List.length_take]; rfl)) ?_
          with_reducible refine (bourseref03_Num.calls k (IntKind.u64.wrap ((l0_3.length : Int))) t214 _ A9.out).mono ?_
          rintro e w18 ⟨rfl, hb⟩
          refine ⟨_, rfl, ?_⟩
          have n0_ := Aside0.mk (blk_below (g := gb209) (o := .cells #[.int .u64 a0_0, .int .u64 a0_1, .int .u64 a0_2, .slice A0_3 l0_3.length c0_3, .slice A0_4 l0_4.length c0_4] 36 (0, 0)) (by (with_reducible repeat (first | refine blk_drewN ?_ _ | refine blk_drew ?_ | refine blk_alloc ?_ _)); exact BK209.out) hb)
          have n1_ := Aside0.mk (below_step (by repeat (first | (with_reducible first | exact HB.out | apply below_alloc | apply pw_below_drewN | apply below_drew1 | refine below_set ?_ GE209.out) | exact HB.out)) hb)
          clear BK209
          clear HB
          have BK209 := n0_
          have HB := n1_
          clear n0_ n1_
          (try clear hb)
          (try clear hb2)
          (try clear hk)
          (try clear hi)
          refine hK.out _ _ ⟨(blk_cell BK209.out 0).trans rfl, (blk_cell BK209.out 1).trans rfl, (blk_cell BK209.out 2).trans rfl, (blk_cell BK209.out 3).trans rfl, (blk_cell BK209.out 4).trans rfl⟩ (fun hHeld => ?_)
          clear hK K
          refine norm_ (a' := ?_) ?_ ?_
          rotate_left
          · show Act.put _ (some 30) _ = _
            simp only [Act.put, List.setIfInBounds_toArray, List.set_cons_zero, List.set_cons_succ, i64_w, i32_w]
            rfl
          refine pure_ (i := 16) (N := some 31) (v := ?_) (a' := ?_) #[true, true, true, true, true, true, true, true, true, true, true, true, true, true, true, true, true, false] rfl rfl (any_of HT_.out (by kernel_rfl)) (fun _ _ _ h => h) (Or.inl ⟨by rfl, ?_⟩) ?_ ?_
          rotate_left
          · intro w'
            go_simp
            with_reducible rfl
          rotate_left
          · simp only [Act.put, List.setIfInBounds_toArray, List.set_cons_zero, List.set_cons_succ, i64_w, i32_w]
            rfl
          refine pure_ (i := 17) (N := some 5) (v := ?_) (a' := ?_) #[true, true, true, true, true, true, true, true, true, true, true, true, true, true, true, true, true, true] rfl rfl (any_of HT_.out (by kernel_rfl)) (fun _ _ _ h => h) (Or.inl ⟨by rfl, ?_⟩) ?_ ?_
          rotate_left
          · intro w'
            go_simp
            with_reducible rfl
          rotate_left
          · simp only [Act.put, List.setIfInBounds_toArray, List.set_cons_zero, List.set_cons_succ, i64_w, i32_w]
            rfl
          refine done_ (done_of HT_.out (by kernel_rfl)) ?_
          have hcz19_0 : w18.cell? ⟨gb209, 0, none⟩ = some (.int .u64 a0_0) := (blk_cell BK209.out 0).trans rfl
          have hcz19_1 : w18.cell? ⟨gb209, 1, none⟩ = some (.int .u64 a0_1) := (blk_cell BK209.out 1).trans rfl
          have hcz19_2 : w18.cell? ⟨gb209, 2, none⟩ = some (.int .u64 a0_2) := (blk_cell BK209.out 2).trans rfl
          have hcz19_3 : w18.cell? ⟨gb209, 3, none⟩ = some (.slice A0_3 l0_3.length c0_3) := (blk_cell BK209.out 3).trans rfl
          have hcz19_4 : w18.cell? ⟨gb209, 4, none⟩ = some (.slice A0_4 l0_4.length c0_4) := (blk_cell BK209.out 4).trans rfl
          have hfz19_0 := blk_frozen BK209.out 0
          have hfz19_1 := blk_frozen BK209.out 1
          have hfz19_2 := blk_frozen BK209.out 2
          have hfz19_3 := blk_frozen BK209.out 3
          have hfz19_4 := blk_frozen BK209.out 4
          try go_wp2
          go_loopg [5, 35] k (fun kq v5 v35 w' => ∃ (x5_1 : ByteArray) (x35_1 : Int), v5 = .string x5_1 ∧ v35 = .int .i64 x35_1 ∧ Aside0 (bourseref12_Edit_Bytes.l0 kq x5_1 l0_3 (l0_3.length : Int) x35_1 a0_0 a0_1 a0_2 l0_3 l0_4 = some (r1, r2)) ∧ Aside0 (kq ≤ k) ∧ Aside0 (w'.heap[gb209]? = some (.cells #[.int .u64 a0_0, .int .u64 a0_1, .int .u64 a0_2, (.slice A0_3 l0_3.length c0_3), (.slice A0_4 l0_4.length c0_4)] 36 (0, 0))) ∧ Aside0 (Below w.heap.size w w'))
          case atStart => exact ⟨(((t211 ++ t212) ++ t213) ++ t214), (0), (by first | rfl | (simp; done) | (simp [*]; done)), (by first | rfl | (simp; done) | (simp [*]; done)), H', ⟨Nat.le_refl _⟩, ⟨by (with_reducible repeat (first | refine blk_drewN ?_ _ | refine blk_drew ?_ | refine blk_alloc ?_ _)); exact BK209.out⟩, ⟨by repeat (first | (with_reducible first | exact HB.out | apply below_alloc | apply pw_below_drewN | apply below_drew1 | refine below_set ?_ GE209.out) | exact HB.out)⟩⟩
          case round =>
            clear H'
            try clear c1
            try clear c2
            try clear p2
            try clear c3
            try clear c3b0
            try clear c3b1
            try clear c5
            try clear c6
            try clear c6b0
            try clear c6b1
            try clear c6b2
            try clear c8
            try clear c8b0
            try clear c8b1
            try clear c8b2
            try clear c10
            try clear c10b0
            try clear c10b1
            try clear c10b2
            try clear c17
            try clear hcz12_0
            try clear hcz12_1
            try clear hcz12_2
            try clear hcz12_3
            try clear hcz12_4
            try clear hcz19_0
            try clear hcz19_1
            try clear hcz19_2
            try clear hcz19_3
            try clear hcz19_4
            try clear hfz12_0
            try clear hfz12_1
            try clear hfz12_2
            try clear hfz12_3
            try clear hfz12_4
            try clear hfz19_0
            try clear hfz19_1
            try clear hfz19_2
            try clear hfz19_3
            try clear hfz19_4
            obtain ⟨x5_1, x35_1, rfl, rfl, HA, HK1, BK209, HB⟩ := hrel
            cases gk with
            | zero => exact absurd HA.out (by simp [bourseref12_Edit_Bytes.l0])
            | succ k1 =>
              have H := HA.out
              clear HA
              simp only [bourseref12_Edit_Bytes.l0] at H
              by_cases c20 : x35_1 < (l0_3.length : Int)
              · rw [if_pos c20] at H
                have c20b0 : decide (x35_1 < (l0_3.length : Int)) = true := decide_eq_true c20
                clear c20
                by_cases c21 : 0 ≤ x35_1
                · rw [if_pos c21] at H
                  have c21b0 : decide (0 ≤ x35_1) = true := decide_eq_true c21
                  clear c21
                  by_cases c22 : x35_1 < (l0_3.length : Int)
                  · rw [if_pos c22] at H
                    have c22b0 : decide (x35_1 < (l0_3.length : Int)) = true := decide_eq_true c22
                    clear c22
                    replace H := Option.bind_eq_some_iff.mp H
                    obtain ⟨t217, A230, H⟩ := H
                    replace H : (if x5_1.size + t217.size ≤ 9223372036854775807 then ((bourseref03_Num.f k1 ((rd_T114 l0_3 x35_1).f1.f0)).bind fun t218 => (if (x5_1 ++ t217).size + t218.size ≤ 9223372036854775807 then ((bourseref03_Num.f k1 ((rd_T114 l0_3 x35_1).f1.f1)).bind fun t219 => (if ((x5_1 ++ t217) ++ t218).size + t219.size ≤ 9223372036854775807 then ((bourseref03_Num.f k1 ((rd_T114 l0_3 x35_1).f1.f2)).bind fun t220 => (if (((x5_1 ++ t217) ++ t218) ++ t219).size + t220.size ≤ 9223372036854775807 then ((bourseref03_Text.f k1 ((rd_T114 l0_3 x35_1).f1.f3)).bind fun t221 => (if ((((x5_1 ++ t217) ++ t218) ++ t219) ++ t220).size + t221.size ≤ 9223372036854775807 then ((bourseref03_Text.f k1 ((rd_T114 l0_3 x35_1).f1.f4)).bind fun t222 => (if (((((x5_1 ++ t217) ++ t218) ++ t219) ++ t220) ++ t221).size + t222.size ≤ 9223372036854775807 then (bourseref12_Edit_Bytes.l0 k1 ((((((x5_1 ++ t217) ++ t218) ++ t219) ++ t220) ++ t221) ++ t222) l0_3 (l0_3.length : Int) (wrap64 (x35_1 + 1)) a0_0 a0_1 a0_2 l0_3 l0_4) else (none))) else (none))) else (none))) else (none))) else (none))) else (none)) = some (r1, r2) := H
                    have A23 := Aside0.mk A230
                    clear A230
                    by_cases c24 : x5_1.size + t217.size ≤ 9223372036854775807
                    · rw [if_pos c24] at H
                      have c24b0 := eq_true c24
                      have c24b1 : decide (x5_1.size + t217.size ≤ 9223372036854775807) = true := decide_eq_true c24
                      try have c24b2 : (9223372036854775807 < x5_1.size + t217.size) = False := eq_false (Nat.not_lt.2 c24)
                      replace H := Option.bind_eq_some_iff.mp H
                      obtain ⟨t218, A250, H⟩ := H
                      replace H : (if (x5_1 ++ t217).size + t218.size ≤ 9223372036854775807 then ((bourseref03_Num.f k1 ((rd_T114 l0_3 x35_1).f1.f1)).bind fun t219 => (if ((x5_1 ++ t217) ++ t218).size + t219.size ≤ 9223372036854775807 then ((bourseref03_Num.f k1 ((rd_T114 l0_3 x35_1).f1.f2)).bind fun t220 => (if (((x5_1 ++ t217) ++ t218) ++ t219).size + t220.size ≤ 9223372036854775807 then ((bourseref03_Text.f k1 ((rd_T114 l0_3 x35_1).f1.f3)).bind fun t221 => (if ((((x5_1 ++ t217) ++ t218) ++ t219) ++ t220).size + t221.size ≤ 9223372036854775807 then ((bourseref03_Text.f k1 ((rd_T114 l0_3 x35_1).f1.f4)).bind fun t222 => (if (((((x5_1 ++ t217) ++ t218) ++ t219) ++ t220) ++ t221).size + t222.size ≤ 9223372036854775807 then (bourseref12_Edit_Bytes.l0 k1 ((((((x5_1 ++ t217) ++ t218) ++ t219) ++ t220) ++ t221) ++ t222) l0_3 (l0_3.length : Int) (wrap64 (x35_1 + 1)) a0_0 a0_1 a0_2 l0_3 l0_4) else (none))) else (none))) else (none))) else (none))) else (none)) = some (r1, r2) := H
                      have A25 := Aside0.mk A250
                      clear A250
                      by_cases c26 : (x5_1 ++ t217).size + t218.size ≤ 9223372036854775807
                      · rw [if_pos c26] at H
                        have c26b0 := eq_true c26
                        have c26b1 : decide ((x5_1 ++ t217).size + t218.size ≤ 9223372036854775807) = true := decide_eq_true c26
                        try have c26b2 : (9223372036854775807 < (x5_1 ++ t217).size + t218.size) = False := eq_false (Nat.not_lt.2 c26)
                        try (have c26b3 := c26b2; simp only [ByteArray.size_append'] at c26b3)
                        replace H := Option.bind_eq_some_iff.mp H
                        obtain ⟨t219, A270, H⟩ := H
                        replace H : (if ((x5_1 ++ t217) ++ t218).size + t219.size ≤ 9223372036854775807 then ((bourseref03_Num.f k1 ((rd_T114 l0_3 x35_1).f1.f2)).bind fun t220 => (if (((x5_1 ++ t217) ++ t218) ++ t219).size + t220.size ≤ 9223372036854775807 then ((bourseref03_Text.f k1 ((rd_T114 l0_3 x35_1).f1.f3)).bind fun t221 => (if ((((x5_1 ++ t217) ++ t218) ++ t219) ++ t220).size + t221.size ≤ 9223372036854775807 then ((bourseref03_Text.f k1 ((rd_T114 l0_3 x35_1).f1.f4)).bind fun t222 => (if (((((x5_1 ++ t217) ++ t218) ++ t219) ++ t220) ++ t221).size + t222.size ≤ 9223372036854775807 then (bourseref12_Edit_Bytes.l0 k1 ((((((x5_1 ++ t217) ++ t218) ++ t219) ++ t220) ++ t221) ++ t222) l0_3 (l0_3.length : Int) (wrap64 (x35_1 + 1)) a0_0 a0_1 a0_2 l0_3 l0_4) else (none))) else (none))) else (none))) else (none)) = some (r1, r2) := H
                        have A27 := Aside0.mk A270
                        clear A270
                        by_cases c28 : ((x5_1 ++ t217) ++ t218).size + t219.size ≤ 9223372036854775807
                        · rw [if_pos c28] at H
                          have c28b0 := eq_true c28
                          have c28b1 : decide (((x5_1 ++ t217) ++ t218).size + t219.size ≤ 9223372036854775807) = true := decide_eq_true c28
                          try have c28b2 : (9223372036854775807 < ((x5_1 ++ t217) ++ t218).size + t219.size) = False := eq_false (Nat.not_lt.2 c28)
                          try (have c28b3 := c28b2; simp only [ByteArray.size_append'] at c28b3)
                          replace H := Option.bind_eq_some_iff.mp H
                          obtain ⟨t220, A290, H⟩ := H
                          replace H : (if (((x5_1 ++ t217) ++ t218) ++ t219).size + t220.size ≤ 9223372036854775807 then ((bourseref03_Text.f k1 ((rd_T114 l0_3 x35_1).f1.f3)).bind fun t221 => (if ((((x5_1 ++ t217) ++ t218) ++ t219) ++ t220).size + t221.size ≤ 9223372036854775807 then ((bourseref03_Text.f k1 ((rd_T114 l0_3 x35_1).f1.f4)).bind fun t222 => (if (((((x5_1 ++ t217) ++ t218) ++ t219) ++ t220) ++ t221).size + t222.size ≤ 9223372036854775807 then (bourseref12_Edit_Bytes.l0 k1 ((((((x5_1 ++ t217) ++ t218) ++ t219) ++ t220) ++ t221) ++ t222) l0_3 (l0_3.length : Int) (wrap64 (x35_1 + 1)) a0_0 a0_1 a0_2 l0_3 l0_4) else (none))) else (none))) else (none)) = some (r1, r2) := H
                          have A29 := Aside0.mk A290
                          clear A290
                          by_cases c30 : (((x5_1 ++ t217) ++ t218) ++ t219).size + t220.size ≤ 9223372036854775807
                          · rw [if_pos c30] at H
                            have c30b0 := eq_true c30
                            have c30b1 : decide ((((x5_1 ++ t217) ++ t218) ++ t219).size + t220.size ≤ 9223372036854775807) = true := decide_eq_true c30
                            try have c30b2 : (9223372036854775807 < (((x5_1 ++ t217) ++ t218) ++ t219).size + t220.size) = False := eq_false (Nat.not_lt.2 c30)
                            try (have c30b3 := c30b2; simp only [ByteArray.size_append'] at c30b3)
                            replace H := Option.bind_eq_some_iff.mp H
                            obtain ⟨t221, A310, H⟩ := H
                            replace H : (if ((((x5_1 ++ t217) ++ t218) ++ t219) ++ t220).size + t221.size ≤ 9223372036854775807 then ((bourseref03_Text.f k1 ((rd_T114 l0_3 x35_1).f1.f4)).bind fun t222 => (if (((((x5_1 ++ t217) ++ t218) ++ t219) ++ t220) ++ t221).size + t222.size ≤ 9223372036854775807 then (bourseref12_Edit_Bytes.l0 k1 ((((((x5_1 ++ t217) ++ t218) ++ t219) ++ t220) ++ t221) ++ t222) l0_3 (l0_3.length : Int) (wrap64 (x35_1 + 1)) a0_0 a0_1 a0_2 l0_3 l0_4) else (none))) else (none)) = some (r1, r2) := H
                            have A31 := Aside0.mk A310
                            clear A310
                            by_cases c32 : ((((x5_1 ++ t217) ++ t218) ++ t219) ++ t220).size + t221.size ≤ 9223372036854775807
                            · rw [if_pos c32] at H
                              have c32b0 := eq_true c32
                              have c32b1 : decide (((((x5_1 ++ t217) ++ t218) ++ t219) ++ t220).size + t221.size ≤ 9223372036854775807) = true := decide_eq_true c32
                              try have c32b2 : (9223372036854775807 < ((((x5_1 ++ t217) ++ t218) ++ t219) ++ t220).size + t221.size) = False := eq_false (Nat.not_lt.2 c32)
                              try (have c32b3 := c32b2; simp only [ByteArray.size_append'] at c32b3)
                              replace H := Option.bind_eq_some_iff.mp H
                              obtain ⟨t222, A330, H⟩ := H
                              replace H : (if (((((x5_1 ++ t217) ++ t218) ++ t219) ++ t220) ++ t221).size + t222.size ≤ 9223372036854775807 then (bourseref12_Edit_Bytes.l0 k1 ((((((x5_1 ++ t217) ++ t218) ++ t219) ++ t220) ++ t221) ++ t222) l0_3 (l0_3.length : Int) (wrap64 (x35_1 + 1)) a0_0 a0_1 a0_2 l0_3 l0_4) else (none)) = some (r1, r2) := H
                              have A33 := Aside0.mk A330
                              clear A330
                              by_cases c34 : (((((x5_1 ++ t217) ++ t218) ++ t219) ++ t220) ++ t221).size + t222.size ≤ 9223372036854775807
                              · rw [if_pos c34] at H
                                have c34b0 := eq_true c34
                                have c34b1 : decide ((((((x5_1 ++ t217) ++ t218) ++ t219) ++ t220) ++ t221).size + t222.size ≤ 9223372036854775807) = true := decide_eq_true c34
                                try have c34b2 : (9223372036854775807 < (((((x5_1 ++ t217) ++ t218) ++ t219) ++ t220) ++ t221).size + t222.size) = False := eq_false (Nat.not_lt.2 c34)
                                try (have c34b3 := c34b2; simp only [ByteArray.size_append'] at c34b3)
                                have H' := Aside0.mk H
                                clear H
                                have p215 : 0 ≤ (x35_1 : Int) := of_decide_eq_true (by first | (with_reducible assumption) | assumption)
                                have q215 : x35_1 < (l0_3.length : Int) := of_decide_eq_true (by first | (with_reducible assumption) | assumption)
                                obtain ⟨ad215, e215, hx215_0, hx215_1, hx215_2, hx215_3, hx215_4, hx215_5⟩ := at_T114 HR0_3.out x35_1 p215 q215
                                cases e215
                                replace hx215_0 := (HB.out.cell (World.block_lt_of_cell? w _ hx215_0)).trans hx215_0
                                replace hx215_1 := (HB.out.cell (World.block_lt_of_cell? w _ hx215_1)).trans hx215_1
                                replace hx215_2 := (HB.out.cell (World.block_lt_of_cell? w _ hx215_2)).trans hx215_2
                                replace hx215_3 := (HB.out.cell (World.block_lt_of_cell? w _ hx215_3)).trans hx215_3
                                replace hx215_4 := (HB.out.cell (World.block_lt_of_cell? w _ hx215_4)).trans hx215_4
                                replace hx215_5 := (HB.out.cell (World.block_lt_of_cell? w _ hx215_5)).trans hx215_5
                                replace p215 := eq_true p215
                                replace q215 := eq_true q215
                                try go_wp2_with (first | ((with_reducible refine gate_dst (N := 7) rfl ?_); refine box_event ?hg (N := 7) ?hd (cs := #[.int .i64 0, .int .u64 0, .int .u64 0, .int .u64 0, .string (⟨#[]⟩ : ByteArray), .string (⟨#[]⟩ : ByteArray)]) (t := 114) ?hr ?_; (case hd => rfl); (case hg => rfl); (case hr => first | (go_simp; done) | (go_simp; rfl)); intro gb216 hg w35 hbox hb; have n0_ := Aside0.mk (blk_below (g := gb209) (o := .cells #[.int .u64 a0_0, .int .u64 a0_1, .int .u64 a0_2, .slice (some ad215) l0_3.length c0_3, .slice A0_4 l0_4.length c0_4] 36 (0, 0)) (by (with_reducible repeat (first | refine blk_drewN ?_ _ | refine blk_drew ?_ | refine blk_alloc ?_ _)); exact BK209.out) hb); have n1_ := Aside0.mk (below_step (by repeat (first | (with_reducible first | exact HB.out | apply below_alloc | apply pw_below_drewN | apply below_drew1 | refine below_set ?_ GE209.out) | exact HB.out)) hb); have n2_ := Aside0.mk (hbox); have n3_ := Aside0.mk ((by rw [hg]; exact (below_size (by repeat (first | (with_reducible first | exact HB.out | apply below_alloc | apply pw_below_drewN | apply below_drew1 | refine below_set ?_ GE209.out) | exact HB.out))) : w.heap.size ≤ gb216)); have n4_ := Aside0.mk ((by rw [hg]; exact (below_size (by repeat (first | (with_reducible first | exact HB.out | apply below_alloc | apply pw_below_drewN | apply below_drew1 | refine below_set ?_ GE209.out) | exact HB.out))) : w.heap.size ≤ gb216)); have n5_ := Aside0.mk ((by rw [hg]; exact Nat.ne_of_lt (blk_lt (g := gb209) (o := .cells #[.int .u64 a0_0, .int .u64 a0_1, .int .u64 a0_2, .slice (some ad215) l0_3.length c0_3, .slice A0_4 l0_4.length c0_4] 36 (0, 0)) (by (with_reducible repeat (first | refine blk_drewN ?_ _ | refine blk_drew ?_ | refine blk_alloc ?_ _)); exact BK209.out)) : gb209 ≠ gb216)); have n6_ := Aside0.mk ((by rw [hg]; exact Nat.ne_of_gt (blk_lt (g := gb209) (o := .cells #[.int .u64 a0_0, .int .u64 a0_1, .int .u64 a0_2, .slice (some ad215) l0_3.length c0_3, .slice A0_4 l0_4.length c0_4] 36 (0, 0)) (by (with_reducible repeat (first | refine blk_drewN ?_ _ | refine blk_drew ?_ | refine blk_alloc ?_ _)); exact BK209.out)) : gb216 ≠ gb209)); clear BK209; clear HB; have BK209 := n0_; have HB := n1_; have BK216 := n2_; have GW216 := n3_; have GE216 := n4_; have NB209_216 := n5_; have NB216_209 := n6_; clear n0_ n1_ n2_ n3_ n4_ n5_ n6_; clear hb hbox hg; have hnb36 := NB216_209.out; have hnc36 := NB209_216.out; have hcz37_0 : w35.cell? ⟨gb216, 0, none⟩ = some (.int .i64 0) := (blk_cell BK216.out 0).trans rfl; have hcz37_1 : w35.cell? ⟨gb216, 1, none⟩ = some (.int .u64 0) := (blk_cell BK216.out 1).trans rfl; have hcz37_2 : w35.cell? ⟨gb216, 2, none⟩ = some (.int .u64 0) := (blk_cell BK216.out 2).trans rfl; have hcz37_3 : w35.cell? ⟨gb216, 3, none⟩ = some (.int .u64 0) := (blk_cell BK216.out 3).trans rfl; have hcz37_4 : w35.cell? ⟨gb216, 4, none⟩ = some (.string (⟨#[]⟩ : ByteArray)) := (blk_cell BK216.out 4).trans rfl; have hcz37_5 : w35.cell? ⟨gb216, 5, none⟩ = some (.string (⟨#[]⟩ : ByteArray)) := (blk_cell BK216.out 5).trans rfl; have hfz37_0 := blk_frozen BK216.out 0; have hfz37_1 := blk_frozen BK216.out 1; have hfz37_2 := blk_frozen BK216.out 2; have hfz37_3 := blk_frozen BK216.out 3; have hfz37_4 := blk_frozen BK216.out 4; have hfz37_5 := blk_frozen BK216.out 5))
                                have n0_ : Aside0 (((((((w35.setCell ⟨gb216, 0, none⟩ (.int .i64 ((rd_T114 l0_3 x35_1).f0))).setCell ⟨gb216, 1, none⟩ (.int .u64 ((rd_T114 l0_3 x35_1).f1.f0))).setCell ⟨gb216, 2, none⟩ (.int .u64 ((rd_T114 l0_3 x35_1).f1.f1))).setCell ⟨gb216, 3, none⟩ (.int .u64 ((rd_T114 l0_3 x35_1).f1.f2))).setCell ⟨gb216, 4, none⟩ (.string ((rd_T114 l0_3 x35_1).f1.f3))).setCell ⟨gb216, 5, none⟩ (.string ((rd_T114 l0_3 x35_1).f1.f4))).heap[gb209]? = some (.cells #[.int .u64 a0_0, .int .u64 a0_1, .int .u64 a0_2, .slice (some ad215) l0_3.length c0_3, .slice A0_4 l0_4.length c0_4] 36 (0, 0))) := ⟨by (with_reducible repeat (first | refine blk_drewN ?_ _ | refine blk_drew ?_ | refine blk_alloc ?_ _)); refine blk_far ?_ NB209_216.out _; (with_reducible repeat (first | refine blk_drewN ?_ _ | refine blk_drew ?_ | refine blk_alloc ?_ _)); refine blk_far ?_ NB209_216.out _; (with_reducible repeat (first | refine blk_drewN ?_ _ | refine blk_drew ?_ | refine blk_alloc ?_ _)); refine blk_far ?_ NB209_216.out _; (with_reducible repeat (first | refine blk_drewN ?_ _ | refine blk_drew ?_ | refine blk_alloc ?_ _)); refine blk_far ?_ NB209_216.out _; (with_reducible repeat (first | refine blk_drewN ?_ _ | refine blk_drew ?_ | refine blk_alloc ?_ _)); refine blk_far ?_ NB209_216.out _; (with_reducible repeat (first | refine blk_drewN ?_ _ | refine blk_drew ?_ | refine blk_alloc ?_ _)); refine blk_far ?_ NB209_216.out _; (with_reducible repeat (first | refine blk_drewN ?_ _ | refine blk_drew ?_ | refine blk_alloc ?_ _)); exact BK209.out⟩
                                have n1_ : Aside0 (((((((w35.setCell ⟨gb216, 0, none⟩ (.int .i64 ((rd_T114 l0_3 x35_1).f0))).setCell ⟨gb216, 1, none⟩ (.int .u64 ((rd_T114 l0_3 x35_1).f1.f0))).setCell ⟨gb216, 2, none⟩ (.int .u64 ((rd_T114 l0_3 x35_1).f1.f1))).setCell ⟨gb216, 3, none⟩ (.int .u64 ((rd_T114 l0_3 x35_1).f1.f2))).setCell ⟨gb216, 4, none⟩ (.string ((rd_T114 l0_3 x35_1).f1.f3))).setCell ⟨gb216, 5, none⟩ (.string ((rd_T114 l0_3 x35_1).f1.f4))).heap[gb216]? = some (.cells #[.int .i64 ((rd_T114 l0_3 x35_1).f0), .int .u64 ((rd_T114 l0_3 x35_1).f1.f0), .int .u64 ((rd_T114 l0_3 x35_1).f1.f1), .int .u64 ((rd_T114 l0_3 x35_1).f1.f2), .string ((rd_T114 l0_3 x35_1).f1.f3), .string ((rd_T114 l0_3 x35_1).f1.f4)] 114 (0, 0))) := ⟨by (with_reducible repeat (first | refine blk_drewN ?_ _ | refine blk_drew ?_ | refine blk_alloc ?_ _)); refine blk_put (cs := #[.int .i64 ((rd_T114 l0_3 x35_1).f0), .int .u64 ((rd_T114 l0_3 x35_1).f1.f0), .int .u64 ((rd_T114 l0_3 x35_1).f1.f1), .int .u64 ((rd_T114 l0_3 x35_1).f1.f2), .string ((rd_T114 l0_3 x35_1).f1.f3), .string (⟨#[]⟩ : ByteArray)]) ?_ 5 _ rfl; (with_reducible repeat (first | refine blk_drewN ?_ _ | refine blk_drew ?_ | refine blk_alloc ?_ _)); refine blk_put (cs := #[.int .i64 ((rd_T114 l0_3 x35_1).f0), .int .u64 ((rd_T114 l0_3 x35_1).f1.f0), .int .u64 ((rd_T114 l0_3 x35_1).f1.f1), .int .u64 ((rd_T114 l0_3 x35_1).f1.f2), .string (⟨#[]⟩ : ByteArray), .string (⟨#[]⟩ : ByteArray)]) ?_ 4 _ rfl; (with_reducible repeat (first | refine blk_drewN ?_ _ | refine blk_drew ?_ | refine blk_alloc ?_ _)); refine blk_put (cs := #[.int .i64 ((rd_T114 l0_3 x35_1).f0), .int .u64 ((rd_T114 l0_3 x35_1).f1.f0), .int .u64 ((rd_T114 l0_3 x35_1).f1.f1), .int .u64 0, .string (⟨#[]⟩ : ByteArray), .string (⟨#[]⟩ : ByteArray)]) ?_ 3 _ rfl; (with_reducible repeat (first | refine blk_drewN ?_ _ | refine blk_drew ?_ | refine blk_alloc ?_ _)); refine blk_put (cs := #[.int .i64 ((rd_T114 l0_3 x35_1).f0), .int .u64 ((rd_T114 l0_3 x35_1).f1.f0), .int .u64 0, .int .u64 0, .string (⟨#[]⟩ : ByteArray), .string (⟨#[]⟩ : ByteArray)]) ?_ 2 _ rfl; (with_reducible repeat (first | refine blk_drewN ?_ _ | refine blk_drew ?_ | refine blk_alloc ?_ _)); refine blk_put (cs := #[.int .i64 ((rd_T114 l0_3 x35_1).f0), .int .u64 0, .int .u64 0, .int .u64 0, .string (⟨#[]⟩ : ByteArray), .string (⟨#[]⟩ : ByteArray)]) ?_ 1 _ rfl; (with_reducible repeat (first | refine blk_drewN ?_ _ | refine blk_drew ?_ | refine blk_alloc ?_ _)); refine blk_put (cs := #[.int .i64 0, .int .u64 0, .int .u64 0, .int .u64 0, .string (⟨#[]⟩ : ByteArray), .string (⟨#[]⟩ : ByteArray)]) ?_ 0 _ rfl; (with_reducible repeat (first | refine blk_drewN ?_ _ | refine blk_drew ?_ | refine blk_alloc ?_ _)); exact BK216.out⟩
                                have n2_ : Aside0 (Below w.heap.size w ((((((w35.setCell ⟨gb216, 0, none⟩ (.int .i64 ((rd_T114 l0_3 x35_1).f0))).setCell ⟨gb216, 1, none⟩ (.int .u64 ((rd_T114 l0_3 x35_1).f1.f0))).setCell ⟨gb216, 2, none⟩ (.int .u64 ((rd_T114 l0_3 x35_1).f1.f1))).setCell ⟨gb216, 3, none⟩ (.int .u64 ((rd_T114 l0_3 x35_1).f1.f2))).setCell ⟨gb216, 4, none⟩ (.string ((rd_T114 l0_3 x35_1).f1.f3))).setCell ⟨gb216, 5, none⟩ (.string ((rd_T114 l0_3 x35_1).f1.f4)))) := ⟨by repeat (first | (with_reducible first | exact HB.out | apply below_alloc | apply pw_below_drewN | apply below_drew1 | refine below_set ?_ GE209.out | refine below_set ?_ GE216.out) | exact HB.out)⟩
                                (try clear BK209)
                                (try clear BK216)
                                (try clear HB)
                                generalize ((((((w35.setCell ⟨gb216, 0, none⟩ (.int .i64 ((rd_T114 l0_3 x35_1).f0))).setCell ⟨gb216, 1, none⟩ (.int .u64 ((rd_T114 l0_3 x35_1).f1.f0))).setCell ⟨gb216, 2, none⟩ (.int .u64 ((rd_T114 l0_3 x35_1).f1.f1))).setCell ⟨gb216, 3, none⟩ (.int .u64 ((rd_T114 l0_3 x35_1).f1.f2))).setCell ⟨gb216, 4, none⟩ (.string ((rd_T114 l0_3 x35_1).f1.f3))).setCell ⟨gb216, 5, none⟩ (.string ((rd_T114 l0_3 x35_1).f1.f4))) = w38 at n0_ n1_ n2_ ⊢
                                have BK209 := n0_
                                have BK216 := n1_
                                have HB := n2_
                                clear n0_ n1_ n2_
                                have n0_ := Aside0.mk (blk_drew BK209.out)
                                have n1_ := Aside0.mk (blk_drew BK216.out)
                                have n2_ := Aside0.mk (below_drew1 HB.out)
                                clear BK209
                                clear BK216
                                clear HB
                                have BK209 := n0_
                                have BK216 := n1_
                                have HB := n2_
                                clear n0_ n1_ n2_
                                refine start_ (n := 32) (S := fun w' => w'.cell? ⟨gb216, 0, none⟩ = some (.int .i64 ((rd_T114 l0_3 x35_1).f0)) ∧ w'.cell? ⟨gb216, 1, none⟩ = some (.int .u64 ((rd_T114 l0_3 x35_1).f1.f0)) ∧ w'.cell? ⟨gb216, 2, none⟩ = some (.int .u64 ((rd_T114 l0_3 x35_1).f1.f1)) ∧ w'.cell? ⟨gb216, 3, none⟩ = some (.int .u64 ((rd_T114 l0_3 x35_1).f1.f2)) ∧ w'.cell? ⟨gb216, 4, none⟩ = some (.string ((rd_T114 l0_3 x35_1).f1.f3)) ∧ w'.cell? ⟨gb216, 5, none⟩ = some (.string ((rd_T114 l0_3 x35_1).f1.f4))) (ds := []) #[false, false, false, false, false, false, false, false, false, false, false, false, false, false, false, false, false, false, false, false, false, false, false, false, false, false, false, false, false, false, false, false] (by kernel_rfl) rfl rfl ⟨(blk_cell BK216.out 0).trans rfl, (blk_cell BK216.out 1).trans rfl, (blk_cell BK216.out 2).trans rfl, (blk_cell BK216.out 3).trans rfl, (blk_cell BK216.out 4).trans rfl, (blk_cell BK216.out 5).trans rfl⟩ (fun hHeld => ?_); refine with_tabW bourseref12_Edit_Bytes.tab8 bourseref12_Edit_Bytes.bits8 (fun HT_ HW_ => ?_)
                                generalize w38.drew = w39 at BK209 BK216 HB hHeld ⊢
                                refine pure_ (i := 0) (N := some 39) (v := ?_) (a' := ?_) #[true, false, false, false, false, false, false, false, false, false, false, false, false, false, false, false, false, false, false, false, false, false, false, false, false, false, false, false, false, false, false, false] rfl rfl (any_of HT_.out (by kernel_rfl)) (fun _ _ _ h => h) (Or.inl ⟨by rfl, ?_⟩) ?_ ?_
                                rotate_left
                                · intro w'
                                  go_simp
                                  with_reducible rfl
                                rotate_left
                                · simp only [Act.put, List.setIfInBounds_toArray, List.set_cons_zero, List.set_cons_succ, i64_w, i32_w]
                                  rfl
                                refine pure_ (i := 1) (N := some 40) (v := ?_) (a' := ?_) #[true, true, false, false, false, false, false, false, false, false, false, false, false, false, false, false, false, false, false, false, false, false, false, false, false, false, false, false, false, false, false, false] rfl rfl (any_of HT_.out (by kernel_rfl)) (fun _ _ _ h => h) (Or.inl ⟨by rfl, ?_⟩) ?_ ?_
                                rotate_left
                                · intro w'
                                  go_simp
                                  with_reducible rfl
                                rotate_left
                                · simp only [Act.put, List.setIfInBounds_toArray, List.set_cons_zero, List.set_cons_succ, i64_w, i32_w]
                                  rfl
                                refine pure_ (i := 6) (N := some 45) (v := ?_) (a' := ?_) #[true, true, false, false, false, false, true, false, false, false, false, false, false, false, false, false, false, false, false, false, false, false, false, false, false, false, false, false, false, false, false, false] rfl rfl (any_of HT_.out (by kernel_rfl)) (fun _ _ _ h => h) (Or.inl ⟨by rfl, ?_⟩) ?_ ?_
                                rotate_left
                                · intro w'
                                  go_simp
                                  with_reducible rfl
                                rotate_left
                                · simp only [Act.put, List.setIfInBounds_toArray, List.set_cons_zero, List.set_cons_succ, i64_w, i32_w]
                                  rfl
                                refine pure_ (i := 7) (N := some 46) (v := ?_) (a' := ?_) #[true, true, false, false, false, false, true, true, false, false, false, false, false, false, false, false, false, false, false, false, false, false, false, false, false, false, false, false, false, false, false, false] rfl rfl (any_of HT_.out (by kernel_rfl)) (fun _ _ _ h => h) (Or.inl ⟨by rfl, ?_⟩) ?_ ?_
                                rotate_left
                                · intro w'
                                  go_simp
                                  with_reducible rfl
                                rotate_left
                                · simp only [Act.put, List.setIfInBounds_toArray, List.set_cons_zero, List.set_cons_succ, i64_w, i32_w]
                                  rfl
                                refine pure_ (i := 11) (N := some 50) (v := ?_) (a' := ?_) #[true, true, false, false, false, false, true, true, false, false, false, true, false, false, false, false, false, false, false, false, false, false, false, false, false, false, false, false, false, false, false, false] rfl rfl (any_of HT_.out (by kernel_rfl)) (fun _ _ _ h => h) (Or.inl ⟨by rfl, ?_⟩) ?_ ?_
                                rotate_left
                                · intro w'
                                  go_simp
                                  with_reducible rfl
                                rotate_left
                                · simp only [Act.put, List.setIfInBounds_toArray, List.set_cons_zero, List.set_cons_succ, i64_w, i32_w]
                                  rfl
                                refine pure_ (i := 12) (N := some 51) (v := ?_) (a' := ?_) #[true, true, false, false, false, false, true, true, false, false, false, true, true, false, false, false, false, false, false, false, false, false, false, false, false, false, false, false, false, false, false, false] rfl rfl (any_of HT_.out (by kernel_rfl)) (fun _ _ _ h => h) (Or.inl ⟨by rfl, ?_⟩) ?_ ?_
                                rotate_left
                                · intro w'
                                  go_simp
                                  with_reducible rfl
                                rotate_left
                                · simp only [Act.put, List.setIfInBounds_toArray, List.set_cons_zero, List.set_cons_succ, i64_w, i32_w]
                                  rfl
                                refine pure_ (i := 16) (N := some 55) (v := ?_) (a' := ?_) #[true, true, false, false, false, false, true, true, false, false, false, true, true, false, false, false, true, false, false, false, false, false, false, false, false, false, false, false, false, false, false, false] rfl rfl (any_of HT_.out (by kernel_rfl)) (fun _ _ _ h => h) (Or.inl ⟨by rfl, ?_⟩) ?_ ?_
                                rotate_left
                                · intro w'
                                  go_simp
                                  with_reducible rfl
                                rotate_left
                                · simp only [Act.put, List.setIfInBounds_toArray, List.set_cons_zero, List.set_cons_succ, i64_w, i32_w]
                                  rfl
                                refine pure_ (i := 17) (N := some 56) (v := ?_) (a' := ?_) #[true, true, false, false, false, false, true, true, false, false, false, true, true, false, false, false, true, true, false, false, false, false, false, false, false, false, false, false, false, false, false, false] rfl rfl (any_of HT_.out (by kernel_rfl)) (fun _ _ _ h => h) (Or.inl ⟨by rfl, ?_⟩) ?_ ?_
                                rotate_left
                                · intro w'
                                  go_simp
                                  with_reducible rfl
                                rotate_left
                                · simp only [Act.put, List.setIfInBounds_toArray, List.set_cons_zero, List.set_cons_succ, i64_w, i32_w]
                                  rfl
                                refine pure_ (i := 21) (N := some 60) (v := ?_) (a' := ?_) #[true, true, false, false, false, false, true, true, false, false, false, true, true, false, false, false, true, true, false, false, false, true, false, false, false, false, false, false, false, false, false, false] rfl rfl (any_of HT_.out (by kernel_rfl)) (fun _ _ _ h => h) (Or.inl ⟨by rfl, ?_⟩) ?_ ?_
                                rotate_left
                                · intro w'
                                  go_simp
                                  with_reducible rfl
                                rotate_left
                                · simp only [Act.put, List.setIfInBounds_toArray, List.set_cons_zero, List.set_cons_succ, i64_w, i32_w]
                                  rfl
                                refine pure_ (i := 22) (N := some 61) (v := ?_) (a' := ?_) #[true, true, false, false, false, false, true, true, false, false, false, true, true, false, false, false, true, true, false, false, false, true, true, false, false, false, false, false, false, false, false, false] rfl rfl (any_of HT_.out (by kernel_rfl)) (fun _ _ _ h => h) (Or.inl ⟨by rfl, ?_⟩) ?_ ?_
                                rotate_left
                                · intro w'
                                  go_simp
                                  with_reducible rfl
                                rotate_left
                                · simp only [Act.put, List.setIfInBounds_toArray, List.set_cons_zero, List.set_cons_succ, i64_w, i32_w]
                                  rfl
                                refine pure_ (i := 26) (N := some 65) (v := ?_) (a' := ?_) #[true, true, false, false, false, false, true, true, false, false, false, true, true, false, false, false, true, true, false, false, false, true, true, false, false, false, true, false, false, false, false, false] rfl rfl (any_of HT_.out (by kernel_rfl)) (fun _ _ _ h => h) (Or.inl ⟨by rfl, ?_⟩) ?_ ?_
                                rotate_left
                                · intro w'
                                  go_simp
                                  with_reducible rfl
                                rotate_left
                                · simp only [Act.put, List.setIfInBounds_toArray, List.set_cons_zero, List.set_cons_succ, i64_w, i32_w]
                                  rfl
                                refine pure_ (i := 27) (N := some 66) (v := ?_) (a' := ?_) #[true, true, false, false, false, false, true, true, false, false, false, true, true, false, false, false, true, true, false, false, false, true, true, false, false, false, true, true, false, false, false, false] rfl rfl (any_of HT_.out (by kernel_rfl)) (fun _ _ _ h => h) (Or.inl ⟨by rfl, ?_⟩) ?_ ?_
                                rotate_left
                                · intro w'
                                  go_simp
                                  with_reducible rfl
                                rotate_left
                                · simp only [Act.put, List.setIfInBounds_toArray, List.set_cons_zero, List.set_cons_succ, i64_w, i32_w]
                                  rfl
                                refine take_ (i := 2) (N := some 41) (v := ?_) (a' := ?_) #[true, true, true, false, false, false, true, true, false, false, false, true, true, false, false, false, true, true, false, false, false, true, true, false, false, false, true, true, false, false, false, false] rfl rfl (take_ofW HT_.out HW_.out (by kernel_rfl)) (fun _ _ _ h => h) (Or.inl ⟨by rfl, ?_⟩) hHeld ?_ ?_
                                rotate_left
                                · rintro w' ⟨s0, s1, s2, s3, s4, s5⟩
                                  go_simp
                                  with_reducible rfl
                                rotate_left
                                · simp only [Act.put, List.setIfInBounds_toArray, List.set_cons_zero, List.set_cons_succ, i64_w, i32_w]
                                  rfl
                                refine pure_ (i := 3) (N := some 42) (v := ?_) (a' := ?_) #[true, true, true, true, false, false, true, true, false, false, false, true, true, false, false, false, true, true, false, false, false, true, true, false, false, false, true, true, false, false, false, false] rfl rfl (any_of HT_.out (by kernel_rfl)) (fun _ _ _ h => h) (Or.inl ⟨by rfl, ?_⟩) ?_ ?_
                                rotate_left
                                · intro w'
                                  go_simp
                                  with_reducible rfl
                                rotate_left
                                · simp only [Act.put, List.setIfInBounds_toArray, List.set_cons_zero, List.set_cons_succ, i64_w, i32_w]
                                  rfl
                                refine take_ (i := 8) (N := some 47) (v := ?_) (a' := ?_) #[true, true, true, true, false, false, true, true, true, false, false, true, true, false, false, false, true, true, false, false, false, true, true, false, false, false, true, true, false, false, false, false] rfl rfl (take_ofW HT_.out HW_.out (by kernel_rfl)) (fun _ _ _ h => h) (Or.inl ⟨by rfl, ?_⟩) hHeld ?_ ?_
                                rotate_left
                                · rintro w' ⟨s0, s1, s2, s3, s4, s5⟩
                                  go_simp
                                  with_reducible rfl
                                rotate_left
                                · simp only [Act.put, List.setIfInBounds_toArray, List.set_cons_zero, List.set_cons_succ, i64_w, i32_w]
                                  rfl
                                refine take_ (i := 13) (N := some 52) (v := ?_) (a' := ?_) #[true, true, true, true, false, false, true, true, true, false, false, true, true, true, false, false, true, true, false, false, false, true, true, false, false, false, true, true, false, false, false, false] rfl rfl (take_ofW HT_.out HW_.out (by kernel_rfl)) (fun _ _ _ h => h) (Or.inl ⟨by rfl, ?_⟩) hHeld ?_ ?_
                                rotate_left
                                · rintro w' ⟨s0, s1, s2, s3, s4, s5⟩
                                  go_simp
                                  with_reducible rfl
                                rotate_left
                                · simp only [Act.put, List.setIfInBounds_toArray, List.set_cons_zero, List.set_cons_succ, i64_w, i32_w]
                                  rfl
                                refine take_ (i := 18) (N := some 57) (v := ?_) (a' := ?_) #[true, true, true, true, false, false, true, true, true, false, false, true, true, true, false, false, true, true, true, false, false, true, true, false, false, false, true, true, false, false, false, false] rfl rfl (take_ofW HT_.out HW_.out (by kernel_rfl)) (fun _ _ _ h => h) (Or.inl ⟨by rfl, ?_⟩) hHeld ?_ ?_
                                rotate_left
                                · rintro w' ⟨s0, s1, s2, s3, s4, s5⟩
                                  go_simp
                                  with_reducible rfl
                                rotate_left
                                · simp only [Act.put, List.setIfInBounds_toArray, List.set_cons_zero, List.set_cons_succ, i64_w, i32_w]
                                  rfl
                                refine take_ (i := 23) (N := some 62) (v := ?_) (a' := ?_) #[true, true, true, true, false, false, true, true, true, false, false, true, true, true, false, false, true, true, true, false, false, true, true, true, false, false, true, true, false, false, false, false] rfl rfl (take_ofW HT_.out HW_.out (by kernel_rfl)) (fun _ _ _ h => h) (Or.inl ⟨by rfl, ?_⟩) hHeld ?_ ?_
                                rotate_left
                                · rintro w' ⟨s0, s1, s2, s3, s4, s5⟩
                                  go_simp
                                  with_reducible rfl
                                rotate_left
                                · simp only [Act.put, List.setIfInBounds_toArray, List.set_cons_zero, List.set_cons_succ, i64_w, i32_w]
                                  rfl
                                refine take_ (i := 28) (N := some 67) (v := ?_) (a' := ?_) #[true, true, true, true, false, false, true, true, true, false, false, true, true, true, false, false, true, true, true, false, false, true, true, true, false, false, true, true, true, false, false, false] rfl rfl (take_ofW HT_.out HW_.out (by kernel_rfl)) (fun _ _ _ h => h) (Or.inl ⟨by rfl, ?_⟩) hHeld ?_ ?_
                                rotate_left
                                · rintro w' ⟨s0, s1, s2, s3, s4, s5⟩
                                  go_simp
                                  with_reducible rfl
                                rotate_left
                                · simp only [Act.put, List.setIfInBounds_toArray, List.set_cons_zero, List.set_cons_succ, i64_w, i32_w]
                                  rfl
                                refine one_ (i := 4) (N := some 43) #[true, true, true, true, true, false, true, true, true, false, false, true, true, true, false, false, true, true, true, false, false, true, true, true, false, false, true, true, true, false, false, false] rfl rfl (one_of HT_.out (by kernel_rfl)) (by decide) (fun K hK => ?_)
                                refine goes_ Tryd.func53 (by kernel_rfl) rfl #[.int .u64 (IntKind.u64.wrap ((rd_T114 l0_3 x35_1).f0))] (by rfl) rfl rfl (by (try simp only [List.map_toArray, List.map_cons, List.map_nil]); first | done | rfl | (simp only [List.length_drop, List.length_take]; rfl)) ?_
                                with_reducible refine (bourseref03_Num.calls k1 (IntKind.u64.wrap ((rd_T114 l0_3 x35_1).f0)) t217 _ A23.out).mono ?_
                                rintro e w40 ⟨rfl, hb⟩
                                refine ⟨_, rfl, ?_⟩
                                have n0_ := Aside0.mk (blk_below (g := gb209) (o := .cells #[.int .u64 a0_0, .int .u64 a0_1, .int .u64 a0_2, .slice (some ad215) l0_3.length c0_3, .slice A0_4 l0_4.length c0_4] 36 (0, 0)) (by (with_reducible repeat (first | refine blk_drewN ?_ _ | refine blk_drew ?_ | refine blk_alloc ?_ _)); exact BK209.out) hb)
                                have n1_ := Aside0.mk (blk_below (g := gb216) (o := .cells #[.int .i64 ((rd_T114 l0_3 x35_1).f0), .int .u64 ((rd_T114 l0_3 x35_1).f1.f0), .int .u64 ((rd_T114 l0_3 x35_1).f1.f1), .int .u64 ((rd_T114 l0_3 x35_1).f1.f2), .string ((rd_T114 l0_3 x35_1).f1.f3), .string ((rd_T114 l0_3 x35_1).f1.f4)] 114 (0, 0)) (by (with_reducible repeat (first | refine blk_drewN ?_ _ | refine blk_drew ?_ | refine blk_alloc ?_ _)); exact BK216.out) hb)
                                have n2_ := Aside0.mk (below_step (by repeat (first | (with_reducible first | exact HB.out | apply below_alloc | apply pw_below_drewN | apply below_drew1 | refine below_set ?_ GE209.out | refine below_set ?_ GE216.out) | exact HB.out)) hb)
                                clear BK209
                                clear BK216
                                clear HB
                                have BK209 := n0_
                                have BK216 := n1_
                                have HB := n2_
                                clear n0_ n1_ n2_
                                (try clear hb)
                                (try clear hb2)
                                (try clear hk)
                                (try clear hi)
                                refine hK.out _ _ ⟨(blk_cell BK216.out 0).trans rfl, (blk_cell BK216.out 1).trans rfl, (blk_cell BK216.out 2).trans rfl, (blk_cell BK216.out 3).trans rfl, (blk_cell BK216.out 4).trans rfl, (blk_cell BK216.out 5).trans rfl⟩ (fun hHeld => ?_)
                                clear hK K
                                refine norm_ (a' := ?_) ?_ ?_
                                rotate_left
                                · show Act.put _ (some 43) _ = _
                                  simp only [Act.put, List.setIfInBounds_toArray, List.set_cons_zero, List.set_cons_succ, i64_w, i32_w]
                                  rfl
                                refine pure_ (i := 5) (N := some 44) (v := ?_) (a' := ?_) #[true, true, true, true, true, true, true, true, true, false, false, true, true, true, false, false, true, true, true, false, false, true, true, true, false, false, true, true, true, false, false, false] rfl rfl (any_of HT_.out (by kernel_rfl)) (fun _ _ _ h => h) (Or.inl ⟨by rfl, ?_⟩) ?_ ?_
                                rotate_left
                                · intro w'
                                  go_simp
                                  with_reducible rfl
                                rotate_left
                                · simp only [Act.put, List.setIfInBounds_toArray, List.set_cons_zero, List.set_cons_succ, i64_w, i32_w]
                                  rfl
                                refine one_ (i := 9) (N := some 48) #[true, true, true, true, true, true, true, true, true, true, false, true, true, true, false, false, true, true, true, false, false, true, true, true, false, false, true, true, true, false, false, false] rfl rfl (one_of HT_.out (by kernel_rfl)) (by decide) (fun K hK => ?_)
                                refine goes_ Tryd.func53 (by kernel_rfl) rfl #[.int .u64 ((rd_T114 l0_3 x35_1).f1.f0)] (by rfl) rfl rfl (by (try simp only [List.map_toArray, List.map_cons, List.map_nil]); first | done | rfl | (simp only [List.length_drop, List.length_take]; rfl)) ?_
                                with_reducible refine (bourseref03_Num.calls k1 ((rd_T114 l0_3 x35_1).f1.f0) t218 _ A25.out).mono ?_
                                rintro e w41 ⟨rfl, hb⟩
                                refine ⟨_, rfl, ?_⟩
                                have n0_ := Aside0.mk (blk_below (g := gb209) (o := .cells #[.int .u64 a0_0, .int .u64 a0_1, .int .u64 a0_2, .slice (some ad215) l0_3.length c0_3, .slice A0_4 l0_4.length c0_4] 36 (0, 0)) (by (with_reducible repeat (first | refine blk_drewN ?_ _ | refine blk_drew ?_ | refine blk_alloc ?_ _)); exact BK209.out) hb)
                                have n1_ := Aside0.mk (blk_below (g := gb216) (o := .cells #[.int .i64 ((rd_T114 l0_3 x35_1).f0), .int .u64 ((rd_T114 l0_3 x35_1).f1.f0), .int .u64 ((rd_T114 l0_3 x35_1).f1.f1), .int .u64 ((rd_T114 l0_3 x35_1).f1.f2), .string ((rd_T114 l0_3 x35_1).f1.f3), .string ((rd_T114 l0_3 x35_1).f1.f4)] 114 (0, 0)) (by (with_reducible repeat (first | refine blk_drewN ?_ _ | refine blk_drew ?_ | refine blk_alloc ?_ _)); exact BK216.out) hb)
                                have n2_ := Aside0.mk (below_step (by repeat (first | (with_reducible first | exact HB.out | apply below_alloc | apply pw_below_drewN | apply below_drew1 | refine below_set ?_ GE209.out | refine below_set ?_ GE216.out) | exact HB.out)) hb)
                                clear BK209
                                clear BK216
                                clear HB
                                have BK209 := n0_
                                have BK216 := n1_
                                have HB := n2_
                                clear n0_ n1_ n2_
                                (try clear hb)
                                (try clear hb2)
                                (try clear hk)
                                (try clear hi)
                                refine hK.out _ _ ⟨(blk_cell BK216.out 0).trans rfl, (blk_cell BK216.out 1).trans rfl, (blk_cell BK216.out 2).trans rfl, (blk_cell BK216.out 3).trans rfl, (blk_cell BK216.out 4).trans rfl, (blk_cell BK216.out 5).trans rfl⟩ (fun hHeld => ?_)
                                clear hK K
                                refine norm_ (a' := ?_) ?_ ?_
                                rotate_left
                                · show Act.put _ (some 48) _ = _
                                  simp only [Act.put, List.setIfInBounds_toArray, List.set_cons_zero, List.set_cons_succ, i64_w, i32_w]
                                  rfl
                                refine pure_ (i := 10) (N := some 49) (v := ?_) (a' := ?_) #[true, true, true, true, true, true, true, true, true, true, true, true, true, true, false, false, true, true, true, false, false, true, true, true, false, false, true, true, true, false, false, false] rfl rfl (any_of HT_.out (by kernel_rfl)) (fun _ _ _ h => h) (Or.inl ⟨by rfl, ?_⟩) ?_ ?_
                                rotate_left
                                · intro w'
                                  go_simp
                                  with_reducible rfl
                                rotate_left
                                · simp only [Act.put, List.setIfInBounds_toArray, List.set_cons_zero, List.set_cons_succ, i64_w, i32_w]
                                  rfl
                                refine one_ (i := 14) (N := some 53) #[true, true, true, true, true, true, true, true, true, true, true, true, true, true, true, false, true, true, true, false, false, true, true, true, false, false, true, true, true, false, false, false] rfl rfl (one_of HT_.out (by kernel_rfl)) (by decide) (fun K hK => ?_)
                                refine goes_ Tryd.func53 (by kernel_rfl) rfl #[.int .u64 ((rd_T114 l0_3 x35_1).f1.f1)] (by rfl) rfl rfl (by (try simp only [List.map_toArray, List.map_cons, List.map_nil]); first | done | rfl | (simp only [List.length_drop, List.length_take]; rfl)) ?_
                                with_reducible refine (bourseref03_Num.calls k1 ((rd_T114 l0_3 x35_1).f1.f1) t219 _ A27.out).mono ?_
                                rintro e w42 ⟨rfl, hb⟩
                                refine ⟨_, rfl, ?_⟩
                                have n0_ := Aside0.mk (blk_below (g := gb209) (o := .cells #[.int .u64 a0_0, .int .u64 a0_1, .int .u64 a0_2, .slice (some ad215) l0_3.length c0_3, .slice A0_4 l0_4.length c0_4] 36 (0, 0)) (by (with_reducible repeat (first | refine blk_drewN ?_ _ | refine blk_drew ?_ | refine blk_alloc ?_ _)); exact BK209.out) hb)
                                have n1_ := Aside0.mk (blk_below (g := gb216) (o := .cells #[.int .i64 ((rd_T114 l0_3 x35_1).f0), .int .u64 ((rd_T114 l0_3 x35_1).f1.f0), .int .u64 ((rd_T114 l0_3 x35_1).f1.f1), .int .u64 ((rd_T114 l0_3 x35_1).f1.f2), .string ((rd_T114 l0_3 x35_1).f1.f3), .string ((rd_T114 l0_3 x35_1).f1.f4)] 114 (0, 0)) (by (with_reducible repeat (first | refine blk_drewN ?_ _ | refine blk_drew ?_ | refine blk_alloc ?_ _)); exact BK216.out) hb)
                                have n2_ := Aside0.mk (below_step (by repeat (first | (with_reducible first | exact HB.out | apply below_alloc | apply pw_below_drewN | apply below_drew1 | refine below_set ?_ GE209.out | refine below_set ?_ GE216.out) | exact HB.out)) hb)
                                clear BK209
                                clear BK216
                                clear HB
                                have BK209 := n0_
                                have BK216 := n1_
                                have HB := n2_
                                clear n0_ n1_ n2_
                                (try clear hb)
                                (try clear hb2)
                                (try clear hk)
                                (try clear hi)
                                refine hK.out _ _ ⟨(blk_cell BK216.out 0).trans rfl, (blk_cell BK216.out 1).trans rfl, (blk_cell BK216.out 2).trans rfl, (blk_cell BK216.out 3).trans rfl, (blk_cell BK216.out 4).trans rfl, (blk_cell BK216.out 5).trans rfl⟩ (fun hHeld => ?_)
                                clear hK K
                                refine norm_ (a' := ?_) ?_ ?_
                                rotate_left
                                · show Act.put _ (some 53) _ = _
                                  simp only [Act.put, List.setIfInBounds_toArray, List.set_cons_zero, List.set_cons_succ, i64_w, i32_w]
                                  rfl
                                refine pure_ (i := 15) (N := some 54) (v := ?_) (a' := ?_) #[true, true, true, true, true, true, true, true, true, true, true, true, true, true, true, true, true, true, true, false, false, true, true, true, false, false, true, true, true, false, false, false] rfl rfl (any_of HT_.out (by kernel_rfl)) (fun _ _ _ h => h) (Or.inl ⟨by rfl, ?_⟩) ?_ ?_
                                rotate_left
                                · intro w'
                                  go_simp
                                  with_reducible rfl
                                rotate_left
                                · simp only [Act.put, List.setIfInBounds_toArray, List.set_cons_zero, List.set_cons_succ, i64_w, i32_w]
                                  rfl
                                refine one_ (i := 19) (N := some 58) #[true, true, true, true, true, true, true, true, true, true, true, true, true, true, true, true, true, true, true, true, false, true, true, true, false, false, true, true, true, false, false, false] rfl rfl (one_of HT_.out (by kernel_rfl)) (by decide) (fun K hK => ?_)
                                refine goes_ Tryd.func53 (by kernel_rfl) rfl #[.int .u64 ((rd_T114 l0_3 x35_1).f1.f2)] (by rfl) rfl rfl (by (try simp only [List.map_toArray, List.map_cons, List.map_nil]); first | done | rfl | (simp only [List.length_drop, List.length_take]; rfl)) ?_
                                with_reducible refine (bourseref03_Num.calls k1 ((rd_T114 l0_3 x35_1).f1.f2) t220 _ A29.out).mono ?_
                                rintro e w43 ⟨rfl, hb⟩
                                refine ⟨_, rfl, ?_⟩
                                have n0_ := Aside0.mk (blk_below (g := gb209) (o := .cells #[.int .u64 a0_0, .int .u64 a0_1, .int .u64 a0_2, .slice (some ad215) l0_3.length c0_3, .slice A0_4 l0_4.length c0_4] 36 (0, 0)) (by (with_reducible repeat (first | refine blk_drewN ?_ _ | refine blk_drew ?_ | refine blk_alloc ?_ _)); exact BK209.out) hb)
                                have n1_ := Aside0.mk (blk_below (g := gb216) (o := .cells #[.int .i64 ((rd_T114 l0_3 x35_1).f0), .int .u64 ((rd_T114 l0_3 x35_1).f1.f0), .int .u64 ((rd_T114 l0_3 x35_1).f1.f1), .int .u64 ((rd_T114 l0_3 x35_1).f1.f2), .string ((rd_T114 l0_3 x35_1).f1.f3), .string ((rd_T114 l0_3 x35_1).f1.f4)] 114 (0, 0)) (by (with_reducible repeat (first | refine blk_drewN ?_ _ | refine blk_drew ?_ | refine blk_alloc ?_ _)); exact BK216.out) hb)
                                have n2_ := Aside0.mk (below_step (by repeat (first | (with_reducible first | exact HB.out | apply below_alloc | apply pw_below_drewN | apply below_drew1 | refine below_set ?_ GE209.out | refine below_set ?_ GE216.out) | exact HB.out)) hb)
                                clear BK209
                                clear BK216
                                clear HB
                                have BK209 := n0_
                                have BK216 := n1_
                                have HB := n2_
                                clear n0_ n1_ n2_
                                (try clear hb)
                                (try clear hb2)
                                (try clear hk)
                                (try clear hi)
                                refine hK.out _ _ ⟨(blk_cell BK216.out 0).trans rfl, (blk_cell BK216.out 1).trans rfl, (blk_cell BK216.out 2).trans rfl, (blk_cell BK216.out 3).trans rfl, (blk_cell BK216.out 4).trans rfl, (blk_cell BK216.out 5).trans rfl⟩ (fun hHeld => ?_)
                                clear hK K
                                refine norm_ (a' := ?_) ?_ ?_
                                rotate_left
                                · show Act.put _ (some 58) _ = _
                                  simp only [Act.put, List.setIfInBounds_toArray, List.set_cons_zero, List.set_cons_succ, i64_w, i32_w]
                                  rfl
                                refine pure_ (i := 20) (N := some 59) (v := ?_) (a' := ?_) #[true, true, true, true, true, true, true, true, true, true, true, true, true, true, true, true, true, true, true, true, true, true, true, true, false, false, true, true, true, false, false, false] rfl rfl (any_of HT_.out (by kernel_rfl)) (fun _ _ _ h => h) (Or.inl ⟨by rfl, ?_⟩) ?_ ?_
                                rotate_left
                                · intro w'
                                  go_simp
                                  with_reducible rfl
                                rotate_left
                                · simp only [Act.put, List.setIfInBounds_toArray, List.set_cons_zero, List.set_cons_succ, i64_w, i32_w]
                                  rfl
                                refine one_ (i := 24) (N := some 63) #[true, true, true, true, true, true, true, true, true, true, true, true, true, true, true, true, true, true, true, true, true, true, true, true, true, false, true, true, true, false, false, false] rfl rfl (one_of HT_.out (by kernel_rfl)) (by decide) (fun K hK => ?_)
                                refine goes_ Tryd.func54 (by kernel_rfl) rfl #[.string ((rd_T114 l0_3 x35_1).f1.f3)] (by rfl) rfl rfl (by (try simp only [List.map_toArray, List.map_cons, List.map_nil]); first | done | rfl | (simp only [List.length_drop, List.length_take]; rfl)) ?_
                                with_reducible refine (bourseref03_Text.calls k1 ((rd_T114 l0_3 x35_1).f1.f3) t221 _ A31.out).mono ?_
                                rintro e w44 ⟨rfl, hb⟩
                                refine ⟨_, rfl, ?_⟩
                                have n0_ := Aside0.mk (blk_below (g := gb209) (o := .cells #[.int .u64 a0_0, .int .u64 a0_1, .int .u64 a0_2, .slice (some ad215) l0_3.length c0_3, .slice A0_4 l0_4.length c0_4] 36 (0, 0)) (by (with_reducible repeat (first | refine blk_drewN ?_ _ | refine blk_drew ?_ | refine blk_alloc ?_ _)); exact BK209.out) hb)
                                have n1_ := Aside0.mk (blk_below (g := gb216) (o := .cells #[.int .i64 ((rd_T114 l0_3 x35_1).f0), .int .u64 ((rd_T114 l0_3 x35_1).f1.f0), .int .u64 ((rd_T114 l0_3 x35_1).f1.f1), .int .u64 ((rd_T114 l0_3 x35_1).f1.f2), .string ((rd_T114 l0_3 x35_1).f1.f3), .string ((rd_T114 l0_3 x35_1).f1.f4)] 114 (0, 0)) (by (with_reducible repeat (first | refine blk_drewN ?_ _ | refine blk_drew ?_ | refine blk_alloc ?_ _)); exact BK216.out) hb)
                                have n2_ := Aside0.mk (below_step (by repeat (first | (with_reducible first | exact HB.out | apply below_alloc | apply pw_below_drewN | apply below_drew1 | refine below_set ?_ GE209.out | refine below_set ?_ GE216.out) | exact HB.out)) hb)
                                clear BK209
                                clear BK216
                                clear HB
                                have BK209 := n0_
                                have BK216 := n1_
                                have HB := n2_
                                clear n0_ n1_ n2_
                                (try clear hb)
                                (try clear hb2)
                                (try clear hk)
                                (try clear hi)
                                refine hK.out _ _ ⟨(blk_cell BK216.out 0).trans rfl, (blk_cell BK216.out 1).trans rfl, (blk_cell BK216.out 2).trans rfl, (blk_cell BK216.out 3).trans rfl, (blk_cell BK216.out 4).trans rfl, (blk_cell BK216.out 5).trans rfl⟩ (fun hHeld => ?_)
                                clear hK K
                                refine norm_ (a' := ?_) ?_ ?_
                                rotate_left
                                · show Act.put _ (some 63) _ = _
                                  simp only [Act.put, List.setIfInBounds_toArray, List.set_cons_zero, List.set_cons_succ, i64_w, i32_w]
                                  rfl
                                refine pure_ (i := 25) (N := some 64) (v := ?_) (a' := ?_) #[true, true, true, true, true, true, true, true, true, true, true, true, true, true, true, true, true, true, true, true, true, true, true, true, true, true, true, true, true, false, false, false] rfl rfl (any_of HT_.out (by kernel_rfl)) (fun _ _ _ h => h) (Or.inl ⟨by rfl, ?_⟩) ?_ ?_
                                rotate_left
                                · intro w'
                                  go_simp
                                  with_reducible rfl
                                rotate_left
                                · simp only [Act.put, List.setIfInBounds_toArray, List.set_cons_zero, List.set_cons_succ, i64_w, i32_w]
                                  rfl
                                refine one_ (i := 29) (N := some 68) #[true, true, true, true, true, true, true, true, true, true, true, true, true, true, true, true, true, true, true, true, true, true, true, true, true, true, true, true, true, true, false, false] rfl rfl (one_of HT_.out (by kernel_rfl)) (by decide) (fun K hK => ?_)
                                refine goes_ Tryd.func54 (by kernel_rfl) rfl #[.string ((rd_T114 l0_3 x35_1).f1.f4)] (by rfl) rfl rfl (by (try simp only [List.map_toArray, List.map_cons, List.map_nil]); first | done | rfl | (simp only [List.length_drop, List.length_take]; rfl)) ?_
                                with_reducible refine (bourseref03_Text.calls k1 ((rd_T114 l0_3 x35_1).f1.f4) t222 _ A33.out).mono ?_
                                rintro e w45 ⟨rfl, hb⟩
                                refine ⟨_, rfl, ?_⟩
                                have n0_ := Aside0.mk (blk_below (g := gb209) (o := .cells #[.int .u64 a0_0, .int .u64 a0_1, .int .u64 a0_2, .slice (some ad215) l0_3.length c0_3, .slice A0_4 l0_4.length c0_4] 36 (0, 0)) (by (with_reducible repeat (first | refine blk_drewN ?_ _ | refine blk_drew ?_ | refine blk_alloc ?_ _)); exact BK209.out) hb)
                                have n1_ := Aside0.mk (blk_below (g := gb216) (o := .cells #[.int .i64 ((rd_T114 l0_3 x35_1).f0), .int .u64 ((rd_T114 l0_3 x35_1).f1.f0), .int .u64 ((rd_T114 l0_3 x35_1).f1.f1), .int .u64 ((rd_T114 l0_3 x35_1).f1.f2), .string ((rd_T114 l0_3 x35_1).f1.f3), .string ((rd_T114 l0_3 x35_1).f1.f4)] 114 (0, 0)) (by (with_reducible repeat (first | refine blk_drewN ?_ _ | refine blk_drew ?_ | refine blk_alloc ?_ _)); exact BK216.out) hb)
                                have n2_ := Aside0.mk (below_step (by repeat (first | (with_reducible first | exact HB.out | apply below_alloc | apply pw_below_drewN | apply below_drew1 | refine below_set ?_ GE209.out | refine below_set ?_ GE216.out) | exact HB.out)) hb)
                                clear BK209
                                clear BK216
                                clear HB
                                have BK209 := n0_
                                have BK216 := n1_
                                have HB := n2_
                                clear n0_ n1_ n2_
                                (try clear hb)
                                (try clear hb2)
                                (try clear hk)
                                (try clear hi)
                                refine hK.out _ _ ⟨(blk_cell BK216.out 0).trans rfl, (blk_cell BK216.out 1).trans rfl, (blk_cell BK216.out 2).trans rfl, (blk_cell BK216.out 3).trans rfl, (blk_cell BK216.out 4).trans rfl, (blk_cell BK216.out 5).trans rfl⟩ (fun hHeld => ?_)
                                clear hK K
                                refine norm_ (a' := ?_) ?_ ?_
                                rotate_left
                                · show Act.put _ (some 68) _ = _
                                  simp only [Act.put, List.setIfInBounds_toArray, List.set_cons_zero, List.set_cons_succ, i64_w, i32_w]
                                  rfl
                                refine pure_ (i := 30) (N := some 69) (v := ?_) (a' := ?_) #[true, true, true, true, true, true, true, true, true, true, true, true, true, true, true, true, true, true, true, true, true, true, true, true, true, true, true, true, true, true, true, false] rfl rfl (any_of HT_.out (by kernel_rfl)) (fun _ _ _ h => h) (Or.inl ⟨by rfl, ?_⟩) ?_ ?_
                                rotate_left
                                · intro w'
                                  go_simp
                                  with_reducible rfl
                                rotate_left
                                · simp only [Act.put, List.setIfInBounds_toArray, List.set_cons_zero, List.set_cons_succ, i64_w, i32_w]
                                  rfl
                                refine pure_ (i := 31) (N := some 5) (v := ?_) (a' := ?_) #[true, true, true, true, true, true, true, true, true, true, true, true, true, true, true, true, true, true, true, true, true, true, true, true, true, true, true, true, true, true, true, true] rfl rfl (any_of HT_.out (by kernel_rfl)) (fun _ _ _ h => h) (Or.inl ⟨by rfl, ?_⟩) ?_ ?_
                                rotate_left
                                · intro w'
                                  go_simp
                                  with_reducible rfl
                                rotate_left
                                · simp only [Act.put, List.setIfInBounds_toArray, List.set_cons_zero, List.set_cons_succ, i64_w, i32_w]
                                  rfl
                                refine done_ (done_of HT_.out (by kernel_rfl)) ?_
                                try go_wp2
                                go_roundg k1
                                case measure => have := HK1.out; omega
                                case rel => exact ⟨((((((x5_1 ++ t217) ++ t218) ++ t219) ++ t220) ++ t221) ++ t222), (wrap64 (x35_1 + 1)), (by first | rfl | (simp; done) | (simp [*]; done)), (by first | rfl | (simp; done) | (simp [*]; done)), H', ⟨by have := HK1.out; omega⟩, ⟨by (with_reducible repeat (first | refine blk_drewN ?_ _ | refine blk_drew ?_ | refine blk_alloc ?_ _)); exact BK209.out⟩, ⟨by repeat (first | (with_reducible first | exact HB.out | apply below_alloc | apply pw_below_drewN | apply below_drew1 | refine below_set ?_ GE209.out | refine below_set ?_ GE216.out) | exact HB.out)⟩⟩
                              · rw [if_neg c34] at H
                                exact absurd H (by simp)
                            · rw [if_neg c32] at H
                              exact absurd H (by simp)
                          · rw [if_neg c30] at H
                            exact absurd H (by simp)
                        · rw [if_neg c28] at H
                          exact absurd H (by simp)
                      · rw [if_neg c26] at H
                        exact absurd H (by simp)
                    · rw [if_neg c24] at H
                      exact absurd H (by simp)
                  · rw [if_neg c22] at H
                    exact absurd H (by simp)
                · rw [if_neg c21] at H
                  exact absurd H (by simp)
              · rw [if_neg c20] at H
                have c20b0 : decide (x35_1 < (l0_3.length : Int)) = false := decide_eq_false c20
                clear c20
                replace H := Option.bind_eq_some_iff.mp H
                obtain ⟨t223, A460, H⟩ := H
                replace H : (if x5_1.size + t223.size ≤ 9223372036854775807 then (bourseref12_Edit_Bytes.l1 k1 (x5_1 ++ t223) l0_4 (l0_4.length : Int) 0) else (none)) = some (r1, r2) := H
                have A46 := Aside0.mk A460
                clear A460
                by_cases c47 : x5_1.size + t223.size ≤ 9223372036854775807
                · rw [if_pos c47] at H
                  have c47b0 := eq_true c47
                  have c47b1 : decide (x5_1.size + t223.size ≤ 9223372036854775807) = true := decide_eq_true c47
                  try have c47b2 : (9223372036854775807 < x5_1.size + t223.size) = False := eq_false (Nat.not_lt.2 c47)
                  have H' := Aside0.mk H
                  clear H
                  have hcz48_0 : wr.cell? ⟨gb209, 0, none⟩ = some (.int .u64 a0_0) := (blk_cell BK209.out 0).trans rfl
                  have hcz48_1 : wr.cell? ⟨gb209, 1, none⟩ = some (.int .u64 a0_1) := (blk_cell BK209.out 1).trans rfl
                  have hcz48_2 : wr.cell? ⟨gb209, 2, none⟩ = some (.int .u64 a0_2) := (blk_cell BK209.out 2).trans rfl
                  have hcz48_3 : wr.cell? ⟨gb209, 3, none⟩ = some (.slice A0_3 l0_3.length c0_3) := (blk_cell BK209.out 3).trans rfl
                  have hcz48_4 : wr.cell? ⟨gb209, 4, none⟩ = some (.slice A0_4 l0_4.length c0_4) := (blk_cell BK209.out 4).trans rfl
                  have hfz48_0 := blk_frozen BK209.out 0
                  have hfz48_1 := blk_frozen BK209.out 1
                  have hfz48_2 := blk_frozen BK209.out 2
                  have hfz48_3 := blk_frozen BK209.out 3
                  have hfz48_4 := blk_frozen BK209.out 4
                  go_wp2_with (first | ((with_reducible refine gate_callee (f := 53) rfl ?_); refine goesL_ (some 76) rfl rfl Tryd.func53 (by kernel_rfl) rfl #[.int .u64 (IntKind.u64.wrap ((l0_4.length : Int)))] rfl (by (try simp only [List.map_toArray, List.map_cons, List.map_nil]); first | done | rfl | (simp only [List.length_drop, List.length_take]; rfl)) ?_; (with_reducible refine (bourseref03_Num.calls k1 (IntKind.u64.wrap ((l0_4.length : Int))) t223 _ A46.out).mono ?_); rintro e w49 ⟨rfl, hb⟩; refine ⟨_, rfl, ?_⟩; have n0_ := Aside0.mk (blk_below (g := gb209) (o := .cells #[.int .u64 a0_0, .int .u64 a0_1, .int .u64 a0_2, .slice A0_3 l0_3.length c0_3, .slice A0_4 l0_4.length c0_4] 36 (0, 0)) (by (with_reducible repeat (first | refine blk_drewN ?_ _ | refine blk_drew ?_ | refine blk_alloc ?_ _)); exact BK209.out) hb); have n1_ := Aside0.mk (below_step (by repeat (first | (with_reducible first | exact HB.out | apply below_alloc | apply pw_below_drewN | apply below_drew1 | refine below_set ?_ GE209.out) | exact HB.out)) hb); clear BK209; clear HB; have BK209 := n0_; have HB := n1_; clear n0_ n1_; (try clear hb); (try clear hb2); (try clear hk); (try clear hi); have hcz50_0 : w49.cell? ⟨gb209, 0, none⟩ = some (.int .u64 a0_0) := (blk_cell BK209.out 0).trans rfl; have hcz50_1 : w49.cell? ⟨gb209, 1, none⟩ = some (.int .u64 a0_1) := (blk_cell BK209.out 1).trans rfl; have hcz50_2 : w49.cell? ⟨gb209, 2, none⟩ = some (.int .u64 a0_2) := (blk_cell BK209.out 2).trans rfl; have hcz50_3 : w49.cell? ⟨gb209, 3, none⟩ = some (.slice A0_3 l0_3.length c0_3) := (blk_cell BK209.out 3).trans rfl; have hcz50_4 : w49.cell? ⟨gb209, 4, none⟩ = some (.slice A0_4 l0_4.length c0_4) := (blk_cell BK209.out 4).trans rfl; have hfz50_0 := blk_frozen BK209.out 0; have hfz50_1 := blk_frozen BK209.out 1; have hfz50_2 := blk_frozen BK209.out 2; have hfz50_3 := blk_frozen BK209.out 3; have hfz50_4 := blk_frozen BK209.out 4))
                  go_loopg [5, 81] k1 (fun kq v5 v81 w' => ∃ (x5_2 : ByteArray) (x81_2 : Int), v5 = .string x5_2 ∧ v81 = .int .i64 x81_2 ∧ Aside0 (bourseref12_Edit_Bytes.l1 kq x5_2 l0_4 (l0_4.length : Int) x81_2 = some (r1, r2)) ∧ Aside0 (kq ≤ k1) ∧ Aside0 (w'.heap[gb209]? = some (.cells #[.int .u64 a0_0, .int .u64 a0_1, .int .u64 a0_2, (.slice A0_3 l0_3.length c0_3), (.slice A0_4 l0_4.length c0_4)] 36 (0, 0))) ∧ Aside0 (Below w.heap.size w w'))
                  case atStart => exact ⟨(x5_1 ++ t223), (0), (by first | rfl | (simp; done) | (simp [*]; done)), (by first | rfl | (simp; done) | (simp [*]; done)), H', ⟨Nat.le_refl _⟩, ⟨by (with_reducible repeat (first | refine blk_drewN ?_ _ | refine blk_drew ?_ | refine blk_alloc ?_ _)); exact BK209.out⟩, ⟨by repeat (first | (with_reducible first | exact HB.out | apply below_alloc | apply pw_below_drewN | apply below_drew1 | refine below_set ?_ GE209.out) | exact HB.out)⟩⟩
                  case round =>
                    clear H'
                    try clear c1
                    try clear c2
                    try clear p2
                    try clear q2
                    try clear hx2
                    try clear c3
                    try clear c3b0
                    try clear c3b1
                    try clear c4
                    try clear c5
                    try clear c6
                    try clear c6b0
                    try clear c6b1
                    try clear c6b2
                    try clear p6
                    try clear c8
                    try clear c8b0
                    try clear c8b1
                    try clear c8b2
                    try clear c10
                    try clear c10b0
                    try clear c10b1
                    try clear c10b2
                    try clear c17
                    try clear c20
                    try clear c20b0
                    try clear c21
                    try clear c21b0
                    try clear p21
                    try clear q21
                    try clear hx21
                    try clear c22
                    try clear c22b0
                    try clear c24
                    try clear c24b0
                    try clear c24b1
                    try clear c24b2
                    try clear c26
                    try clear c26b0
                    try clear c26b1
                    try clear c26b2
                    try clear c28
                    try clear c28b0
                    try clear c28b1
                    try clear c28b2
                    try clear c30
                    try clear c30b0
                    try clear c30b1
                    try clear c30b2
                    try clear c32
                    try clear c32b0
                    try clear c32b1
                    try clear c32b2
                    try clear c34
                    try clear c34b0
                    try clear c34b1
                    try clear c34b2
                    try clear c36
                    try clear c47
                    try clear c47b0
                    try clear c47b1
                    try clear c47b2
                    try clear hcz12_0
                    try clear hcz12_1
                    try clear hcz12_2
                    try clear hcz12_3
                    try clear hcz12_4
                    try clear hcz19_0
                    try clear hcz19_1
                    try clear hcz19_2
                    try clear hcz19_3
                    try clear hcz19_4
                    try clear hcz37_0
                    try clear hcz37_1
                    try clear hcz37_2
                    try clear hcz37_3
                    try clear hcz37_4
                    try clear hcz37_5
                    try clear hcz48_0
                    try clear hcz48_1
                    try clear hcz48_2
                    try clear hcz48_3
                    try clear hcz48_4
                    try clear hcz50_0
                    try clear hcz50_1
                    try clear hcz50_2
                    try clear hcz50_3
                    try clear hcz50_4
                    try clear hfz12_0
                    try clear hfz12_1
                    try clear hfz12_2
                    try clear hfz12_3
                    try clear hfz12_4
                    try clear hfz19_0
                    try clear hfz19_1
                    try clear hfz19_2
                    try clear hfz19_3
                    try clear hfz19_4
                    try clear hfz37_0
                    try clear hfz37_1
                    try clear hfz37_2
                    try clear hfz37_3
                    try clear hfz37_4
                    try clear hfz37_5
                    try clear hfz48_0
                    try clear hfz48_1
                    try clear hfz48_2
                    try clear hfz48_3
                    try clear hfz48_4
                    try clear hfz50_0
                    try clear hfz50_1
                    try clear hfz50_2
                    try clear hfz50_3
                    try clear hfz50_4
                    try clear hx215_0
                    try clear hx215_1
                    try clear hx215_2
                    try clear hx215_3
                    try clear hx215_4
                    try clear hx215_5
                    try clear p2
                    try clear p215
                    try clear q215
                    obtain ⟨x5_2, x81_2, rfl, rfl, HA, HK2, BK209, HB⟩ := hrel
                    cases gk with
                    | zero => exact absurd HA.out (by simp [bourseref12_Edit_Bytes.l1])
                    | succ k2 =>
                      have H := HA.out
                      clear HA
                      simp only [bourseref12_Edit_Bytes.l1] at H
                      by_cases c51 : x81_2 < (l0_4.length : Int)
                      · rw [if_pos c51] at H
                        have c51b0 : decide (x81_2 < (l0_4.length : Int)) = true := decide_eq_true c51
                        clear c51
                        by_cases c52 : 0 ≤ x81_2
                        · rw [if_pos c52] at H
                          have c52b0 : decide (0 ≤ x81_2) = true := decide_eq_true c52
                          clear c52
                          by_cases c53 : x81_2 < (l0_4.length : Int)
                          · rw [if_pos c53] at H
                            have c53b0 : decide (x81_2 < (l0_4.length : Int)) = true := decide_eq_true c53
                            clear c53
                            replace H := Option.bind_eq_some_iff.mp H
                            obtain ⟨t226, A540, H⟩ := H
                            replace H : (if x5_2.size + t226.size ≤ 9223372036854775807 then ((bourseref03_Num.f k2 ((rd_T115 l0_4 x81_2).f1)).bind fun t227 => (if (x5_2 ++ t226).size + t227.size ≤ 9223372036854775807 then (bourseref12_Edit_Bytes.l1 k2 ((x5_2 ++ t226) ++ t227) l0_4 (l0_4.length : Int) (wrap64 (x81_2 + 1))) else (none))) else (none)) = some (r1, r2) := H
                            have A54 := Aside0.mk A540
                            clear A540
                            by_cases c55 : x5_2.size + t226.size ≤ 9223372036854775807
                            · rw [if_pos c55] at H
                              have c55b0 := eq_true c55
                              have c55b1 : decide (x5_2.size + t226.size ≤ 9223372036854775807) = true := decide_eq_true c55
                              try have c55b2 : (9223372036854775807 < x5_2.size + t226.size) = False := eq_false (Nat.not_lt.2 c55)
                              replace H := Option.bind_eq_some_iff.mp H
                              obtain ⟨t227, A560, H⟩ := H
                              replace H : (if (x5_2 ++ t226).size + t227.size ≤ 9223372036854775807 then (bourseref12_Edit_Bytes.l1 k2 ((x5_2 ++ t226) ++ t227) l0_4 (l0_4.length : Int) (wrap64 (x81_2 + 1))) else (none)) = some (r1, r2) := H
                              have A56 := Aside0.mk A560
                              clear A560
                              by_cases c57 : (x5_2 ++ t226).size + t227.size ≤ 9223372036854775807
                              · rw [if_pos c57] at H
                                have c57b0 := eq_true c57
                                have c57b1 : decide ((x5_2 ++ t226).size + t227.size ≤ 9223372036854775807) = true := decide_eq_true c57
                                try have c57b2 : (9223372036854775807 < (x5_2 ++ t226).size + t227.size) = False := eq_false (Nat.not_lt.2 c57)
                                try (have c57b3 := c57b2; simp only [ByteArray.size_append'] at c57b3)
                                have H' := Aside0.mk H
                                clear H
                                have p224 : 0 ≤ (x81_2 : Int) := of_decide_eq_true (by first | (with_reducible assumption) | assumption)
                                have q224 : x81_2 < (l0_4.length : Int) := of_decide_eq_true (by first | (with_reducible assumption) | assumption)
                                obtain ⟨ad224, e224, hx224_0, hx224_1⟩ := at_T115 HR0_4.out x81_2 p224 q224
                                cases e224
                                replace hx224_0 := (HB.out.cell (World.block_lt_of_cell? w _ hx224_0)).trans hx224_0
                                replace hx224_1 := (HB.out.cell (World.block_lt_of_cell? w _ hx224_1)).trans hx224_1
                                replace p224 := eq_true p224
                                replace q224 := eq_true q224
                                try go_wp2_with (first | ((with_reducible refine gate_dst (N := 9) rfl ?_); refine box_event ?hg (N := 9) ?hd (cs := #[.int .i64 0, .int .u64 0]) (t := 115) ?hr ?_; (case hd => rfl); (case hg => rfl); (case hr => first | (go_simp; done) | (go_simp; rfl)); intro gb225 hg w58 hbox hb; have n0_ := Aside0.mk (blk_below (g := gb209) (o := .cells #[.int .u64 a0_0, .int .u64 a0_1, .int .u64 a0_2, .slice A0_3 l0_3.length c0_3, .slice (some ad224) l0_4.length c0_4] 36 (0, 0)) (by (with_reducible repeat (first | refine blk_drewN ?_ _ | refine blk_drew ?_ | refine blk_alloc ?_ _)); exact BK209.out) hb); have n1_ := Aside0.mk (below_step (by repeat (first | (with_reducible first | exact HB.out | apply below_alloc | apply pw_below_drewN | apply below_drew1 | refine below_set ?_ GE209.out) | exact HB.out)) hb); have n2_ := Aside0.mk (hbox); have n3_ := Aside0.mk ((by rw [hg]; exact (below_size (by repeat (first | (with_reducible first | exact HB.out | apply below_alloc | apply pw_below_drewN | apply below_drew1 | refine below_set ?_ GE209.out) | exact HB.out))) : w.heap.size ≤ gb225)); have n4_ := Aside0.mk ((by rw [hg]; exact (below_size (by repeat (first | (with_reducible first | exact HB.out | apply below_alloc | apply pw_below_drewN | apply below_drew1 | refine below_set ?_ GE209.out) | exact HB.out))) : w.heap.size ≤ gb225)); have n5_ := Aside0.mk ((by rw [hg]; exact Nat.ne_of_lt (blk_lt (g := gb209) (o := .cells #[.int .u64 a0_0, .int .u64 a0_1, .int .u64 a0_2, .slice A0_3 l0_3.length c0_3, .slice (some ad224) l0_4.length c0_4] 36 (0, 0)) (by (with_reducible repeat (first | refine blk_drewN ?_ _ | refine blk_drew ?_ | refine blk_alloc ?_ _)); exact BK209.out)) : gb209 ≠ gb225)); have n6_ := Aside0.mk ((by rw [hg]; exact Nat.ne_of_gt (blk_lt (g := gb209) (o := .cells #[.int .u64 a0_0, .int .u64 a0_1, .int .u64 a0_2, .slice A0_3 l0_3.length c0_3, .slice (some ad224) l0_4.length c0_4] 36 (0, 0)) (by (with_reducible repeat (first | refine blk_drewN ?_ _ | refine blk_drew ?_ | refine blk_alloc ?_ _)); exact BK209.out)) : gb225 ≠ gb209)); clear BK209; clear HB; have BK209 := n0_; have HB := n1_; have BK225 := n2_; have GW225 := n3_; have GE225 := n4_; have NB209_225 := n5_; have NB225_209 := n6_; clear n0_ n1_ n2_ n3_ n4_ n5_ n6_; clear hb hbox hg; have hnb59 := NB225_209.out; have hnc59 := NB209_225.out; have hcz60_0 : w58.cell? ⟨gb225, 0, none⟩ = some (.int .i64 0) := (blk_cell BK225.out 0).trans rfl; have hcz60_1 : w58.cell? ⟨gb225, 1, none⟩ = some (.int .u64 0) := (blk_cell BK225.out 1).trans rfl; have hfz60_0 := blk_frozen BK225.out 0; have hfz60_1 := blk_frozen BK225.out 1))
                                have n0_ : Aside0 (((w58.setCell ⟨gb225, 0, none⟩ (.int .i64 ((rd_T115 l0_4 x81_2).f0))).setCell ⟨gb225, 1, none⟩ (.int .u64 ((rd_T115 l0_4 x81_2).f1))).heap[gb209]? = some (.cells #[.int .u64 a0_0, .int .u64 a0_1, .int .u64 a0_2, .slice A0_3 l0_3.length c0_3, .slice (some ad224) l0_4.length c0_4] 36 (0, 0))) := ⟨by (with_reducible repeat (first | refine blk_drewN ?_ _ | refine blk_drew ?_ | refine blk_alloc ?_ _)); refine blk_far ?_ NB209_225.out _; (with_reducible repeat (first | refine blk_drewN ?_ _ | refine blk_drew ?_ | refine blk_alloc ?_ _)); refine blk_far ?_ NB209_225.out _; (with_reducible repeat (first | refine blk_drewN ?_ _ | refine blk_drew ?_ | refine blk_alloc ?_ _)); exact BK209.out⟩
                                have n1_ : Aside0 (((w58.setCell ⟨gb225, 0, none⟩ (.int .i64 ((rd_T115 l0_4 x81_2).f0))).setCell ⟨gb225, 1, none⟩ (.int .u64 ((rd_T115 l0_4 x81_2).f1))).heap[gb225]? = some (.cells #[.int .i64 ((rd_T115 l0_4 x81_2).f0), .int .u64 ((rd_T115 l0_4 x81_2).f1)] 115 (0, 0))) := ⟨by (with_reducible repeat (first | refine blk_drewN ?_ _ | refine blk_drew ?_ | refine blk_alloc ?_ _)); refine blk_put (cs := #[.int .i64 ((rd_T115 l0_4 x81_2).f0), .int .u64 0]) ?_ 1 _ rfl; (with_reducible repeat (first | refine blk_drewN ?_ _ | refine blk_drew ?_ | refine blk_alloc ?_ _)); refine blk_put (cs := #[.int .i64 0, .int .u64 0]) ?_ 0 _ rfl; (with_reducible repeat (first | refine blk_drewN ?_ _ | refine blk_drew ?_ | refine blk_alloc ?_ _)); exact BK225.out⟩
                                have n2_ : Aside0 (Below w.heap.size w ((w58.setCell ⟨gb225, 0, none⟩ (.int .i64 ((rd_T115 l0_4 x81_2).f0))).setCell ⟨gb225, 1, none⟩ (.int .u64 ((rd_T115 l0_4 x81_2).f1)))) := ⟨by repeat (first | (with_reducible first | exact HB.out | apply below_alloc | apply pw_below_drewN | apply below_drew1 | refine below_set ?_ GE209.out | refine below_set ?_ GE225.out) | exact HB.out)⟩
                                (try clear BK209)
                                (try clear BK225)
                                (try clear HB)
                                generalize ((w58.setCell ⟨gb225, 0, none⟩ (.int .i64 ((rd_T115 l0_4 x81_2).f0))).setCell ⟨gb225, 1, none⟩ (.int .u64 ((rd_T115 l0_4 x81_2).f1))) = w61 at n0_ n1_ n2_ ⊢
                                have BK209 := n0_
                                have BK225 := n1_
                                have HB := n2_
                                clear n0_ n1_ n2_
                                have n0_ := Aside0.mk (blk_drew BK209.out)
                                have n1_ := Aside0.mk (blk_drew BK225.out)
                                have n2_ := Aside0.mk (below_drew1 HB.out)
                                clear BK209
                                clear BK225
                                clear HB
                                have BK209 := n0_
                                have BK225 := n1_
                                have HB := n2_
                                clear n0_ n1_ n2_
                                refine start_ (n := 11) (S := fun w' => w'.cell? ⟨gb225, 0, none⟩ = some (.int .i64 ((rd_T115 l0_4 x81_2).f0)) ∧ w'.cell? ⟨gb225, 1, none⟩ = some (.int .u64 ((rd_T115 l0_4 x81_2).f1))) (ds := []) #[false, false, false, false, false, false, false, false, false, false, false] (by kernel_rfl) rfl rfl ⟨(blk_cell BK225.out 0).trans rfl, (blk_cell BK225.out 1).trans rfl⟩ (fun hHeld => ?_); refine with_tabW bourseref12_Edit_Bytes.tab14 bourseref12_Edit_Bytes.bits14 (fun HT_ HW_ => ?_)
                                generalize w61.drew = w62 at BK209 BK225 HB hHeld ⊢
                                refine pure_ (i := 0) (N := some 85) (v := ?_) (a' := ?_) #[true, false, false, false, false, false, false, false, false, false, false] rfl rfl (any_of HT_.out (by kernel_rfl)) (fun _ _ _ h => h) (Or.inl ⟨by rfl, ?_⟩) ?_ ?_
                                rotate_left
                                · intro w'
                                  go_simp
                                  with_reducible rfl
                                rotate_left
                                · simp only [Act.put, List.setIfInBounds_toArray, List.set_cons_zero, List.set_cons_succ, i64_w, i32_w]
                                  rfl
                                refine pure_ (i := 1) (N := some 86) (v := ?_) (a' := ?_) #[true, true, false, false, false, false, false, false, false, false, false] rfl rfl (any_of HT_.out (by kernel_rfl)) (fun _ _ _ h => h) (Or.inl ⟨by rfl, ?_⟩) ?_ ?_
                                rotate_left
                                · intro w'
                                  go_simp
                                  with_reducible rfl
                                rotate_left
                                · simp only [Act.put, List.setIfInBounds_toArray, List.set_cons_zero, List.set_cons_succ, i64_w, i32_w]
                                  rfl
                                refine pure_ (i := 6) (N := some 91) (v := ?_) (a' := ?_) #[true, true, false, false, false, false, true, false, false, false, false] rfl rfl (any_of HT_.out (by kernel_rfl)) (fun _ _ _ h => h) (Or.inl ⟨by rfl, ?_⟩) ?_ ?_
                                rotate_left
                                · intro w'
                                  go_simp
                                  with_reducible rfl
                                rotate_left
                                · simp only [Act.put, List.setIfInBounds_toArray, List.set_cons_zero, List.set_cons_succ, i64_w, i32_w]
                                  rfl
                                refine take_ (i := 2) (N := some 87) (v := ?_) (a' := ?_) #[true, true, true, false, false, false, true, false, false, false, false] rfl rfl (take_ofW HT_.out HW_.out (by kernel_rfl)) (fun _ _ _ h => h) (Or.inl ⟨by rfl, ?_⟩) hHeld ?_ ?_
                                rotate_left
                                · rintro w' ⟨s0, s1⟩
                                  go_simp
                                  with_reducible rfl
                                rotate_left
                                · simp only [Act.put, List.setIfInBounds_toArray, List.set_cons_zero, List.set_cons_succ, i64_w, i32_w]
                                  rfl
                                refine pure_ (i := 3) (N := some 88) (v := ?_) (a' := ?_) #[true, true, true, true, false, false, true, false, false, false, false] rfl rfl (any_of HT_.out (by kernel_rfl)) (fun _ _ _ h => h) (Or.inl ⟨by rfl, ?_⟩) ?_ ?_
                                rotate_left
                                · intro w'
                                  go_simp
                                  with_reducible rfl
                                rotate_left
                                · simp only [Act.put, List.setIfInBounds_toArray, List.set_cons_zero, List.set_cons_succ, i64_w, i32_w]
                                  rfl
                                refine take_ (i := 7) (N := some 92) (v := ?_) (a' := ?_) #[true, true, true, true, false, false, true, true, false, false, false] rfl rfl (take_ofW HT_.out HW_.out (by kernel_rfl)) (fun _ _ _ h => h) (Or.inl ⟨by rfl, ?_⟩) hHeld ?_ ?_
                                rotate_left
                                · rintro w' ⟨s0, s1⟩
                                  go_simp
                                  with_reducible rfl
                                rotate_left
                                · simp only [Act.put, List.setIfInBounds_toArray, List.set_cons_zero, List.set_cons_succ, i64_w, i32_w]
                                  rfl
                                refine one_ (i := 4) (N := some 89) #[true, true, true, true, true, false, true, true, false, false, false] rfl rfl (one_of HT_.out (by kernel_rfl)) (by decide) (fun K hK => ?_)
                                refine goes_ Tryd.func53 (by kernel_rfl) rfl #[.int .u64 (IntKind.u64.wrap ((rd_T115 l0_4 x81_2).f0))] (by rfl) rfl rfl (by (try simp only [List.map_toArray, List.map_cons, List.map_nil]); first | done | rfl | (simp only [List.length_drop, List.length_take]; rfl)) ?_
                                with_reducible refine (bourseref03_Num.calls k2 (IntKind.u64.wrap ((rd_T115 l0_4 x81_2).f0)) t226 _ A54.out).mono ?_
                                rintro e w63 ⟨rfl, hb⟩
                                refine ⟨_, rfl, ?_⟩
                                have n0_ := Aside0.mk (blk_below (g := gb209) (o := .cells #[.int .u64 a0_0, .int .u64 a0_1, .int .u64 a0_2, .slice A0_3 l0_3.length c0_3, .slice (some ad224) l0_4.length c0_4] 36 (0, 0)) (by (with_reducible repeat (first | refine blk_drewN ?_ _ | refine blk_drew ?_ | refine blk_alloc ?_ _)); exact BK209.out) hb)
                                have n1_ := Aside0.mk (blk_below (g := gb225) (o := .cells #[.int .i64 ((rd_T115 l0_4 x81_2).f0), .int .u64 ((rd_T115 l0_4 x81_2).f1)] 115 (0, 0)) (by (with_reducible repeat (first | refine blk_drewN ?_ _ | refine blk_drew ?_ | refine blk_alloc ?_ _)); exact BK225.out) hb)
                                have n2_ := Aside0.mk (below_step (by repeat (first | (with_reducible first | exact HB.out | apply below_alloc | apply pw_below_drewN | apply below_drew1 | refine below_set ?_ GE209.out | refine below_set ?_ GE225.out) | exact HB.out)) hb)
                                clear BK209
                                clear BK225
                                clear HB
                                have BK209 := n0_
                                have BK225 := n1_
                                have HB := n2_
                                clear n0_ n1_ n2_
                                (try clear hb)
                                (try clear hb2)
                                (try clear hk)
                                (try clear hi)
                                refine hK.out _ _ ⟨(blk_cell BK225.out 0).trans rfl, (blk_cell BK225.out 1).trans rfl⟩ (fun hHeld => ?_)
                                clear hK K
                                refine norm_ (a' := ?_) ?_ ?_
                                rotate_left
                                · show Act.put _ (some 89) _ = _
                                  simp only [Act.put, List.setIfInBounds_toArray, List.set_cons_zero, List.set_cons_succ, i64_w, i32_w]
                                  rfl
                                refine pure_ (i := 5) (N := some 90) (v := ?_) (a' := ?_) #[true, true, true, true, true, true, true, true, false, false, false] rfl rfl (any_of HT_.out (by kernel_rfl)) (fun _ _ _ h => h) (Or.inl ⟨by rfl, ?_⟩) ?_ ?_
                                rotate_left
                                · intro w'
                                  go_simp
                                  with_reducible rfl
                                rotate_left
                                · simp only [Act.put, List.setIfInBounds_toArray, List.set_cons_zero, List.set_cons_succ, i64_w, i32_w]
                                  rfl
                                refine one_ (i := 8) (N := some 93) #[true, true, true, true, true, true, true, true, true, false, false] rfl rfl (one_of HT_.out (by kernel_rfl)) (by decide) (fun K hK => ?_)
                                refine goes_ Tryd.func53 (by kernel_rfl) rfl #[.int .u64 ((rd_T115 l0_4 x81_2).f1)] (by rfl) rfl rfl (by (try simp only [List.map_toArray, List.map_cons, List.map_nil]); first | done | rfl | (simp only [List.length_drop, List.length_take]; rfl)) ?_
                                with_reducible refine (bourseref03_Num.calls k2 ((rd_T115 l0_4 x81_2).f1) t227 _ A56.out).mono ?_
                                rintro e w64 ⟨rfl, hb⟩
                                refine ⟨_, rfl, ?_⟩
                                have n0_ := Aside0.mk (blk_below (g := gb209) (o := .cells #[.int .u64 a0_0, .int .u64 a0_1, .int .u64 a0_2, .slice A0_3 l0_3.length c0_3, .slice (some ad224) l0_4.length c0_4] 36 (0, 0)) (by (with_reducible repeat (first | refine blk_drewN ?_ _ | refine blk_drew ?_ | refine blk_alloc ?_ _)); exact BK209.out) hb)
                                have n1_ := Aside0.mk (blk_below (g := gb225) (o := .cells #[.int .i64 ((rd_T115 l0_4 x81_2).f0), .int .u64 ((rd_T115 l0_4 x81_2).f1)] 115 (0, 0)) (by (with_reducible repeat (first | refine blk_drewN ?_ _ | refine blk_drew ?_ | refine blk_alloc ?_ _)); exact BK225.out) hb)
                                have n2_ := Aside0.mk (below_step (by repeat (first | (with_reducible first | exact HB.out | apply below_alloc | apply pw_below_drewN | apply below_drew1 | refine below_set ?_ GE209.out | refine below_set ?_ GE225.out) | exact HB.out)) hb)
                                clear BK209
                                clear BK225
                                clear HB
                                have BK209 := n0_
                                have BK225 := n1_
                                have HB := n2_
                                clear n0_ n1_ n2_
                                (try clear hb)
                                (try clear hb2)
                                (try clear hk)
                                (try clear hi)
                                refine hK.out _ _ ⟨(blk_cell BK225.out 0).trans rfl, (blk_cell BK225.out 1).trans rfl⟩ (fun hHeld => ?_)
                                clear hK K
                                refine norm_ (a' := ?_) ?_ ?_
                                rotate_left
                                · show Act.put _ (some 93) _ = _
                                  simp only [Act.put, List.setIfInBounds_toArray, List.set_cons_zero, List.set_cons_succ, i64_w, i32_w]
                                  rfl
                                refine pure_ (i := 9) (N := some 94) (v := ?_) (a' := ?_) #[true, true, true, true, true, true, true, true, true, true, false] rfl rfl (any_of HT_.out (by kernel_rfl)) (fun _ _ _ h => h) (Or.inl ⟨by rfl, ?_⟩) ?_ ?_
                                rotate_left
                                · intro w'
                                  go_simp
                                  with_reducible rfl
                                rotate_left
                                · simp only [Act.put, List.setIfInBounds_toArray, List.set_cons_zero, List.set_cons_succ, i64_w, i32_w]
                                  rfl
                                refine pure_ (i := 10) (N := some 5) (v := ?_) (a' := ?_) #[true, true, true, true, true, true, true, true, true, true, true] rfl rfl (any_of HT_.out (by kernel_rfl)) (fun _ _ _ h => h) (Or.inl ⟨by rfl, ?_⟩) ?_ ?_
                                rotate_left
                                · intro w'
                                  go_simp
                                  with_reducible rfl
                                rotate_left
                                · simp only [Act.put, List.setIfInBounds_toArray, List.set_cons_zero, List.set_cons_succ, i64_w, i32_w]
                                  rfl
                                refine done_ (done_of HT_.out (by kernel_rfl)) ?_
                                try go_wp2
                                go_roundg k2
                                case measure => have := HK1.out; have := HK2.out; omega
                                case rel => exact ⟨((x5_2 ++ t226) ++ t227), (wrap64 (x81_2 + 1)), (by first | rfl | (simp; done) | (simp [*]; done)), (by first | rfl | (simp; done) | (simp [*]; done)), H', ⟨by have := HK1.out; have := HK2.out; omega⟩, ⟨by (with_reducible repeat (first | refine blk_drewN ?_ _ | refine blk_drew ?_ | refine blk_alloc ?_ _)); exact BK209.out⟩, ⟨by repeat (first | (with_reducible first | exact HB.out | apply below_alloc | apply pw_below_drewN | apply below_drew1 | refine below_set ?_ GE209.out | refine below_set ?_ GE225.out) | exact HB.out)⟩⟩
                              · rw [if_neg c57] at H
                                exact absurd H (by simp)
                            · rw [if_neg c55] at H
                              exact absurd H (by simp)
                          · rw [if_neg c53] at H
                            exact absurd H (by simp)
                        · rw [if_neg c52] at H
                          exact absurd H (by simp)
                      · rw [if_neg c51] at H
                        have c51b0 : decide (x81_2 < (l0_4.length : Int)) = false := decide_eq_false c51
                        clear c51
                        simp only [Option.some.injEq, Prod.mk.injEq] at H
                        obtain ⟨rfl, rfl⟩ := H
                        go_wp2
                        go_ret2
                        exact ⟨by first | rfl | (simp [errW_none, errW_some] <;> rfl) | (simp [*, errW_none, errW_some] <;> rfl), by repeat (first | (with_reducible first | exact HB.out | apply below_alloc | apply pw_below_drewN | apply below_drew1 | refine below_set ?_ GE209.out) | exact HB.out)⟩
                · rw [if_neg c47] at H
                  exact absurd H (by simp)
        · rw [if_neg c10] at H
          exact absurd H (by simp)
      · rw [if_neg c8] at H
        exact absurd H (by simp)
    · rw [if_neg c6] at H
      exact absurd H (by simp)
  · rw [if_neg c3] at H
    have c3b0 : (t210 == 0) = false := beq_eq_false_iff_ne.mpr c3
    have c3b1 : (t210 != 0) = true := bne_iff_ne.mpr c3
    simp only [Option.some.injEq, Prod.mk.injEq] at H
    obtain ⟨rfl, rfl⟩ := H
    go_enter Tryd.func17, Tryd.ntmps17
    go_wp2_with (first | ((with_reducible refine gate_dst (N := 1) rfl ?_); refine box_event ?hg (N := 1) ?hd (cs := #[.int .u64 a0_0, .int .u64 a0_1, .int .u64 a0_2, .slice A0_3 l0_3.length c0_3, .slice A0_4 l0_4.length c0_4]) (t := 36) ?hr ?_; (case hd => rfl); (case hg => rfl); (case hr => first | (go_simp; done) | (go_simp; rfl)); intro gb209 hg w65 hbox hb; have n0_ := Aside0.mk (below_step (by repeat (first | (with_reducible first | exact HB.out | apply below_alloc | apply pw_below_drewN | apply below_drew1) | exact HB.out)) hb); have n1_ := Aside0.mk (hbox); have n2_ := Aside0.mk ((by rw [hg]; exact (below_size (by repeat (first | (with_reducible first | exact HB.out | apply below_alloc | apply pw_below_drewN | apply below_drew1) | exact HB.out))) : w.heap.size ≤ gb209)); have n3_ := Aside0.mk ((by rw [hg]; exact (below_size (by repeat (first | (with_reducible first | exact HB.out | apply below_alloc | apply pw_below_drewN | apply below_drew1) | exact HB.out))) : w.heap.size ≤ gb209)); clear HB; have HB := n0_; have BK209 := n1_; have GW209 := n2_; have GE209 := n3_; clear n0_ n1_ n2_ n3_; clear hb hbox hg; have hcz66_0 : w65.cell? ⟨gb209, 0, none⟩ = some (.int .u64 a0_0) := (blk_cell BK209.out 0).trans rfl; have hcz66_1 : w65.cell? ⟨gb209, 1, none⟩ = some (.int .u64 a0_1) := (blk_cell BK209.out 1).trans rfl; have hcz66_2 : w65.cell? ⟨gb209, 2, none⟩ = some (.int .u64 a0_2) := (blk_cell BK209.out 2).trans rfl; have hcz66_3 : w65.cell? ⟨gb209, 3, none⟩ = some (.slice A0_3 l0_3.length c0_3) := (blk_cell BK209.out 3).trans rfl; have hcz66_4 : w65.cell? ⟨gb209, 4, none⟩ = some (.slice A0_4 l0_4.length c0_4) := (blk_cell BK209.out 4).trans rfl; have hfz66_0 := blk_frozen BK209.out 0; have hfz66_1 := blk_frozen BK209.out 1; have hfz66_2 := blk_frozen BK209.out 2; have hfz66_3 := blk_frozen BK209.out 3; have hfz66_4 := blk_frozen BK209.out 4) | ((with_reducible refine gate_callee (f := 21) rfl ?_); refine goesL_ (some 11) rfl rfl Tryd.func21 (by kernel_rfl) rfl #[.agg #[.int .u64 a0_0, .int .u64 a0_1, .int .u64 a0_2, .slice A0_3 l0_3.length c0_3, .slice A0_4 l0_4.length c0_4]] rfl (by (try simp only [List.map_toArray, List.map_cons, List.map_nil]); first | done | rfl | (simp only [List.length_drop, List.length_take]; rfl)) ?_; (with_reducible refine (bourseref12_Edit_Check.calls k a0_0 a0_1 a0_2 _ _ l0_3 _ _ l0_4 t210 _ ?side1 ?side2 ?side3 ?side4 A2.out).mono ?_); (case side1 => repeat (first | exact (Kd.C_below HR0_3.out HB.out) | (with_reducible refine Kd.C_alloc ?_ _) | (with_reducible refine Kd.C_drewN ?_ _) | (with_reducible refine Kd.C_drew ?_))); (case side2 => exact HC0_3.out); (case side3 => repeat (first | exact (Kd.C_below HR0_4.out HB.out) | (with_reducible refine Kd.C_alloc ?_ _) | (with_reducible refine Kd.C_drewN ?_ _) | (with_reducible refine Kd.C_drew ?_))); (case side4 => exact HC0_4.out); rintro e w67 ⟨rfl, hb⟩; refine ⟨_, rfl, ?_⟩; have n0_ := Aside0.mk (blk_below (g := gb209) (o := .cells #[.int .u64 a0_0, .int .u64 a0_1, .int .u64 a0_2, .slice A0_3 l0_3.length c0_3, .slice A0_4 l0_4.length c0_4] 36 (0, 0)) (by (with_reducible repeat (first | refine blk_drewN ?_ _ | refine blk_drew ?_ | refine blk_alloc ?_ _)); exact BK209.out) hb); have n1_ := Aside0.mk (below_step (by repeat (first | (with_reducible first | exact HB.out | apply below_alloc | apply pw_below_drewN | apply below_drew1 | refine below_set ?_ GE209.out) | exact HB.out)) hb); clear BK209; clear HB; have BK209 := n0_; have HB := n1_; clear n0_ n1_; (try clear hb); (try clear hb2); (try clear hk); (try clear hi)))
    go_ret2
    exact ⟨by first | rfl | (simp [errW_none, errW_some] <;> rfl) | (simp [*, errW_none, errW_some] <;> rfl), by repeat (first | (with_reducible first | exact HB.out | apply below_alloc | apply pw_below_drewN | apply below_drew1 | refine below_set ?_ GE209.out) | exact HB.out)⟩
end Go.Proofs.YteilnbnnhocciaaDoor.K

/-! K24 -/
namespace Go.Proofs.YteilnbnnhocciaaDoor.K
open Go.RowKit Go.Proofs.YteilnbnnhocciaaDoorW.PrintWords Go.Proofs.YteilnbnnhocciaaDoorW.PrintLast Go.Proofs.YteilnbnnhocciaaDoorW.PrintMore Go.Proofs.YteilnbnnhocciaaDoorM
attribute [local go_sem] max2_int min2_int max_two min_two max_three min_three max_four min_four
set_option linter.unusedVariables false
set_option linter.unusedSimpArgs false
def bourselaw12_awake.f : Option Bool := some true
theorem bourselaw12_awake.bytes : edit_Edit_Bytes.f 20 0 0 0 [] [] = some (⟨#[0, 0, 0, 0, 0]⟩, 0) := by decide +kernel
theorem bourselaw12_awake.parse : edit_Parse.f ⟨#[0, 0, 0, 0, 0]⟩ = some (0, 0, 0, [], [], 0) := by kernel_rfl
set_option maxHeartbeats 2000000 in
set_option maxRecDepth 100000 in
theorem bourselaw12_awake.walk (w : World) : Calls Tryd.prog 13 #[] w fun e w' => e = .returned (.bool true) ∧ Below w.heap.size w w' := by
  have H1 := Hush.mk bourselaw12_awake.bytes
  have H2 := Hush.mk bourselaw12_awake.parse
  go_enter Tryd.func13, Tryd.ntmps13
  go_wp2_with fail
  refine (edit_Edit_Bytes.calls 20 0 0 0 none 0 [] none 0 [] _ _ _ (Kd.C_nil _ _) (Nat.le_refl _) (Kd.C_nil _ _) (Nat.le_refl _) H1.out).mono ?_
  rintro e w1 ⟨rfl, hb1⟩
  go_wp2_with fail
  refine (edit_Parse.calls _ _ _ _ _ _ _ _ H2.out).mono ?_
  rintro e w2 ⟨v3, v4, rfl, hR3, hR4, hb2⟩
  obtain ⟨A3, c3, rfl⟩ := Kd.R_slice hR3
  obtain ⟨A4, c4, rfl⟩ := Kd.R_slice hR4
  clear hR3 hR4
  have hb : Below w.heap.size w w2 := hb1.trans (hb2.mono hb1.size)
  go_wp2_with fail
  refine (name_t7 _).mono ?_
  rintro e w3 ⟨rfl, rfl⟩
  go_wp2
  go_ret
  exact ⟨rfl, hb.alloc hb.size _⟩
theorem bourselaw12_awake.calls (r : Bool) (w : World) (h : bourselaw12_awake.f = some r) :
    Calls Tryd.prog 13 #[] w fun e w' => e = .returned (.bool r) ∧ Below w.heap.size w w' := by
  obtain rfl := Option.some.inj h
  exact bourselaw12_awake.walk w
end Go.Proofs.YteilnbnnhocciaaDoor.K
