/- FrameTurns answers true for every row of texts, every place and every turn handed in: behind a byte of the last record's turned, that isn't one of its lengths, all records ahead of it are told, and it isn't; no condition beyond the card's own. (part 4 of 5; packed by program out of the texts named below) -/
import Derived.Test.YteilnbnnhocciaaDoorXF3

/-! KF22 -/
namespace Go.Proofs.YteilnbnnhocciaaDoor.KF
open Go.RowKit Go.Proofs.YteilnbnnhocciaaDoorW.PrintWords Go.Proofs.YteilnbnnhocciaaDoorW.PrintLast Go.Proofs.YteilnbnnhocciaaDoorW.PrintMore Go.Proofs.YteilnbnnhocciaaDoorM
attribute [local go_sem] max2_int min2_int max_two min_two max_three min_three max_four min_four
set_option linter.unusedVariables false
set_option linter.unusedSimpArgs false
mutual
def bourseref05_Lay.j0 : Nat → Int → ByteArray → Option (ByteArray)
  | 0, _, _ => none
  | k + 1, x0, x1 => bourseref05_Lay.l0 k x0 x1 (⟨#[]⟩ : ByteArray) true
def bourseref05_Lay.l0 : Nat → Int → ByteArray → ByteArray → Bool → Option (ByteArray)
  | 0, _, _, _, _ => none
  | k + 1, x0, x1, x5, x6 => bourseref05_Lay.l1 k x0 x1 x5 x6
def bourseref05_Lay.l1 : Nat → Int → ByteArray → ByteArray → Bool → Option (ByteArray)
  | 0, _, _, _, _ => none
  | k + 1, x0, x1, x5, x6 => (bourseref05_room.f (wrap64 (x0 + (x5.size : Int)))).bind fun t130 => (if t130 < 7 then (if x5.size + 1 ≤ 9223372036854775807 then (bourseref05_Lay.l1 k x0 x1 (x5 ++ (⟨#[0]⟩ : ByteArray)) x6) else (none)) else ((bourseref05_room.f (wrap64 (x0 + (x5.size : Int)))).bind fun t131 => (if (wrap64 (t131 - 7)) > (x1.size : Int) then (bourseref05_Lay.j3 k x0 x1 x5 x6 (x1.size : Int)) else (bourseref05_Lay.j3 k x0 x1 x5 x6 (wrap64 (t131 - 7))))))
def bourseref05_Lay.j3 : Nat → Int → ByteArray → ByteArray → Bool → Int → Option (ByteArray)
  | 0, _, _, _, _, _ => none
  | k + 1, x0, x1, x5, x6, x7 => if x6 = true then (bourseref05_Lay.j4 k x0 x1 x5 x6 x7 3 (x7 == (x1.size : Int))) else (bourseref05_Lay.j4 k x0 x1 x5 x6 x7 3 false)
def bourseref05_Lay.j4 : Nat → Int → ByteArray → ByteArray → Bool → Int → Int → Bool → Option (ByteArray)
  | 0, _, _, _, _, _, _, _ => none
  | k + 1, x0, x1, x5, x6, x7, x8, x37 => if x37 = true then (bourseref05_Lay.j5 k x0 x1 x5 x7 1) else (if x6 = true then (bourseref05_Lay.j5 k x0 x1 x5 x7 2) else (if x7 = (x1.size : Int) then (bourseref05_Lay.j5 k x0 x1 x5 x7 4) else (bourseref05_Lay.j5 k x0 x1 x5 x7 x8)))
def bourseref05_Lay.j5 : Nat → Int → ByteArray → ByteArray → Int → Int → Option (ByteArray)
  | 0, _, _, _, _, _ => none
  | k + 1, x0, x1, x5, x7, x8 => if 0 ≤ x7 then (if x7 ≤ (x1.size : Int) then ((bourseref05_sum.f k x8 (x1.extract 0 (x7 : Int).toNat)).bind fun t132 => (if x5.size + t132.size ≤ 9223372036854775807 then ((bourseref03_Little.f k (IntKind.u64.wrap (x7)) 2).bind fun t133 => (if (x5 ++ t132).size + t133.size ≤ 9223372036854775807 then ((some (([x8] : List Int) : List Int)).bind fun y134 => (if ((x5 ++ t132) ++ t133).size + (strOfNums y134).size ≤ 9223372036854775807 then (if (((x5 ++ t132) ++ t133) ++ (strOfNums y134)).size + (x1.extract 0 (x7 : Int).toNat).size ≤ 9223372036854775807 then (if x8 = 1 then (some ((((x5 ++ t132) ++ t133) ++ (strOfNums y134)) ++ (x1.extract 0 (x7 : Int).toNat))) else (if x8 = 4 then (some ((((x5 ++ t132) ++ t133) ++ (strOfNums y134)) ++ (x1.extract 0 (x7 : Int).toNat))) else (bourseref05_Lay.l0 k x0 (x1.extract (x7 : Int).toNat x1.size) ((((x5 ++ t132) ++ t133) ++ (strOfNums y134)) ++ (x1.extract 0 (x7 : Int).toNat)) false))) else (none)) else (none))) else (none))) else (none))) else (none)) else (none)
end
def bourseref05_Lay.f (k : Nat) (a0 : Int) (a1 : ByteArray) : Option (ByteArray) := if a0 < 0 then (bourseref05_Lay.j0 k 0 a1) else (bourseref05_Lay.j0 k a0 a1)
def bourseref05_Lay.T17 : Bool × List (List Nat × List Nat) := (true, [([], []), ([], []), ([], []), ([], []), ([2, 3], [2, 3]), ([1, 4], [1, 4]), ([0, 5], [0, 5]), ([], []), ([7], [7]), ([8, 5], [8]), ([6, 9], [6, 9]), ([], []), ([11], [11]), ([12], [12]), ([10, 13], [10, 13]), ([], []), ([], []), ([15, 16], [15, 16]), ([14, 17], [14, 17]), ([18, 9, 0, 1, 2, 3, 4, 5, 6, 7, 8, 9, 10, 11, 12, 13, 14, 15, 16, 17, 18], [0, 18])])
def bourseref05_Lay.B17 : List Nat := [0, 0, 0, 0, 12, 30, 63, 0, 128, 446, 1023, 0, 2048, 6144, 16383, 0, 0, 98304, 262143, 524287]
theorem bourseref05_Lay.tab17 : rtab .any (opsOf Tryd.f31 17) = bourseref05_Lay.T17 := by kernel_rfl
theorem bourseref05_Lay.bits17 : waitsOk bourseref05_Lay.T17.2 bourseref05_Lay.B17 = true := by kernel_rfl
set_option maxHeartbeats 8000000 in
set_option maxRecDepth 100000 in
theorem bourseref05_Lay.calls (k : Nat) (a0 : Int) (a1 : ByteArray) (r : ByteArray) (w : World) (h : bourseref05_Lay.f k a0 a1 = some r) :
    Calls Tryd.prog 31 #[.int .i64 a0, .string a1] w fun e w' => e = .returned (.string r) ∧ Below w.heap.size w w' := by
  have HB := Aside0.mk (Below.refl w.heap.size w)
  have H : (if a0 < 0 then (bourseref05_Lay.j0 k 0 a1) else (bourseref05_Lay.j0 k a0 a1)) = some r := h
  clear h
  have HC3 := Aside0.mk H
  clear H
  go_enter Tryd.func31, Tryd.ntmps31
  go_upto_if 10 with (fail)
  go_cut [0] (fun v0 wc => ∃ (kq : Nat) (x0_2 : Int), v0 = .int .i64 x0_2 ∧ Aside0 (bourseref05_Lay.j0 kq x0_2 a1 = some r) ∧ Aside0 (kq ≤ k) ∧ Aside0 (Below w.heap.size w wc))
  case first =>
    have H := HC3.out
    clear HC3
    by_cases c4 : a0 < 0
    · rw [if_pos c4] at H
      have c4b0 : decide (a0 < 0) = true := decide_eq_true c4
      clear c4
      (first | rw [c4b0] | (simp only [i64_w, i32_w]; rw [c4b0]) | skip)
      have H' := Aside0.mk H
      clear H
      go_wp2
      go_meet
      case rel => exact ⟨_, (0), (by first | rfl | (simp; done) | (simp [*]; done)), H', ⟨by first | omega | exact Nat.le_refl _⟩, ⟨by repeat (first | (with_reducible first | exact HB.out | apply below_alloc | apply pw_below_drewN | apply below_drew1) | exact HB.out)⟩⟩
    · rw [if_neg c4] at H
      have c4b0 : decide (a0 < 0) = false := decide_eq_false c4
      clear c4
      (first | rw [c4b0] | (simp only [i64_w, i32_w]; rw [c4b0]) | skip)
      have H' := Aside0.mk H
      clear H
      go_wp2
      go_meet
      case rel => exact ⟨_, (a0), (by first | rfl | (simp; done) | (simp [*]; done)), H', ⟨by first | omega | exact Nat.le_refl _⟩, ⟨by repeat (first | (with_reducible first | exact HB.out | apply below_alloc | apply pw_below_drewN | apply below_drew1) | exact HB.out)⟩⟩
  case rest =>
    clear HC3
    try clear p2
    try clear c3
    try clear c4
    try clear c4b0
    obtain ⟨kq, x0_2, rfl, HA, HJ2, HB⟩ := hcut
    cases kq with
    | zero => exact absurd HA.out (by simp [bourseref05_Lay.j0])
    | succ kj2 =>
      have H := HA.out
      clear HA
      simp only [bourseref05_Lay.j0] at H
      have H' := Aside0.mk H
      clear H
      go_wp2
      go_loopg [1, 5, 6] kj2 (fun kq v1 v5 v6 w' => ∃ (x1_2 : ByteArray) (x5_2 : ByteArray) (x6_2 : Bool), v1 = .string x1_2 ∧ v5 = .string x5_2 ∧ v6 = .bool x6_2 ∧ Aside0 (bourseref05_Lay.l0 kq x0_2 x1_2 x5_2 x6_2 = some r) ∧ Aside0 (kq ≤ kj2) ∧ Aside0 (Below w.heap.size w w'))
      case atStart => exact ⟨(a1), ((⟨#[]⟩ : ByteArray)), (true), (by first | rfl | (simp; done) | (simp [*]; done)), (by first | rfl | (simp; done) | (simp [*]; done)), (by first | rfl | (simp; done) | (simp [*]; done)), H', ⟨Nat.le_refl _⟩, ⟨by repeat (first | (with_reducible first | exact HB.out | apply below_alloc | apply pw_below_drewN | apply below_drew1) | exact HB.out)⟩⟩
      case round =>
        clear H'
        try clear p2
        try clear c3
        try clear c4
        try clear c4b0
        try clear p2
        obtain ⟨x1_2, x5_2, x6_2, rfl, rfl, rfl, HA, HK2, HB⟩ := hrel
        cases gk with
        | zero => exact absurd HA.out (by simp [bourseref05_Lay.l0])
        | succ k2 =>
          have H := HA.out
          clear HA
          simp only [bourseref05_Lay.l0] at H
          have H' := Aside0.mk H
          clear H
          go_wp2
          go_loopg [5] k2 (fun kq v5 w' => ∃ (x5_3 : ByteArray), v5 = .string x5_3 ∧ Aside0 (bourseref05_Lay.l1 kq x0_2 x1_2 x5_3 x6_2 = some r) ∧ Aside0 (kq ≤ k2) ∧ Aside0 (Below w.heap.size w w'))
          case atStart => exact ⟨(x5_2), (by first | rfl | (simp; done) | (simp [*]; done)), H', ⟨Nat.le_refl _⟩, ⟨by repeat (first | (with_reducible first | exact HB.out | apply below_alloc | apply pw_below_drewN | apply below_drew1) | exact HB.out)⟩⟩
          case round =>
            clear H'
            try clear p2
            try clear c3
            try clear c4
            try clear c4b0
            try clear p2
            obtain ⟨x5_3, rfl, HA, HK3, HB⟩ := hrel
            cases gk with
            | zero => exact absurd HA.out (by simp [bourseref05_Lay.l1])
            | succ k3 =>
              have H := HA.out
              clear HA
              simp only [bourseref05_Lay.l1] at H
              replace H := Option.bind_eq_some_iff.mp H
              obtain ⟨t130, A50, H⟩ := H
              replace H : (if t130 < 7 then (if x5_3.size + 1 ≤ 9223372036854775807 then (bourseref05_Lay.l1 k3 x0_2 x1_2 (x5_3 ++ (⟨#[0]⟩ : ByteArray)) x6_2) else (none)) else ((bourseref05_room.f (wrap64 (x0_2 + (x5_3.size : Int)))).bind fun t131 => (if (wrap64 (t131 - 7)) > (x1_2.size : Int) then (bourseref05_Lay.j3 k3 x0_2 x1_2 x5_3 x6_2 (x1_2.size : Int)) else (bourseref05_Lay.j3 k3 x0_2 x1_2 x5_3 x6_2 (wrap64 (t131 - 7)))))) = some r := H
              have A5 := Aside0.mk A50
              clear A50
              by_cases c6 : t130 < 7
              · rw [if_pos c6] at H
                have c6b0 : decide (t130 < 7) = true := decide_eq_true c6
                clear c6
                by_cases c7 : x5_3.size + 1 ≤ 9223372036854775807
                · rw [if_pos c7] at H
                  have c7b0 := eq_true c7
                  have c7b1 : decide (x5_3.size + 1 ≤ 9223372036854775807) = true := decide_eq_true c7
                  try have c7b2 : (9223372036854775807 < x5_3.size + 1) = False := eq_false (Nat.not_lt.2 c7)
                  have H' := Aside0.mk H
                  clear H
                  go_wp2_with (first | ((with_reducible refine gate_callee (f := 73) rfl ?_); refine goesL_ (some 15) rfl rfl Tryd.func73 (by kernel_rfl) rfl #[.int .i64 (wrap64 (x0_2 + (x5_3.size : Int)))] rfl (by (try simp only [List.map_toArray, List.map_cons, List.map_nil]); first | done | rfl | (simp only [List.length_drop, List.length_take]; rfl)) ?_; (with_reducible refine (bourseref05_room.calls (wrap64 (x0_2 + (x5_3.size : Int))) t130 _ A5.out).mono ?_); rintro e w' ⟨rfl, ⟨nd, rfl⟩⟩; refine ⟨_, rfl, ?_⟩))
                  go_roundg k3
                  case measure => have := HJ2.out; have := HK2.out; have := HK3.out; omega
                  case rel => exact ⟨(x5_3 ++ (⟨#[0]⟩ : ByteArray)), (by first | rfl | (simp; done) | (simp [*]; done)), H', ⟨by have := HJ2.out; have := HK2.out; have := HK3.out; omega⟩, ⟨by repeat (first | (with_reducible first | exact HB.out | apply below_alloc | apply pw_below_drewN | apply below_drew1) | exact HB.out)⟩⟩
                · rw [if_neg c7] at H
                  exact absurd H (by simp)
              · rw [if_neg c6] at H
                have c6b0 : decide (t130 < 7) = false := decide_eq_false c6
                clear c6
                replace H := Option.bind_eq_some_iff.mp H
                obtain ⟨t131, A80, H⟩ := H
                replace H : (if (wrap64 (t131 - 7)) > (x1_2.size : Int) then (bourseref05_Lay.j3 k3 x0_2 x1_2 x5_3 x6_2 (x1_2.size : Int)) else (bourseref05_Lay.j3 k3 x0_2 x1_2 x5_3 x6_2 (wrap64 (t131 - 7)))) = some r := H
                have A8 := Aside0.mk A80
                clear A80
                have HC9 := Aside0.mk H
                clear H
                go_upto_if 28 with (first | ((with_reducible refine gate_callee (f := 73) rfl ?_); refine goesL_ (some 15) rfl rfl Tryd.func73 (by kernel_rfl) rfl #[.int .i64 (wrap64 (x0_2 + (x5_3.size : Int)))] rfl (by (try simp only [List.map_toArray, List.map_cons, List.map_nil]); first | done | rfl | (simp only [List.length_drop, List.length_take]; rfl)) ?_; (with_reducible refine (bourseref05_room.calls (wrap64 (x0_2 + (x5_3.size : Int))) t130 _ A5.out).mono ?_); rintro e w' ⟨rfl, ⟨nd, rfl⟩⟩; refine ⟨_, rfl, ?_⟩) | ((with_reducible refine gate_callee (f := 73) rfl ?_); refine goesL_ (some 23) rfl rfl Tryd.func73 (by kernel_rfl) rfl #[.int .i64 (wrap64 (x0_2 + (x5_3.size : Int)))] rfl (by (try simp only [List.map_toArray, List.map_cons, List.map_nil]); first | done | rfl | (simp only [List.length_drop, List.length_take]; rfl)) ?_; (with_reducible refine (bourseref05_room.calls (wrap64 (x0_2 + (x5_3.size : Int))) t131 _ A8.out).mono ?_); rintro e w' ⟨rfl, ⟨nd, rfl⟩⟩; refine ⟨_, rfl, ?_⟩))
                (try simp only [Act.put, List.setIfInBounds_toArray, List.set_cons_zero, List.set_cons_succ])
                go_cut [7] (fun v7 wc => ∃ (kq : Nat) (x7_8 : Int), v7 = .int .i64 x7_8 ∧ Aside0 (bourseref05_Lay.j3 kq x0_2 x1_2 x5_3 x6_2 x7_8 = some r) ∧ Aside0 (kq ≤ k3) ∧ Aside0 (Below w.heap.size w wc))
                case first =>
                  have H := HC9.out
                  clear HC9
                  by_cases c10 : (wrap64 (t131 - 7)) > (x1_2.size : Int)
                  · rw [if_pos c10] at H
                    have c10b0 : decide ((x1_2.size : Int) < (wrap64 (t131 - 7))) = true := decide_eq_true c10
                    clear c10
                    (first | rw [c10b0] | (simp only [i64_w, i32_w]; rw [c10b0]) | skip)
                    have H' := Aside0.mk H
                    clear H
                    go_wp2
                    go_meet
                    case rel => exact ⟨_, ((x1_2.size : Int)), (by first | rfl | (simp; done) | (simp [*]; done)), H', ⟨by have := HJ2.out; have := HK2.out; have := HK3.out; first | omega | exact Nat.le_refl _⟩, ⟨by repeat (first | (with_reducible first | exact HB.out | apply below_alloc | apply pw_below_drewN | apply below_drew1) | exact HB.out)⟩⟩
                  · rw [if_neg c10] at H
                    have c10b0 : decide ((x1_2.size : Int) < (wrap64 (t131 - 7))) = false := decide_eq_false c10
                    clear c10
                    (first | rw [c10b0] | (simp only [i64_w, i32_w]; rw [c10b0]) | skip)
                    have H' := Aside0.mk H
                    clear H
                    go_wp2
                    go_meet
                    case rel => exact ⟨_, (wrap64 (t131 - 7)), (by first | rfl | (simp; done) | (simp [*]; done)), H', ⟨by have := HJ2.out; have := HK2.out; have := HK3.out; first | omega | exact Nat.le_refl _⟩, ⟨by repeat (first | (with_reducible first | exact HB.out | apply below_alloc | apply pw_below_drewN | apply below_drew1) | exact HB.out)⟩⟩
                case rest =>
                  clear HC9
                  try clear c1
                  try clear p2
                  try clear c3
                  try clear c4
                  try clear c4b0
                  try clear c6
                  try clear c6b0
                  try clear p6
                  try clear c7
                  try clear c7b0
                  try clear c7b1
                  try clear c7b2
                  try clear c10
                  try clear c10b0
                  try clear p2
                  obtain ⟨kq, x7_8, rfl, HA, HJ8, HB⟩ := hcut
                  cases kq with
                  | zero => exact absurd HA.out (by simp [bourseref05_Lay.j3])
                  | succ kj8 =>
                    have H := HA.out
                    clear HA
                    simp only [bourseref05_Lay.j3] at H
                    have HC11 := Aside0.mk H
                    clear H
                    go_upto_region 11 with (fail)
                    go_cut [37] (fun v37 wc => ∃ (kq : Nat) (x37_10 : Bool), v37 = .bool x37_10 ∧ Aside0 (bourseref05_Lay.j4 kq x0_2 x1_2 x5_3 x6_2 x7_8 3 x37_10 = some r) ∧ Aside0 (kq ≤ kj8) ∧ Aside0 (Below w.heap.size w wc))
                    case first =>
                      have H := HC11.out
                      clear HC11
                      by_cases c12 : x6_2 = true
                      · subst c12
                        have H1 : (bourseref05_Lay.j4 kj8 x0_2 x1_2 x5_3 true x7_8 3 (x7_8 == (x1_2.size : Int))) = some r := by rw [if_pos rfl] at H; exact H
                        clear H
                        have H := H1
                        clear H1
                        have H' := Aside0.mk H
                        clear H
                        go_wp2
                        go_meet
                        case rel => exact ⟨_, ((x7_8 == (x1_2.size : Int))), (by first | rfl | (simp; done) | (simp [*]; done)), H', ⟨by have := HJ2.out; have := HK2.out; have := HK3.out; have := HJ8.out; first | omega | exact Nat.le_refl _⟩, ⟨by repeat (first | (with_reducible first | exact HB.out | apply below_alloc | apply pw_below_drewN | apply below_drew1) | exact HB.out)⟩⟩
                      · replace c12 := Bool.eq_false_iff.mpr c12
                        subst c12
                        have H1 : (bourseref05_Lay.j4 kj8 x0_2 x1_2 x5_3 false x7_8 3 false) = some r := by rw [if_neg (show ¬ (false = true) by decide)] at H; exact H
                        clear H
                        have H := H1
                        clear H1
                        have H' := Aside0.mk H
                        clear H
                        go_wp2
                        go_meet
                        case rel => exact ⟨_, (false), (by first | rfl | (simp; done) | (simp [*]; done)), H', ⟨by have := HJ2.out; have := HK2.out; have := HK3.out; have := HJ8.out; first | omega | exact Nat.le_refl _⟩, ⟨by repeat (first | (with_reducible first | exact HB.out | apply below_alloc | apply pw_below_drewN | apply below_drew1) | exact HB.out)⟩⟩
                    case rest =>
                      clear HC11
                      try clear c1
                      try clear p2
                      try clear c3
                      try clear c4
                      try clear c4b0
                      try clear c6
                      try clear c6b0
                      try clear p6
                      try clear c7
                      try clear c7b0
                      try clear c7b1
                      try clear c7b2
                      try clear c10
                      try clear c10b0
                      try clear c12
                      try clear p2
                      try clear p6
                      obtain ⟨kq, x37_10, rfl, HA, HJ10, HB⟩ := hcut
                      cases kq with
                      | zero => exact absurd HA.out (by simp [bourseref05_Lay.j4])
                      | succ kj10 =>
                        have H := HA.out
                        clear HA
                        simp only [bourseref05_Lay.j4] at H
                        have HC13 := Aside0.mk H
                        clear H
                        go_upto_if 37 with (fail)
                        go_cut [8] (fun v8 wc => ∃ (kq : Nat) (x8_12 : Int), v8 = .int .u8 x8_12 ∧ Aside0 (bourseref05_Lay.j5 kq x0_2 x1_2 x5_3 x7_8 x8_12 = some r) ∧ Aside0 (kq ≤ kj10) ∧ Aside0 (Below w.heap.size w wc))
                        case first =>
                          have H := HC13.out
                          clear HC13
                          by_cases c14 : x37_10 = true
                          · subst c14
                            have H1 : (bourseref05_Lay.j5 kj10 x0_2 x1_2 x5_3 x7_8 1) = some r := by rw [if_pos rfl] at H; exact H
                            clear H
                            have H := H1
                            clear H1
                            have H' := Aside0.mk H
                            clear H
                            go_wp2
                            go_meet
                            case rel => exact ⟨_, (1), (by first | rfl | (simp; done) | (simp [*]; done)), H', ⟨by have := HJ2.out; have := HK2.out; have := HK3.out; have := HJ8.out; have := HJ10.out; first | omega | exact Nat.le_refl _⟩, ⟨by repeat (first | (with_reducible first | exact HB.out | apply below_alloc | apply pw_below_drewN | apply below_drew1) | exact HB.out)⟩⟩
                          · replace c14 := Bool.eq_false_iff.mpr c14
                            subst c14
                            have H1 : (if x6_2 = true then (bourseref05_Lay.j5 kj10 x0_2 x1_2 x5_3 x7_8 2) else (if x7_8 = (x1_2.size : Int) then (bourseref05_Lay.j5 kj10 x0_2 x1_2 x5_3 x7_8 4) else (bourseref05_Lay.j5 kj10 x0_2 x1_2 x5_3 x7_8 3))) = some r := by rw [if_neg (show ¬ (false = true) by decide)] at H; exact H
                            clear H
                            have H := H1
                            clear H1
                            by_cases c15 : x6_2 = true
                            · subst c15
                              have H1 : (bourseref05_Lay.j5 kj10 x0_2 x1_2 x5_3 x7_8 2) = some r := by rw [if_pos rfl] at H; exact H
                              clear H
                              have H := H1
                              clear H1
                              have H' := Aside0.mk H
                              clear H
                              go_wp2
                              go_meet
                              case rel => exact ⟨_, (2), (by first | rfl | (simp; done) | (simp [*]; done)), H', ⟨by have := HJ2.out; have := HK2.out; have := HK3.out; have := HJ8.out; have := HJ10.out; first | omega | exact Nat.le_refl _⟩, ⟨by repeat (first | (with_reducible first | exact HB.out | apply below_alloc | apply pw_below_drewN | apply below_drew1) | exact HB.out)⟩⟩
                            · replace c15 := Bool.eq_false_iff.mpr c15
                              subst c15
                              have H1 : (if x7_8 = (x1_2.size : Int) then (bourseref05_Lay.j5 kj10 x0_2 x1_2 x5_3 x7_8 4) else (bourseref05_Lay.j5 kj10 x0_2 x1_2 x5_3 x7_8 3)) = some r := by rw [if_neg (show ¬ (false = true) by decide)] at H; exact H
                              clear H
                              have H := H1
                              clear H1
                              by_cases c16 : x7_8 = (x1_2.size : Int)
                              · rw [if_pos c16] at H
                                have c16b0 : (x7_8 == (x1_2.size : Int)) = true := beq_iff_eq.mpr c16
                                have c16b1 : (x7_8 != (x1_2.size : Int)) = false := bne_eq_false_iff_eq.mpr c16
                                clear c16
                                (first | rw [c16b0] | (simp only [i64_w, i32_w]; rw [c16b0]) | skip)
                                have H' := Aside0.mk H
                                clear H
                                go_wp2
                                go_meet
                                case rel => exact ⟨_, (4), (by first | rfl | (simp; done) | (simp [*]; done)), H', ⟨by have := HJ2.out; have := HK2.out; have := HK3.out; have := HJ8.out; have := HJ10.out; first | omega | exact Nat.le_refl _⟩, ⟨by repeat (first | (with_reducible first | exact HB.out | apply below_alloc | apply pw_below_drewN | apply below_drew1) | exact HB.out)⟩⟩
                              · rw [if_neg c16] at H
                                have c16b0 : (x7_8 == (x1_2.size : Int)) = false := beq_eq_false_iff_ne.mpr c16
                                have c16b1 : (x7_8 != (x1_2.size : Int)) = true := bne_iff_ne.mpr c16
                                (first | rw [c16b0] | (simp only [i64_w, i32_w]; rw [c16b0]) | skip)
                                have H' := Aside0.mk H
                                clear H
                                go_wp2
                                go_meet
                                case rel => exact ⟨_, (3), (by first | rfl | (simp; done) | (simp [*]; done)), H', ⟨by have := HJ2.out; have := HK2.out; have := HK3.out; have := HJ8.out; have := HJ10.out; first | omega | exact Nat.le_refl _⟩, ⟨by repeat (first | (with_reducible first | exact HB.out | apply below_alloc | apply pw_below_drewN | apply below_drew1) | exact HB.out)⟩⟩
                        case rest =>
                          clear HC13
                          try clear c1
                          try clear p2
                          try clear c3
                          try clear c4
                          try clear c4b0
                          try clear c6
                          try clear c6b0
                          try clear p6
                          try clear c7
                          try clear c7b0
                          try clear c7b1
                          try clear c7b2
                          try clear c10
                          try clear c10b0
                          try clear c12
                          try clear c14
                          try clear c15
                          try clear c16
                          try clear c16b0
                          try clear c16b1
                          try clear p2
                          try clear p6
                          obtain ⟨kq, x8_12, rfl, HA, HJ12, HB⟩ := hcut
                          cases kq with
                          | zero => exact absurd HA.out (by simp [bourseref05_Lay.j5])
                          | succ kj12 =>
                            have H := HA.out
                            clear HA
                            simp only [bourseref05_Lay.j5] at H
                            by_cases c17 : 0 ≤ x7_8
                            · rw [if_pos c17] at H
                              have c17b0 := eq_true c17
                              have c17b1 : decide (0 ≤ x7_8) = true := decide_eq_true c17
                              clear c17
                              by_cases c18 : x7_8 ≤ (x1_2.size : Int)
                              · rw [if_pos c18] at H
                                have c18b0 := eq_true c18
                                have c18b1 : decide (x7_8 ≤ (x1_2.size : Int)) = true := decide_eq_true c18
                                clear c18
                                replace H := Option.bind_eq_some_iff.mp H
                                obtain ⟨t132, A190, H⟩ := H
                                replace H : (if x5_3.size + t132.size ≤ 9223372036854775807 then ((bourseref03_Little.f kj12 (IntKind.u64.wrap (x7_8)) 2).bind fun t133 => (if (x5_3 ++ t132).size + t133.size ≤ 9223372036854775807 then ((some (([x8_12] : List Int) : List Int)).bind fun y134 => (if ((x5_3 ++ t132) ++ t133).size + (strOfNums y134).size ≤ 9223372036854775807 then (if (((x5_3 ++ t132) ++ t133) ++ (strOfNums y134)).size + (x1_2.extract 0 (x7_8 : Int).toNat).size ≤ 9223372036854775807 then (if x8_12 = 1 then (some ((((x5_3 ++ t132) ++ t133) ++ (strOfNums y134)) ++ (x1_2.extract 0 (x7_8 : Int).toNat))) else (if x8_12 = 4 then (some ((((x5_3 ++ t132) ++ t133) ++ (strOfNums y134)) ++ (x1_2.extract 0 (x7_8 : Int).toNat))) else (bourseref05_Lay.l0 kj12 x0_2 (x1_2.extract (x7_8 : Int).toNat x1_2.size) ((((x5_3 ++ t132) ++ t133) ++ (strOfNums y134)) ++ (x1_2.extract 0 (x7_8 : Int).toNat)) false))) else (none)) else (none))) else (none))) else (none)) = some r := H
                                have A19 := Aside0.mk A190
                                clear A190
                                by_cases c20 : x5_3.size + t132.size ≤ 9223372036854775807
                                · rw [if_pos c20] at H
                                  have c20b0 := eq_true c20
                                  have c20b1 : decide (x5_3.size + t132.size ≤ 9223372036854775807) = true := decide_eq_true c20
                                  try have c20b2 : (9223372036854775807 < x5_3.size + t132.size) = False := eq_false (Nat.not_lt.2 c20)
                                  replace H := Option.bind_eq_some_iff.mp H
                                  obtain ⟨t133, A210, H⟩ := H
                                  replace H : (if (x5_3 ++ t132).size + t133.size ≤ 9223372036854775807 then ((some (([x8_12] : List Int) : List Int)).bind fun y134 => (if ((x5_3 ++ t132) ++ t133).size + (strOfNums y134).size ≤ 9223372036854775807 then (if (((x5_3 ++ t132) ++ t133) ++ (strOfNums y134)).size + (x1_2.extract 0 (x7_8 : Int).toNat).size ≤ 9223372036854775807 then (if x8_12 = 1 then (some ((((x5_3 ++ t132) ++ t133) ++ (strOfNums y134)) ++ (x1_2.extract 0 (x7_8 : Int).toNat))) else (if x8_12 = 4 then (some ((((x5_3 ++ t132) ++ t133) ++ (strOfNums y134)) ++ (x1_2.extract 0 (x7_8 : Int).toNat))) else (bourseref05_Lay.l0 kj12 x0_2 (x1_2.extract (x7_8 : Int).toNat x1_2.size) ((((x5_3 ++ t132) ++ t133) ++ (strOfNums y134)) ++ (x1_2.extract 0 (x7_8 : Int).toNat)) false))) else (none)) else (none))) else (none)) = some r := H
                                  have A21 := Aside0.mk A210
                                  clear A210
                                  by_cases c22 : (x5_3 ++ t132).size + t133.size ≤ 9223372036854775807
                                  · rw [if_pos c22] at H
                                    have c22b0 := eq_true c22
                                    have c22b1 : decide ((x5_3 ++ t132).size + t133.size ≤ 9223372036854775807) = true := decide_eq_true c22
                                    try have c22b2 : (9223372036854775807 < (x5_3 ++ t132).size + t133.size) = False := eq_false (Nat.not_lt.2 c22)
                                    try (have c22b3 := c22b2; simp only [ByteArray.size_append'] at c22b3)
                                    obtain ⟨y134, hy134⟩ : ∃ y_ : List Int, y_ = (([x8_12] : List Int)) := ⟨_, rfl⟩
                                    replace H : (if ((x5_3 ++ t132) ++ t133).size + (strOfNums y134).size ≤ 9223372036854775807 then (if (((x5_3 ++ t132) ++ t133) ++ (strOfNums y134)).size + (x1_2.extract 0 (x7_8 : Int).toNat).size ≤ 9223372036854775807 then (if x8_12 = 1 then (some ((((x5_3 ++ t132) ++ t133) ++ (strOfNums y134)) ++ (x1_2.extract 0 (x7_8 : Int).toNat))) else (if x8_12 = 4 then (some ((((x5_3 ++ t132) ++ t133) ++ (strOfNums y134)) ++ (x1_2.extract 0 (x7_8 : Int).toNat))) else (bourseref05_Lay.l0 kj12 x0_2 (x1_2.extract (x7_8 : Int).toNat x1_2.size) ((((x5_3 ++ t132) ++ t133) ++ (strOfNums y134)) ++ (x1_2.extract 0 (x7_8 : Int).toNat)) false))) else (none)) else (none)) = some r := by first | (rw [hy134]; with_reducible exact H) | (have H2_ := (Option.bind_some _ _).symm.trans H; rw [hy134]; with_reducible exact H2_) | (have H2_ := (Option.bind_some _ _).symm.trans H; with_reducible exact H2_) | with_reducible exact H | (rw [hy134]; exact H) | exact H
                                    have Ny134 := Aside0.mk hy134
                                    clear hy134
                                    by_cases c23 : ((x5_3 ++ t132) ++ t133).size + (strOfNums y134).size ≤ 9223372036854775807
                                    · rw [if_pos c23] at H
                                      have c23b0 := eq_true c23
                                      have c23b1 : decide (((x5_3 ++ t132) ++ t133).size + (strOfNums y134).size ≤ 9223372036854775807) = true := decide_eq_true c23
                                      try have c23b2 : (9223372036854775807 < ((x5_3 ++ t132) ++ t133).size + (strOfNums y134).size) = False := eq_false (Nat.not_lt.2 c23)
                                      try (have c23b3 := c23b2; simp only [ByteArray.size_append'] at c23b3)
                                      have c24b0 := eq_true (of_decide_eq_true (by first | (with_reducible assumption) | assumption) : 0 ≤ x7_8)
                                      have c25b0 := eq_true (of_decide_eq_true (by first | (with_reducible assumption) | assumption) : x7_8 ≤ (x1_2.size : Int))
                                      by_cases c26 : (((x5_3 ++ t132) ++ t133) ++ (strOfNums y134)).size + (x1_2.extract 0 (x7_8 : Int).toNat).size ≤ 9223372036854775807
                                      · rw [if_pos c26] at H
                                        have c26b0 := eq_true c26
                                        have c26b1 : decide ((((x5_3 ++ t132) ++ t133) ++ (strOfNums y134)).size + (x1_2.extract 0 (x7_8 : Int).toNat).size ≤ 9223372036854775807) = true := decide_eq_true c26
                                        try have c26b2 : (9223372036854775807 < (((x5_3 ++ t132) ++ t133) ++ (strOfNums y134)).size + (x1_2.extract 0 (x7_8 : Int).toNat).size) = False := eq_false (Nat.not_lt.2 c26)
                                        try (have c26b3 := c26b2; simp only [ByteArray.size_append'] at c26b3)
                                        try (have hx_ : (x1_2.extract 0 (x7_8 : Int).toNat).size = (x7_8 : Int).toNat := (by have h_ := (of_decide_eq_true (by first | (with_reducible assumption) | assumption) : x7_8 ≤ (x1_2.size : Int)); rw [ByteArray.size_extract]; omega); have cxb4 := c26b3; rw [hx_] at cxb4; clear hx_)
                                        have c27b0 := eq_true (of_decide_eq_true (by first | (with_reducible assumption) | assumption) : 0 ≤ x7_8)
                                        have c28b0 := eq_true (of_decide_eq_true (by first | (with_reducible assumption) | assumption) : x7_8 ≤ (x1_2.size : Int))
                                        by_cases c29 : x8_12 = 1
                                        · rw [if_pos c29] at H
                                          have c29b0 : (x8_12 == 1) = true := beq_iff_eq.mpr c29
                                          have c29b1 : (x8_12 != 1) = false := bne_eq_false_iff_eq.mpr c29
                                          clear c29
                                          obtain rfl := Option.some.inj H
                                          try go_wp2
                                          have n0_ := Aside0.mk (below_drew1 HB.out)
                                          clear HB
                                          have HB := n0_
                                          clear n0_
                                          refine start_ (n := 20) (S := fun w' => True) (ds := []) #[false, false, false, false, false, false, false, false, false, false, false, false, false, false, false, false, false, false, false, false] (by kernel_rfl) rfl rfl trivial (fun hHeld => ?_); refine with_tabW bourseref05_Lay.tab17 bourseref05_Lay.bits17 (fun HT_ HW_ => ?_)
                                          generalize wc.drew = w30 at HB hHeld ⊢
                                          refine pure_ (i := 0) (N := some 43) (v := ?_) (a' := ?_) #[true, false, false, false, false, false, false, false, false, false, false, false, false, false, false, false, false, false, false, false] rfl rfl (any_of HT_.out (by kernel_rfl)) (fun _ _ _ h => h) (Or.inl ⟨by rfl, ?_⟩) ?_ ?_
                                          rotate_left
                                          · intro w'
                                            go_simp
                                            with_reducible rfl
                                          rotate_left
                                          · simp only [Act.put, List.setIfInBounds_toArray, List.set_cons_zero, List.set_cons_succ, i64_w, i32_w]
                                            rfl
                                          refine pure_ (i := 1) (N := some 44) (v := ?_) (a' := ?_) #[true, true, false, false, false, false, false, false, false, false, false, false, false, false, false, false, false, false, false, false] rfl rfl (any_of HT_.out (by kernel_rfl)) (fun _ _ _ h => h) (Or.inl ⟨by rfl, ?_⟩) ?_ ?_
                                          rotate_left
                                          · intro w'
                                            go_simp
                                            with_reducible rfl
                                          rotate_left
                                          · simp only [Act.put, List.setIfInBounds_toArray, List.set_cons_zero, List.set_cons_succ, i64_w, i32_w]
                                            rfl
                                          refine pure_ (i := 2) (N := some 45) (v := ?_) (a' := ?_) #[true, true, true, false, false, false, false, false, false, false, false, false, false, false, false, false, false, false, false, false] rfl rfl (any_of HT_.out (by kernel_rfl)) (fun _ _ _ h => h) (Or.inl ⟨by rfl, ?_⟩) ?_ ?_
                                          rotate_left
                                          · intro w'
                                            go_simp
                                            with_reducible rfl
                                          rotate_left
                                          · simp only [Act.put, List.setIfInBounds_toArray, List.set_cons_zero, List.set_cons_succ, i64_w, i32_w]
                                            rfl
                                          refine pure_ (i := 3) (N := some 46) (v := ?_) (a' := ?_) #[true, true, true, true, false, false, false, false, false, false, false, false, false, false, false, false, false, false, false, false] rfl rfl (any_of HT_.out (by kernel_rfl)) (fun _ _ _ h => h) (Or.inl ⟨by rfl, ?_⟩) ?_ ?_
                                          rotate_left
                                          · intro w'
                                            go_simp
                                            with_reducible rfl
                                          rotate_left
                                          · simp only [Act.put, List.setIfInBounds_toArray, List.set_cons_zero, List.set_cons_succ, i64_w, i32_w]
                                            rfl
                                          refine pure_ (i := 4) (N := some 47) (v := ?_) (a' := ?_) #[true, true, true, true, true, false, false, false, false, false, false, false, false, false, false, false, false, false, false, false] rfl rfl (any_of HT_.out (by kernel_rfl)) (fun _ _ _ h => h) (Or.inl ⟨by rfl, ?_⟩) ?_ ?_
                                          rotate_left
                                          · intro w'
                                            go_simp
                                            with_reducible rfl
                                          rotate_left
                                          · simp only [Act.put, List.setIfInBounds_toArray, List.set_cons_zero, List.set_cons_succ, i64_w, i32_w]
                                            rfl
                                          refine pure_ (i := 7) (N := some 50) (v := ?_) (a' := ?_) #[true, true, true, true, true, false, false, true, false, false, false, false, false, false, false, false, false, false, false, false] rfl rfl (any_of HT_.out (by kernel_rfl)) (fun _ _ _ h => h) (Or.inl ⟨by rfl, ?_⟩) ?_ ?_
                                          rotate_left
                                          · intro w'
                                            go_simp
                                            with_reducible rfl
                                          rotate_left
                                          · simp only [Act.put, List.setIfInBounds_toArray, List.set_cons_zero, List.set_cons_succ, i64_w, i32_w]
                                            rfl
                                          refine pure_ (i := 8) (N := some 51) (v := ?_) (a' := ?_) #[true, true, true, true, true, false, false, true, true, false, false, false, false, false, false, false, false, false, false, false] rfl rfl (any_of HT_.out (by kernel_rfl)) (fun _ _ _ h => h) (Or.inl ⟨by rfl, ?_⟩) ?_ ?_
                                          rotate_left
                                          · intro w'
                                            go_simp
                                            with_reducible rfl
                                          rotate_left
                                          · simp only [Act.put, List.setIfInBounds_toArray, List.set_cons_zero, List.set_cons_succ, i64_w, i32_w]
                                            rfl
                                          refine pure_ (i := 11) (N := some 54) (v := ?_) (a' := ?_) #[true, true, true, true, true, false, false, true, true, false, false, true, false, false, false, false, false, false, false, false] rfl rfl (any_of HT_.out (by kernel_rfl)) (fun _ _ _ h => h) (Or.inl ⟨by rfl, ?_⟩) ?_ ?_
                                          rotate_left
                                          · intro w'
                                            go_simp
                                            with_reducible rfl
                                          rotate_left
                                          · simp only [Act.put, List.setIfInBounds_toArray, List.set_cons_zero, List.set_cons_succ, i64_w, i32_w]
                                            rfl
                                          refine pure_ (i := 15) (N := some 58) (v := ?_) (a' := ?_) #[true, true, true, true, true, false, false, true, true, false, false, true, false, false, false, true, false, false, false, false] rfl rfl (any_of HT_.out (by kernel_rfl)) (fun _ _ _ h => h) (Or.inl ⟨by rfl, ?_⟩) ?_ ?_
                                          rotate_left
                                          · intro w'
                                            go_simp
                                            with_reducible rfl
                                          rotate_left
                                          · simp only [Act.put, List.setIfInBounds_toArray, List.set_cons_zero, List.set_cons_succ, i64_w, i32_w]
                                            rfl
                                          refine pure_ (i := 16) (N := some 59) (v := ?_) (a' := ?_) #[true, true, true, true, true, false, false, true, true, false, false, true, false, false, false, true, true, false, false, false] rfl rfl (any_of HT_.out (by kernel_rfl)) (fun _ _ _ h => h) (Or.inl ⟨by rfl, ?_⟩) ?_ ?_
                                          rotate_left
                                          · intro w'
                                            go_simp
                                            with_reducible rfl
                                          rotate_left
                                          · simp only [Act.put, List.setIfInBounds_toArray, List.set_cons_zero, List.set_cons_succ, i64_w, i32_w]
                                            rfl
                                          refine pure_ (i := 17) (N := some 60) (v := ?_) (a' := ?_) #[true, true, true, true, true, false, false, true, true, false, false, true, false, false, false, true, true, true, false, false] rfl rfl (any_of HT_.out (by kernel_rfl)) (fun _ _ _ h => h) (Or.inl ⟨by rfl, ?_⟩) ?_ ?_
                                          rotate_left
                                          · intro w'
                                            go_simp
                                            with_reducible rfl
                                          rotate_left
                                          · simp only [Act.put, List.setIfInBounds_toArray, List.set_cons_zero, List.set_cons_succ, i64_w, i32_w]
                                            rfl
                                          refine join_ (σ := Value) 3 #[true, true, true, true, true, true, true, true, true, true, true, true, true, true, false, true, true, true, false, false] (fun s_ => [(48, .string t132), (52, .string t133), (55, s_), (56, .string (strOfNums y134)), (49, .string (x5_3 ++ t132)), (53, .string ((x5_3 ++ t132) ++ t133))]) (fun s_ w' => (Kd.R (Kd.int .u8) 5 w' w.heap.size (fun _ => True) s_ y134) ∧ (Below w.heap.size w w')) ?_ ?_
                                          rotate_left
                                          · intro hJ5_9_12_13
                                            refine join_ (σ := Value) 4 #[true, true, true, true, true, true, true, true, true, true, true, true, true, false, false, true, true, true, false, false] (fun s_ => [(48, .string t132), (52, .string t133), (55, s_), (49, .string (x5_3 ++ t132)), (53, .string ((x5_3 ++ t132) ++ t133))]) (fun s_ w' => (Kd.R (Kd.int .u8) 5 w' w.heap.size (fun _ => True) s_ y134) ∧ (Below w.heap.size w w')) ?_ ?_
                                            rotate_left
                                            · intro hJ5_9_12
                                              refine join_ (σ := Value) 5 #[true, true, true, true, true, true, true, true, true, false, false, true, true, true, false, true, true, true, false, false] (fun s_ => [(48, .string t132), (55, s_), (56, .string (strOfNums y134)), (49, .string (x5_3 ++ t132))]) (fun s_ w' => (Kd.R (Kd.int .u8) 5 w' w.heap.size (fun _ => True) s_ y134) ∧ (Below w.heap.size w w')) ?_ ?_
                                              rotate_left
                                              · intro hJ5_12_13
                                                refine join_ (σ := Unit) 5 #[true, true, true, true, true, true, true, true, true, true, true, true, false, false, false, true, true, true, false, false] (fun s_ => [(48, .string t132), (52, .string t133), (49, .string (x5_3 ++ t132)), (53, .string ((x5_3 ++ t132) ++ t133))]) (fun s_ w' => (Below w.heap.size w w')) ?_ ?_
                                                rotate_left
                                                · intro hJ5_9
                                                  refine join_ (σ := Value) 6 #[true, true, true, true, true, true, true, true, true, false, false, true, true, false, false, true, true, true, false, false] (fun s_ => [(48, .string t132), (55, s_), (49, .string (x5_3 ++ t132))]) (fun s_ w' => (Kd.R (Kd.int .u8) 5 w' w.heap.size (fun _ => True) s_ y134) ∧ (Below w.heap.size w w')) ?_ ?_
                                                  rotate_left
                                                  · intro hJ5_12
                                                    refine join_ (σ := Value) 7 #[true, true, true, true, true, false, false, true, true, false, false, true, true, true, false, true, true, true, false, false] (fun s_ => [(55, s_), (56, .string (strOfNums y134))]) (fun s_ w' => (Kd.R (Kd.int .u8) 5 w' w.heap.size (fun _ => True) s_ y134) ∧ (Below w.heap.size w w')) ?_ ?_
                                                    rotate_left
                                                    · intro hJ12_13
                                                      refine join_ (σ := Unit) 7 #[true, true, true, true, true, true, true, true, true, false, false, true, false, false, false, true, true, true, false, false] (fun s_ => [(48, .string t132), (49, .string (x5_3 ++ t132))]) (fun s_ w' => (Below w.heap.size w w')) ?_ ?_
                                                      rotate_left
                                                      · intro hJ5
                                                        refine join_ (σ := Value) 8 #[true, true, true, true, true, false, false, true, true, false, false, true, true, false, false, true, true, true, false, false] (fun s_ => [(55, s_)]) (fun s_ w' => (Kd.R (Kd.int .u8) 5 w' w.heap.size (fun _ => True) s_ y134) ∧ (Below w.heap.size w w')) ?_ ?_
                                                        rotate_left
                                                        · intro hJ12
                                                          refine two_ (i := 5) (j := 12) (Ni := some 48) (Nj := some 55) #[true, true, true, true, true, true, false, true, true, false, false, true, false, false, false, true, true, true, false, false] #[true, true, true, true, true, false, false, true, true, false, false, true, true, false, false, true, true, true, false, false] rfl rfl rfl rfl (two_of HT_.out (by kernel_rfl)) (by decide) (by decide) (fun K hK => ?_) (fun K hK => ?_)
                                                          · skip
                                                            refine goes_ Tryd.func74 (by kernel_rfl) rfl #[.int .u8 x8_12, .string (x1_2.extract 0 (x7_8 : Int).toNat)] (by rfl) rfl rfl (by (try simp only [List.map_toArray, List.map_cons, List.map_nil]); first | done | rfl | (simp only [List.length_drop, List.length_take]; rfl)) ?_
                                                            with_reducible refine (bourseref05_sum.calls kj12 x8_12 (x1_2.extract 0 (x7_8 : Int).toNat) t132 _ A19.out).mono ?_
                                                            rintro e w31 ⟨rfl, hb⟩
                                                            refine ⟨_, rfl, ?_⟩
                                                            have n0_ := Aside0.mk (below_step (by repeat (first | (with_reducible first | exact HB.out | apply below_alloc | apply pw_below_drewN | apply below_drew1) | exact HB.out)) hb)
                                                            clear HB
                                                            have HB := n0_
                                                            clear n0_
                                                            (try clear hb)
                                                            (try clear hb2)
                                                            (try clear hk)
                                                            (try clear hi)
                                                            refine hK.out _ _ trivial (fun hHeld => ?_)
                                                            clear hK K
                                                            refine norm_ (a' := ?_) ?_ ?_
                                                            rotate_left
                                                            · show Act.put _ (some 48) _ = _
                                                              simp only [Act.put, List.setIfInBounds_toArray, List.set_cons_zero, List.set_cons_succ, i64_w, i32_w]
                                                              rfl
                                                            refine pure_ (i := 6) (N := some 49) (v := ?_) (a' := ?_) #[true, true, true, true, true, true, true, true, true, false, false, true, false, false, false, true, true, true, false, false] rfl rfl (any_of HT_.out (by kernel_rfl)) (fun _ _ _ h => h) (Or.inl ⟨by rfl, ?_⟩) ?_ ?_
                                                            rotate_left
                                                            · intro w'
                                                              go_simp
                                                              with_reducible rfl
                                                            rotate_left
                                                            · simp only [Act.put, List.setIfInBounds_toArray, List.set_cons_zero, List.set_cons_succ, i64_w, i32_w]
                                                              rfl
                                                            exact norm_ (by first | (simp only [putAll, Act.put, List.setIfInBounds_toArray, List.set_cons_zero, List.set_cons_succ]; done) | (simp only [putAll, Act.put, List.setIfInBounds_toArray, List.set_cons_zero, List.set_cons_succ]; rfl)) (hJ5 () _ (by repeat (first | (with_reducible first | exact HB.out | apply below_alloc | apply pw_below_drewN | apply below_drew1) | exact HB.out)))
                                                          · skip
                                                            refine Kd.R_lit_step (Kd.int .u8) _ 5 ?hg (N := 55) ?hd (xs := ([x8_12] : List Int)) (inner := [.int .u8 x8_12]) (ok := fun _ => True) (okp := fun _ => True) ?hr ?hp (fun _ hk => hk) trivial (Below.refl _ _) (Nat.le_refl _) (by simp) ?_; (case hd => rfl); (case hg => rfl); (case hr => first | (go_simp; done) | (go_simp; rfl)); (case hp => exact (Reps.one (show Kd.M (Kd.int .u8) _ _ _ x8_12 [.int .u8 x8_12] from rfl) (Reps.none _ _)))
                                                            intro v135 w31 ho32 hb hg_ hnew_
                                                            clear hg_ hnew_
                                                            (first | rw [← Ny134.out] at ho32 | (simp only [Int.reduceToNat] at ho32; rw [← Ny134.out] at ho32))
                                                            have n0_ := Aside0.mk (Kd.R_lower ho32 (below_size (by repeat (first | (with_reducible first | exact HB.out | apply below_alloc | apply pw_below_drewN | apply below_drew1) | exact HB.out))))
                                                            have n1_ := Aside0.mk (below_step (by repeat (first | (with_reducible first | exact HB.out | apply below_alloc | apply pw_below_drewN | apply below_drew1) | exact HB.out)) hb)
                                                            clear HB
                                                            have HO136 := n0_
                                                            have HB := n1_
                                                            clear n0_ n1_
                                                            clear hb ho32
                                                            refine hK.out _ _ trivial (fun hHeld => ?_)
                                                            clear hK K
                                                            refine norm_ (a' := ?_) ?_ ?_
                                                            rotate_left
                                                            · show Act.put _ (some 55) _ = _
                                                              simp only [Act.put, List.setIfInBounds_toArray, List.set_cons_zero, List.set_cons_succ, i64_w, i32_w]
                                                              rfl
                                                            exact norm_ (by first | (simp only [putAll, Act.put, List.setIfInBounds_toArray, List.set_cons_zero, List.set_cons_succ]; done) | (simp only [putAll, Act.put, List.setIfInBounds_toArray, List.set_cons_zero, List.set_cons_succ]; rfl)) (hJ12 (v135) _ ⟨(by (with_reducible repeat (first | apply Kd.R_alloc | apply Kd.R_drewN | apply Kd.R_drew)); exact HO136.out), (by repeat (first | (with_reducible first | exact HB.out | apply below_alloc | apply pw_below_drewN | apply below_drew1) | exact HB.out))⟩)
                                                        · skip
                                                          rintro v135 w33 ⟨h0_, h1_⟩
                                                          have n0_ : Aside0 (Kd.R (Kd.int .u8) 5 w33 w.heap.size (fun _ => True) v135 y134) := ⟨h0_⟩
                                                          have n1_ : Aside0 (Below w.heap.size w w33) := ⟨h1_⟩
                                                          clear HB
                                                          clear h0_ h1_
                                                          have HO136 := n0_
                                                          have HB := n1_
                                                          clear n0_ n1_
                                                          have hHeld := trivial
                                                          refine norm_ (a' := ?_) ?_ ?_
                                                          rotate_left
                                                          · simp only [putAll, Act.put, List.setIfInBounds_toArray, List.set_cons_zero, List.set_cons_succ]
                                                            rfl
                                                          refine two_ (i := 5) (j := 13) (Ni := some 48) (Nj := some 56) #[true, true, true, true, true, true, false, true, true, false, false, true, true, false, false, true, true, true, false, false] #[true, true, true, true, true, false, false, true, true, false, false, true, true, true, false, true, true, true, false, false] rfl rfl rfl rfl (two_of HT_.out (by kernel_rfl)) (by decide) (by decide) (fun K hK => ?_) (fun K hK => ?_)
                                                          · skip
                                                            refine goes_ Tryd.func74 (by kernel_rfl) rfl #[.int .u8 x8_12, .string (x1_2.extract 0 (x7_8 : Int).toNat)] (by rfl) rfl rfl (by (try simp only [List.map_toArray, List.map_cons, List.map_nil]); first | done | rfl | (simp only [List.length_drop, List.length_take]; rfl)) ?_
                                                            with_reducible refine (bourseref05_sum.calls kj12 x8_12 (x1_2.extract 0 (x7_8 : Int).toNat) t132 _ A19.out).mono ?_
                                                            rintro e w34 ⟨rfl, hb⟩
                                                            refine ⟨_, rfl, ?_⟩
                                                            have n0_ := Aside0.mk (Kd.R_below (by (with_reducible repeat (first | apply Kd.R_alloc | apply Kd.R_drewN | apply Kd.R_drew)); exact HO136.out) hb)
                                                            have n1_ := Aside0.mk (below_step (by repeat (first | (with_reducible first | exact HB.out | apply below_alloc | apply pw_below_drewN | apply below_drew1) | exact HB.out)) hb)
                                                            clear HO136
                                                            clear HB
                                                            have HO136 := n0_
                                                            have HB := n1_
                                                            clear n0_ n1_
                                                            (try clear hb)
                                                            (try clear hb2)
                                                            (try clear hk)
                                                            (try clear hi)
                                                            refine hK.out _ _ trivial (fun hHeld => ?_)
                                                            clear hK K
                                                            refine norm_ (a' := ?_) ?_ ?_
                                                            rotate_left
                                                            · show Act.put _ (some 48) _ = _
                                                              simp only [Act.put, List.setIfInBounds_toArray, List.set_cons_zero, List.set_cons_succ, i64_w, i32_w]
                                                              rfl
                                                            refine pure_ (i := 6) (N := some 49) (v := ?_) (a' := ?_) #[true, true, true, true, true, true, true, true, true, false, false, true, true, false, false, true, true, true, false, false] rfl rfl (any_of HT_.out (by kernel_rfl)) (fun _ _ _ h => h) (Or.inl ⟨by rfl, ?_⟩) ?_ ?_
                                                            rotate_left
                                                            · intro w'
                                                              go_simp
                                                              with_reducible rfl
                                                            rotate_left
                                                            · simp only [Act.put, List.setIfInBounds_toArray, List.set_cons_zero, List.set_cons_succ, i64_w, i32_w]
                                                              rfl
                                                            exact norm_ (by first | (simp only [putAll, Act.put, List.setIfInBounds_toArray, List.set_cons_zero, List.set_cons_succ]; done) | (simp only [putAll, Act.put, List.setIfInBounds_toArray, List.set_cons_zero, List.set_cons_succ]; rfl)) (hJ5_12 (v135) _ ⟨(by (with_reducible repeat (first | apply Kd.R_alloc | apply Kd.R_drewN | apply Kd.R_drew)); exact HO136.out), (by repeat (first | (with_reducible first | exact HB.out | apply below_alloc | apply pw_below_drewN | apply below_drew1) | exact HB.out))⟩)
                                                          · skip
                                                            have hcv34 := own_string (P := Tryd.prog) Tryd.underlying64 Tryd.underlying5 Tryd.underlying9 (Kd.own_of_R HO136.out)
                                                            refine value_ (w1 := ?_) (v := ?_) (by rfl) rfl ?_ ?_
                                                            rotate_left 2
                                                            · go_simp
                                                              constructor
                                                              · rfl
                                                              · rfl
                                                            clear hcv34
                                                            refine hK.out _ _ trivial (fun hHeld => ?_)
                                                            clear hK K
                                                            refine norm_ (a' := ?_) ?_ ?_
                                                            rotate_left
                                                            · show Act.put _ (some 56) _ = _
                                                              simp only [Act.put, List.setIfInBounds_toArray, List.set_cons_zero, List.set_cons_succ, i64_w, i32_w]
                                                              rfl
                                                            exact norm_ (by first | (simp only [putAll, Act.put, List.setIfInBounds_toArray, List.set_cons_zero, List.set_cons_succ]; done) | (simp only [putAll, Act.put, List.setIfInBounds_toArray, List.set_cons_zero, List.set_cons_succ]; rfl)) (hJ12_13 (v135) _ ⟨(by (with_reducible repeat (first | apply Kd.R_alloc | apply Kd.R_drewN | apply Kd.R_drew)); exact HO136.out), (by repeat (first | (with_reducible first | exact HB.out | apply below_alloc | apply pw_below_drewN | apply below_drew1) | exact HB.out))⟩)
                                                      · skip
                                                        rintro _ w32 h0_
                                                        have n0_ : Aside0 (Below w.heap.size w w32) := ⟨h0_⟩
                                                        clear HB
                                                        clear h0_
                                                        have HB := n0_
                                                        clear n0_
                                                        have hHeld := trivial
                                                        refine norm_ (a' := ?_) ?_ ?_
                                                        rotate_left
                                                        · simp only [putAll, Act.put, List.setIfInBounds_toArray, List.set_cons_zero, List.set_cons_succ]
                                                          rfl
                                                        refine two_ (i := 9) (j := 12) (Ni := some 52) (Nj := some 55) #[true, true, true, true, true, true, true, true, true, true, false, true, false, false, false, true, true, true, false, false] #[true, true, true, true, true, true, true, true, true, false, false, true, true, false, false, true, true, true, false, false] rfl rfl rfl rfl (two_of HT_.out (by kernel_rfl)) (by decide) (by decide) (fun K hK => ?_) (fun K hK => ?_)
                                                        · skip
                                                          refine goes_ Tryd.func84 (by kernel_rfl) rfl #[.int .u64 (IntKind.u64.wrap (x7_8)), .int .i64 2] (by rfl) rfl rfl (by (try simp only [List.map_toArray, List.map_cons, List.map_nil]); first | done | rfl | (simp only [List.length_drop, List.length_take]; rfl)) ?_
                                                          with_reducible refine (bourseref03_Little.calls kj12 (IntKind.u64.wrap (x7_8)) 2 t133 _ A21.out).mono ?_
                                                          rintro e w33 ⟨rfl, hb⟩
                                                          refine ⟨_, rfl, ?_⟩
                                                          have n0_ := Aside0.mk (below_step (by repeat (first | (with_reducible first | exact HB.out | apply below_alloc | apply pw_below_drewN | apply below_drew1) | exact HB.out)) hb)
                                                          clear HB
                                                          have HB := n0_
                                                          clear n0_
                                                          (try clear hb)
                                                          (try clear hb2)
                                                          (try clear hk)
                                                          (try clear hi)
                                                          refine hK.out _ _ trivial (fun hHeld => ?_)
                                                          clear hK K
                                                          refine norm_ (a' := ?_) ?_ ?_
                                                          rotate_left
                                                          · show Act.put _ (some 52) _ = _
                                                            simp only [Act.put, List.setIfInBounds_toArray, List.set_cons_zero, List.set_cons_succ, i64_w, i32_w]
                                                            rfl
                                                          refine pure_ (i := 10) (N := some 53) (v := ?_) (a' := ?_) #[true, true, true, true, true, true, true, true, true, true, true, true, false, false, false, true, true, true, false, false] rfl rfl (any_of HT_.out (by kernel_rfl)) (fun _ _ _ h => h) (Or.inl ⟨by rfl, ?_⟩) ?_ ?_
                                                          rotate_left
                                                          · intro w'
                                                            go_simp
                                                            with_reducible rfl
                                                          rotate_left
                                                          · simp only [Act.put, List.setIfInBounds_toArray, List.set_cons_zero, List.set_cons_succ, i64_w, i32_w]
                                                            rfl
                                                          exact norm_ (by first | (simp only [putAll, Act.put, List.setIfInBounds_toArray, List.set_cons_zero, List.set_cons_succ]; done) | (simp only [putAll, Act.put, List.setIfInBounds_toArray, List.set_cons_zero, List.set_cons_succ]; rfl)) (hJ5_9 () _ (by repeat (first | (with_reducible first | exact HB.out | apply below_alloc | apply pw_below_drewN | apply below_drew1) | exact HB.out)))
                                                        · skip
                                                          refine Kd.R_lit_step (Kd.int .u8) _ 5 ?hg (N := 55) ?hd (xs := ([x8_12] : List Int)) (inner := [.int .u8 x8_12]) (ok := fun _ => True) (okp := fun _ => True) ?hr ?hp (fun _ hk => hk) trivial (Below.refl _ _) (Nat.le_refl _) (by simp) ?_; (case hd => rfl); (case hg => rfl); (case hr => first | (go_simp; done) | (go_simp; rfl)); (case hp => exact (Reps.one (show Kd.M (Kd.int .u8) _ _ _ x8_12 [.int .u8 x8_12] from rfl) (Reps.none _ _)))
                                                          intro v135 w33 ho34 hb hg_ hnew_
                                                          clear hg_ hnew_
                                                          (first | rw [← Ny134.out] at ho34 | (simp only [Int.reduceToNat] at ho34; rw [← Ny134.out] at ho34))
                                                          have n0_ := Aside0.mk (Kd.R_lower ho34 (below_size (by repeat (first | (with_reducible first | exact HB.out | apply below_alloc | apply pw_below_drewN | apply below_drew1) | exact HB.out))))
                                                          have n1_ := Aside0.mk (below_step (by repeat (first | (with_reducible first | exact HB.out | apply below_alloc | apply pw_below_drewN | apply below_drew1) | exact HB.out)) hb)
                                                          clear HB
                                                          have HO136 := n0_
                                                          have HB := n1_
                                                          clear n0_ n1_
                                                          clear hb ho34
                                                          refine hK.out _ _ trivial (fun hHeld => ?_)
                                                          clear hK K
                                                          refine norm_ (a' := ?_) ?_ ?_
                                                          rotate_left
                                                          · show Act.put _ (some 55) _ = _
                                                            simp only [Act.put, List.setIfInBounds_toArray, List.set_cons_zero, List.set_cons_succ, i64_w, i32_w]
                                                            rfl
                                                          exact norm_ (by first | (simp only [putAll, Act.put, List.setIfInBounds_toArray, List.set_cons_zero, List.set_cons_succ]; done) | (simp only [putAll, Act.put, List.setIfInBounds_toArray, List.set_cons_zero, List.set_cons_succ]; rfl)) (hJ5_12 (v135) _ ⟨(by (with_reducible repeat (first | apply Kd.R_alloc | apply Kd.R_drewN | apply Kd.R_drew)); exact HO136.out), (by repeat (first | (with_reducible first | exact HB.out | apply below_alloc | apply pw_below_drewN | apply below_drew1) | exact HB.out))⟩)
                                                    · skip
                                                      rintro v135 w34 ⟨h0_, h1_⟩
                                                      have n0_ : Aside0 (Kd.R (Kd.int .u8) 5 w34 w.heap.size (fun _ => True) v135 y134) := ⟨h0_⟩
                                                      have n1_ : Aside0 (Below w.heap.size w w34) := ⟨h1_⟩
                                                      clear HB
                                                      clear h0_ h1_
                                                      have HO136 := n0_
                                                      have HB := n1_
                                                      clear n0_ n1_
                                                      have hHeld := trivial
                                                      refine norm_ (a' := ?_) ?_ ?_
                                                      rotate_left
                                                      · simp only [putAll, Act.put, List.setIfInBounds_toArray, List.set_cons_zero, List.set_cons_succ]
                                                        rfl
                                                      refine one_ (i := 5) (N := some 48) #[true, true, true, true, true, true, false, true, true, false, false, true, true, true, false, true, true, true, false, false] rfl rfl (one_of HT_.out (by kernel_rfl)) (by decide) (fun K hK => ?_)
                                                      refine goes_ Tryd.func74 (by kernel_rfl) rfl #[.int .u8 x8_12, .string (x1_2.extract 0 (x7_8 : Int).toNat)] (by rfl) rfl rfl (by (try simp only [List.map_toArray, List.map_cons, List.map_nil]); first | done | rfl | (simp only [List.length_drop, List.length_take]; rfl)) ?_
                                                      with_reducible refine (bourseref05_sum.calls kj12 x8_12 (x1_2.extract 0 (x7_8 : Int).toNat) t132 _ A19.out).mono ?_
                                                      rintro e w35 ⟨rfl, hb⟩
                                                      refine ⟨_, rfl, ?_⟩
                                                      have n0_ := Aside0.mk (Kd.R_below (by (with_reducible repeat (first | apply Kd.R_alloc | apply Kd.R_drewN | apply Kd.R_drew)); exact HO136.out) hb)
                                                      have n1_ := Aside0.mk (below_step (by repeat (first | (with_reducible first | exact HB.out | apply below_alloc | apply pw_below_drewN | apply below_drew1) | exact HB.out)) hb)
                                                      clear HO136
                                                      clear HB
                                                      have HO136 := n0_
                                                      have HB := n1_
                                                      clear n0_ n1_
                                                      (try clear hb)
                                                      (try clear hb2)
                                                      (try clear hk)
                                                      (try clear hi)
                                                      refine hK.out _ _ trivial (fun hHeld => ?_)
                                                      clear hK K
                                                      refine norm_ (a' := ?_) ?_ ?_
                                                      rotate_left
                                                      · show Act.put _ (some 48) _ = _
                                                        simp only [Act.put, List.setIfInBounds_toArray, List.set_cons_zero, List.set_cons_succ, i64_w, i32_w]
                                                        rfl
                                                      refine pure_ (i := 6) (N := some 49) (v := ?_) (a' := ?_) #[true, true, true, true, true, true, true, true, true, false, false, true, true, true, false, true, true, true, false, false] rfl rfl (any_of HT_.out (by kernel_rfl)) (fun _ _ _ h => h) (Or.inl ⟨by rfl, ?_⟩) ?_ ?_
                                                      rotate_left
                                                      · intro w'
                                                        go_simp
                                                        with_reducible rfl
                                                      rotate_left
                                                      · simp only [Act.put, List.setIfInBounds_toArray, List.set_cons_zero, List.set_cons_succ, i64_w, i32_w]
                                                        rfl
                                                      exact norm_ (by first | (simp only [putAll, Act.put, List.setIfInBounds_toArray, List.set_cons_zero, List.set_cons_succ]; done) | (simp only [putAll, Act.put, List.setIfInBounds_toArray, List.set_cons_zero, List.set_cons_succ]; rfl)) (hJ5_12_13 (v135) _ ⟨(by (with_reducible repeat (first | apply Kd.R_alloc | apply Kd.R_drewN | apply Kd.R_drew)); exact HO136.out), (by repeat (first | (with_reducible first | exact HB.out | apply below_alloc | apply pw_below_drewN | apply below_drew1) | exact HB.out))⟩)
                                                  · skip
                                                    rintro v135 w34 ⟨h0_, h1_⟩
                                                    have n0_ : Aside0 (Kd.R (Kd.int .u8) 5 w34 w.heap.size (fun _ => True) v135 y134) := ⟨h0_⟩
                                                    have n1_ : Aside0 (Below w.heap.size w w34) := ⟨h1_⟩
                                                    clear HB
                                                    clear h0_ h1_
                                                    have HO136 := n0_
                                                    have HB := n1_
                                                    clear n0_ n1_
                                                    have hHeld := trivial
                                                    refine norm_ (a' := ?_) ?_ ?_
                                                    rotate_left
                                                    · simp only [putAll, Act.put, List.setIfInBounds_toArray, List.set_cons_zero, List.set_cons_succ]
                                                      rfl
                                                    refine two_ (i := 9) (j := 13) (Ni := some 52) (Nj := some 56) #[true, true, true, true, true, true, true, true, true, true, false, true, true, false, false, true, true, true, false, false] #[true, true, true, true, true, true, true, true, true, false, false, true, true, true, false, true, true, true, false, false] rfl rfl rfl rfl (two_of HT_.out (by kernel_rfl)) (by decide) (by decide) (fun K hK => ?_) (fun K hK => ?_)
                                                    · skip
                                                      refine goes_ Tryd.func84 (by kernel_rfl) rfl #[.int .u64 (IntKind.u64.wrap (x7_8)), .int .i64 2] (by rfl) rfl rfl (by (try simp only [List.map_toArray, List.map_cons, List.map_nil]); first | done | rfl | (simp only [List.length_drop, List.length_take]; rfl)) ?_
                                                      with_reducible refine (bourseref03_Little.calls kj12 (IntKind.u64.wrap (x7_8)) 2 t133 _ A21.out).mono ?_
                                                      rintro e w35 ⟨rfl, hb⟩
                                                      refine ⟨_, rfl, ?_⟩
                                                      have n0_ := Aside0.mk (Kd.R_below (by (with_reducible repeat (first | apply Kd.R_alloc | apply Kd.R_drewN | apply Kd.R_drew)); exact HO136.out) hb)
                                                      have n1_ := Aside0.mk (below_step (by repeat (first | (with_reducible first | exact HB.out | apply below_alloc | apply pw_below_drewN | apply below_drew1) | exact HB.out)) hb)
                                                      clear HO136
                                                      clear HB
                                                      have HO136 := n0_
                                                      have HB := n1_
                                                      clear n0_ n1_
                                                      (try clear hb)
                                                      (try clear hb2)
                                                      (try clear hk)
                                                      (try clear hi)
                                                      refine hK.out _ _ trivial (fun hHeld => ?_)
                                                      clear hK K
                                                      refine norm_ (a' := ?_) ?_ ?_
                                                      rotate_left
                                                      · show Act.put _ (some 52) _ = _
                                                        simp only [Act.put, List.setIfInBounds_toArray, List.set_cons_zero, List.set_cons_succ, i64_w, i32_w]
                                                        rfl
                                                      refine pure_ (i := 10) (N := some 53) (v := ?_) (a' := ?_) #[true, true, true, true, true, true, true, true, true, true, true, true, true, false, false, true, true, true, false, false] rfl rfl (any_of HT_.out (by kernel_rfl)) (fun _ _ _ h => h) (Or.inl ⟨by rfl, ?_⟩) ?_ ?_
                                                      rotate_left
                                                      · intro w'
                                                        go_simp
                                                        with_reducible rfl
                                                      rotate_left
                                                      · simp only [Act.put, List.setIfInBounds_toArray, List.set_cons_zero, List.set_cons_succ, i64_w, i32_w]
                                                        rfl
                                                      exact norm_ (by first | (simp only [putAll, Act.put, List.setIfInBounds_toArray, List.set_cons_zero, List.set_cons_succ]; done) | (simp only [putAll, Act.put, List.setIfInBounds_toArray, List.set_cons_zero, List.set_cons_succ]; rfl)) (hJ5_9_12 (v135) _ ⟨(by (with_reducible repeat (first | apply Kd.R_alloc | apply Kd.R_drewN | apply Kd.R_drew)); exact HO136.out), (by repeat (first | (with_reducible first | exact HB.out | apply below_alloc | apply pw_below_drewN | apply below_drew1) | exact HB.out))⟩)
                                                    · skip
                                                      have hcv35 := own_string (P := Tryd.prog) Tryd.underlying64 Tryd.underlying5 Tryd.underlying9 (Kd.own_of_R HO136.out)
                                                      refine value_ (w1 := ?_) (v := ?_) (by rfl) rfl ?_ ?_
                                                      rotate_left 2
                                                      · go_simp
                                                        constructor
                                                        · rfl
                                                        · rfl
                                                      clear hcv35
                                                      refine hK.out _ _ trivial (fun hHeld => ?_)
                                                      clear hK K
                                                      refine norm_ (a' := ?_) ?_ ?_
                                                      rotate_left
                                                      · show Act.put _ (some 56) _ = _
                                                        simp only [Act.put, List.setIfInBounds_toArray, List.set_cons_zero, List.set_cons_succ, i64_w, i32_w]
                                                        rfl
                                                      exact norm_ (by first | (simp only [putAll, Act.put, List.setIfInBounds_toArray, List.set_cons_zero, List.set_cons_succ]; done) | (simp only [putAll, Act.put, List.setIfInBounds_toArray, List.set_cons_zero, List.set_cons_succ]; rfl)) (hJ5_12_13 (v135) _ ⟨(by (with_reducible repeat (first | apply Kd.R_alloc | apply Kd.R_drewN | apply Kd.R_drew)); exact HO136.out), (by repeat (first | (with_reducible first | exact HB.out | apply below_alloc | apply pw_below_drewN | apply below_drew1) | exact HB.out))⟩)
                                                · skip
                                                  rintro _ w33 h0_
                                                  have n0_ : Aside0 (Below w.heap.size w w33) := ⟨h0_⟩
                                                  clear HB
                                                  clear h0_
                                                  have HB := n0_
                                                  clear n0_
                                                  have hHeld := trivial
                                                  refine norm_ (a' := ?_) ?_ ?_
                                                  rotate_left
                                                  · simp only [putAll, Act.put, List.setIfInBounds_toArray, List.set_cons_zero, List.set_cons_succ]
                                                    rfl
                                                  refine one_ (i := 12) (N := some 55) #[true, true, true, true, true, true, true, true, true, true, true, true, true, false, false, true, true, true, false, false] rfl rfl (one_of HT_.out (by kernel_rfl)) (by decide) (fun K hK => ?_)
                                                  refine Kd.R_lit_step (Kd.int .u8) _ 5 ?hg (N := 55) ?hd (xs := ([x8_12] : List Int)) (inner := [.int .u8 x8_12]) (ok := fun _ => True) (okp := fun _ => True) ?hr ?hp (fun _ hk => hk) trivial (Below.refl _ _) (Nat.le_refl _) (by simp) ?_; (case hd => rfl); (case hg => rfl); (case hr => first | (go_simp; done) | (go_simp; rfl)); (case hp => exact (Reps.one (show Kd.M (Kd.int .u8) _ _ _ x8_12 [.int .u8 x8_12] from rfl) (Reps.none _ _)))
                                                  intro v135 w34 ho35 hb hg_ hnew_
                                                  clear hg_ hnew_
                                                  (first | rw [← Ny134.out] at ho35 | (simp only [Int.reduceToNat] at ho35; rw [← Ny134.out] at ho35))
                                                  have n0_ := Aside0.mk (Kd.R_lower ho35 (below_size (by repeat (first | (with_reducible first | exact HB.out | apply below_alloc | apply pw_below_drewN | apply below_drew1) | exact HB.out))))
                                                  have n1_ := Aside0.mk (below_step (by repeat (first | (with_reducible first | exact HB.out | apply below_alloc | apply pw_below_drewN | apply below_drew1) | exact HB.out)) hb)
                                                  clear HB
                                                  have HO136 := n0_
                                                  have HB := n1_
                                                  clear n0_ n1_
                                                  clear hb ho35
                                                  refine hK.out _ _ trivial (fun hHeld => ?_)
                                                  clear hK K
                                                  refine norm_ (a' := ?_) ?_ ?_
                                                  rotate_left
                                                  · show Act.put _ (some 55) _ = _
                                                    simp only [Act.put, List.setIfInBounds_toArray, List.set_cons_zero, List.set_cons_succ, i64_w, i32_w]
                                                    rfl
                                                  exact norm_ (by first | (simp only [putAll, Act.put, List.setIfInBounds_toArray, List.set_cons_zero, List.set_cons_succ]; done) | (simp only [putAll, Act.put, List.setIfInBounds_toArray, List.set_cons_zero, List.set_cons_succ]; rfl)) (hJ5_9_12 (v135) _ ⟨(by (with_reducible repeat (first | apply Kd.R_alloc | apply Kd.R_drewN | apply Kd.R_drew)); exact HO136.out), (by repeat (first | (with_reducible first | exact HB.out | apply below_alloc | apply pw_below_drewN | apply below_drew1) | exact HB.out))⟩)
                                              · skip
                                                rintro v135 w35 ⟨h0_, h1_⟩
                                                have n0_ : Aside0 (Kd.R (Kd.int .u8) 5 w35 w.heap.size (fun _ => True) v135 y134) := ⟨h0_⟩
                                                have n1_ : Aside0 (Below w.heap.size w w35) := ⟨h1_⟩
                                                clear HB
                                                clear h0_ h1_
                                                have HO136 := n0_
                                                have HB := n1_
                                                clear n0_ n1_
                                                have hHeld := trivial
                                                refine norm_ (a' := ?_) ?_ ?_
                                                rotate_left
                                                · simp only [putAll, Act.put, List.setIfInBounds_toArray, List.set_cons_zero, List.set_cons_succ]
                                                  rfl
                                                refine one_ (i := 9) (N := some 52) #[true, true, true, true, true, true, true, true, true, true, false, true, true, true, false, true, true, true, false, false] rfl rfl (one_of HT_.out (by kernel_rfl)) (by decide) (fun K hK => ?_)
                                                refine goes_ Tryd.func84 (by kernel_rfl) rfl #[.int .u64 (IntKind.u64.wrap (x7_8)), .int .i64 2] (by rfl) rfl rfl (by (try simp only [List.map_toArray, List.map_cons, List.map_nil]); first | done | rfl | (simp only [List.length_drop, List.length_take]; rfl)) ?_
                                                with_reducible refine (bourseref03_Little.calls kj12 (IntKind.u64.wrap (x7_8)) 2 t133 _ A21.out).mono ?_
                                                rintro e w36 ⟨rfl, hb⟩
                                                refine ⟨_, rfl, ?_⟩
                                                have n0_ := Aside0.mk (Kd.R_below (by (with_reducible repeat (first | apply Kd.R_alloc | apply Kd.R_drewN | apply Kd.R_drew)); exact HO136.out) hb)
                                                have n1_ := Aside0.mk (below_step (by repeat (first | (with_reducible first | exact HB.out | apply below_alloc | apply pw_below_drewN | apply below_drew1) | exact HB.out)) hb)
                                                clear HO136
                                                clear HB
                                                have HO136 := n0_
                                                have HB := n1_
                                                clear n0_ n1_
                                                (try clear hb)
                                                (try clear hb2)
                                                (try clear hk)
                                                (try clear hi)
                                                refine hK.out _ _ trivial (fun hHeld => ?_)
                                                clear hK K
                                                refine norm_ (a' := ?_) ?_ ?_
                                                rotate_left
                                                · show Act.put _ (some 52) _ = _
                                                  simp only [Act.put, List.setIfInBounds_toArray, List.set_cons_zero, List.set_cons_succ, i64_w, i32_w]
                                                  rfl
                                                refine pure_ (i := 10) (N := some 53) (v := ?_) (a' := ?_) #[true, true, true, true, true, true, true, true, true, true, true, true, true, true, false, true, true, true, false, false] rfl rfl (any_of HT_.out (by kernel_rfl)) (fun _ _ _ h => h) (Or.inl ⟨by rfl, ?_⟩) ?_ ?_
                                                rotate_left
                                                · intro w'
                                                  go_simp
                                                  with_reducible rfl
                                                rotate_left
                                                · simp only [Act.put, List.setIfInBounds_toArray, List.set_cons_zero, List.set_cons_succ, i64_w, i32_w]
                                                  rfl
                                                exact norm_ (by first | (simp only [putAll, Act.put, List.setIfInBounds_toArray, List.set_cons_zero, List.set_cons_succ]; done) | (simp only [putAll, Act.put, List.setIfInBounds_toArray, List.set_cons_zero, List.set_cons_succ]; rfl)) (hJ5_9_12_13 (v135) _ ⟨(by (with_reducible repeat (first | apply Kd.R_alloc | apply Kd.R_drewN | apply Kd.R_drew)); exact HO136.out), (by repeat (first | (with_reducible first | exact HB.out | apply below_alloc | apply pw_below_drewN | apply below_drew1) | exact HB.out))⟩)
                                            · skip
                                              rintro v135 w35 ⟨h0_, h1_⟩
                                              have n0_ : Aside0 (Kd.R (Kd.int .u8) 5 w35 w.heap.size (fun _ => True) v135 y134) := ⟨h0_⟩
                                              have n1_ : Aside0 (Below w.heap.size w w35) := ⟨h1_⟩
                                              clear HB
                                              clear h0_ h1_
                                              have HO136 := n0_
                                              have HB := n1_
                                              clear n0_ n1_
                                              have hHeld := trivial
                                              refine norm_ (a' := ?_) ?_ ?_
                                              rotate_left
                                              · simp only [putAll, Act.put, List.setIfInBounds_toArray, List.set_cons_zero, List.set_cons_succ]
                                                rfl
                                              refine one_ (i := 13) (N := some 56) #[true, true, true, true, true, true, true, true, true, true, true, true, true, true, false, true, true, true, false, false] rfl rfl (one_of HT_.out (by kernel_rfl)) (by decide) (fun K hK => ?_)
                                              have hcv36 := own_string (P := Tryd.prog) Tryd.underlying64 Tryd.underlying5 Tryd.underlying9 (Kd.own_of_R HO136.out)
                                              refine value_ (w1 := ?_) (v := ?_) (by rfl) rfl ?_ ?_
                                              rotate_left 2
                                              · go_simp
                                                constructor
                                                · rfl
                                                · rfl
                                              clear hcv36
                                              refine hK.out _ _ trivial (fun hHeld => ?_)
                                              clear hK K
                                              refine norm_ (a' := ?_) ?_ ?_
                                              rotate_left
                                              · show Act.put _ (some 56) _ = _
                                                simp only [Act.put, List.setIfInBounds_toArray, List.set_cons_zero, List.set_cons_succ, i64_w, i32_w]
                                                rfl
                                              exact norm_ (by first | (simp only [putAll, Act.put, List.setIfInBounds_toArray, List.set_cons_zero, List.set_cons_succ]; done) | (simp only [putAll, Act.put, List.setIfInBounds_toArray, List.set_cons_zero, List.set_cons_succ]; rfl)) (hJ5_9_12_13 (v135) _ ⟨(by (with_reducible repeat (first | apply Kd.R_alloc | apply Kd.R_drewN | apply Kd.R_drew)); exact HO136.out), (by repeat (first | (with_reducible first | exact HB.out | apply below_alloc | apply pw_below_drewN | apply below_drew1) | exact HB.out))⟩)
                                          rintro v135 w36 ⟨h0_, h1_⟩
                                          have n0_ : Aside0 (Kd.R (Kd.int .u8) 5 w36 w.heap.size (fun _ => True) v135 y134) := ⟨h0_⟩
                                          have n1_ : Aside0 (Below w.heap.size w w36) := ⟨h1_⟩
                                          clear HB
                                          clear h0_ h1_
                                          have HO136 := n0_
                                          have HB := n1_
                                          clear n0_ n1_
                                          have hHeld := trivial
                                          refine norm_ (a' := ?_) ?_ ?_
                                          rotate_left
                                          · simp only [putAll, Act.put, List.setIfInBounds_toArray, List.set_cons_zero, List.set_cons_succ]
                                            rfl
                                          refine pure_ (i := 14) (N := some 57) (v := ?_) (a' := ?_) #[true, true, true, true, true, true, true, true, true, true, true, true, true, true, true, true, true, true, false, false] rfl rfl (any_of HT_.out (by kernel_rfl)) (fun _ _ _ h => h) (Or.inl ⟨by rfl, ?_⟩) ?_ ?_
                                          rotate_left
                                          · intro w'
                                            go_simp
                                            with_reducible rfl
                                          rotate_left
                                          · simp only [Act.put, List.setIfInBounds_toArray, List.set_cons_zero, List.set_cons_succ, i64_w, i32_w]
                                            rfl
                                          refine pure_ (i := 18) (N := some 61) (v := ?_) (a' := ?_) #[true, true, true, true, true, true, true, true, true, true, true, true, true, true, true, true, true, true, true, false] rfl rfl (any_of HT_.out (by kernel_rfl)) (fun _ _ _ h => h) (Or.inl ⟨by rfl, ?_⟩) ?_ ?_
                                          rotate_left
                                          · intro w'
                                            go_simp
                                            with_reducible rfl
                                          rotate_left
                                          · simp only [Act.put, List.setIfInBounds_toArray, List.set_cons_zero, List.set_cons_succ, i64_w, i32_w]
                                            rfl
                                          refine pure_ (i := 19) (N := some 5) (v := ?_) (a' := ?_) #[true, true, true, true, true, true, true, true, true, true, true, true, true, true, true, true, true, true, true, true] rfl rfl (any_of HT_.out (by kernel_rfl)) (fun _ _ _ h => h) (Or.inl ⟨by rfl, ?_⟩) ?_ ?_
                                          rotate_left
                                          · intro w'
                                            go_simp
                                            with_reducible rfl
                                          rotate_left
                                          · simp only [Act.put, List.setIfInBounds_toArray, List.set_cons_zero, List.set_cons_succ, i64_w, i32_w]
                                            rfl
                                          refine done_ (done_of HT_.out (by kernel_rfl)) ?_
                                          try go_wp2
                                          go_ret
                                          exact ⟨by first | rfl | (simp [errW_none, errW_some] <;> rfl) | (simp [*, errW_none, errW_some] <;> rfl), by repeat (first | (with_reducible first | exact HB.out | apply below_alloc | apply pw_below_drewN | apply below_drew1) | exact HB.out)⟩
                                        · rw [if_neg c29] at H
                                          have c29b0 : (x8_12 == 1) = false := beq_eq_false_iff_ne.mpr c29
                                          have c29b1 : (x8_12 != 1) = true := bne_iff_ne.mpr c29
                                          by_cases c37 : x8_12 = 4
                                          · rw [if_pos c37] at H
                                            have c37b0 : (x8_12 == 4) = true := beq_iff_eq.mpr c37
                                            have c37b1 : (x8_12 != 4) = false := bne_eq_false_iff_eq.mpr c37
                                            clear c37
                                            obtain rfl := Option.some.inj H
                                            try go_wp2
                                            have n0_ := Aside0.mk (below_drew1 HB.out)
                                            clear HB
                                            have HB := n0_
                                            clear n0_
                                            refine start_ (n := 20) (S := fun w' => True) (ds := []) #[false, false, false, false, false, false, false, false, false, false, false, false, false, false, false, false, false, false, false, false] (by kernel_rfl) rfl rfl trivial (fun hHeld => ?_); refine with_tabW bourseref05_Lay.tab17 bourseref05_Lay.bits17 (fun HT_ HW_ => ?_)
                                            generalize wc.drew = w38 at HB hHeld ⊢
                                            refine pure_ (i := 0) (N := some 43) (v := ?_) (a' := ?_) #[true, false, false, false, false, false, false, false, false, false, false, false, false, false, false, false, false, false, false, false] rfl rfl (any_of HT_.out (by kernel_rfl)) (fun _ _ _ h => h) (Or.inl ⟨by rfl, ?_⟩) ?_ ?_
                                            rotate_left
                                            · intro w'
                                              go_simp
                                              with_reducible rfl
                                            rotate_left
                                            · simp only [Act.put, List.setIfInBounds_toArray, List.set_cons_zero, List.set_cons_succ, i64_w, i32_w]
                                              rfl
                                            refine pure_ (i := 1) (N := some 44) (v := ?_) (a' := ?_) #[true, true, false, false, false, false, false, false, false, false, false, false, false, false, false, false, false, false, false, false] rfl rfl (any_of HT_.out (by kernel_rfl)) (fun _ _ _ h => h) (Or.inl ⟨by rfl, ?_⟩) ?_ ?_
                                            rotate_left
                                            · intro w'
                                              go_simp
                                              with_reducible rfl
                                            rotate_left
                                            · simp only [Act.put, List.setIfInBounds_toArray, List.set_cons_zero, List.set_cons_succ, i64_w, i32_w]
                                              rfl
                                            refine pure_ (i := 2) (N := some 45) (v := ?_) (a' := ?_) #[true, true, true, false, false, false, false, false, false, false, false, false, false, false, false, false, false, false, false, false] rfl rfl (any_of HT_.out (by kernel_rfl)) (fun _ _ _ h => h) (Or.inl ⟨by rfl, ?_⟩) ?_ ?_
                                            rotate_left
                                            · intro w'
                                              go_simp
                                              with_reducible rfl
                                            rotate_left
                                            · simp only [Act.put, List.setIfInBounds_toArray, List.set_cons_zero, List.set_cons_succ, i64_w, i32_w]
                                              rfl
                                            refine pure_ (i := 3) (N := some 46) (v := ?_) (a' := ?_) #[true, true, true, true, false, false, false, false, false, false, false, false, false, false, false, false, false, false, false, false] rfl rfl (any_of HT_.out (by kernel_rfl)) (fun _ _ _ h => h) (Or.inl ⟨by rfl, ?_⟩) ?_ ?_
                                            rotate_left
                                            · intro w'
                                              go_simp
                                              with_reducible rfl
                                            rotate_left
                                            · simp only [Act.put, List.setIfInBounds_toArray, List.set_cons_zero, List.set_cons_succ, i64_w, i32_w]
                                              rfl
                                            refine pure_ (i := 4) (N := some 47) (v := ?_) (a' := ?_) #[true, true, true, true, true, false, false, false, false, false, false, false, false, false, false, false, false, false, false, false] rfl rfl (any_of HT_.out (by kernel_rfl)) (fun _ _ _ h => h) (Or.inl ⟨by rfl, ?_⟩) ?_ ?_
                                            rotate_left
                                            · intro w'
                                              go_simp
                                              with_reducible rfl
                                            rotate_left
                                            · simp only [Act.put, List.setIfInBounds_toArray, List.set_cons_zero, List.set_cons_succ, i64_w, i32_w]
                                              rfl
                                            refine pure_ (i := 7) (N := some 50) (v := ?_) (a' := ?_) #[true, true, true, true, true, false, false, true, false, false, false, false, false, false, false, false, false, false, false, false] rfl rfl (any_of HT_.out (by kernel_rfl)) (fun _ _ _ h => h) (Or.inl ⟨by rfl, ?_⟩) ?_ ?_
                                            rotate_left
                                            · intro w'
                                              go_simp
                                              with_reducible rfl
                                            rotate_left
                                            · simp only [Act.put, List.setIfInBounds_toArray, List.set_cons_zero, List.set_cons_succ, i64_w, i32_w]
                                              rfl
                                            refine pure_ (i := 8) (N := some 51) (v := ?_) (a' := ?_) #[true, true, true, true, true, false, false, true, true, false, false, false, false, false, false, false, false, false, false, false] rfl rfl (any_of HT_.out (by kernel_rfl)) (fun _ _ _ h => h) (Or.inl ⟨by rfl, ?_⟩) ?_ ?_
                                            rotate_left
                                            · intro w'
                                              go_simp
                                              with_reducible rfl
                                            rotate_left
                                            · simp only [Act.put, List.setIfInBounds_toArray, List.set_cons_zero, List.set_cons_succ, i64_w, i32_w]
                                              rfl
                                            refine pure_ (i := 11) (N := some 54) (v := ?_) (a' := ?_) #[true, true, true, true, true, false, false, true, true, false, false, true, false, false, false, false, false, false, false, false] rfl rfl (any_of HT_.out (by kernel_rfl)) (fun _ _ _ h => h) (Or.inl ⟨by rfl, ?_⟩) ?_ ?_
                                            rotate_left
                                            · intro w'
                                              go_simp
                                              with_reducible rfl
                                            rotate_left
                                            · simp only [Act.put, List.setIfInBounds_toArray, List.set_cons_zero, List.set_cons_succ, i64_w, i32_w]
                                              rfl
                                            refine pure_ (i := 15) (N := some 58) (v := ?_) (a' := ?_) #[true, true, true, true, true, false, false, true, true, false, false, true, false, false, false, true, false, false, false, false] rfl rfl (any_of HT_.out (by kernel_rfl)) (fun _ _ _ h => h) (Or.inl ⟨by rfl, ?_⟩) ?_ ?_
                                            rotate_left
                                            · intro w'
                                              go_simp
                                              with_reducible rfl
                                            rotate_left
                                            · simp only [Act.put, List.setIfInBounds_toArray, List.set_cons_zero, List.set_cons_succ, i64_w, i32_w]
                                              rfl
                                            refine pure_ (i := 16) (N := some 59) (v := ?_) (a' := ?_) #[true, true, true, true, true, false, false, true, true, false, false, true, false, false, false, true, true, false, false, false] rfl rfl (any_of HT_.out (by kernel_rfl)) (fun _ _ _ h => h) (Or.inl ⟨by rfl, ?_⟩) ?_ ?_
                                            rotate_left
                                            · intro w'
                                              go_simp
                                              with_reducible rfl
                                            rotate_left
                                            · simp only [Act.put, List.setIfInBounds_toArray, List.set_cons_zero, List.set_cons_succ, i64_w, i32_w]
                                              rfl
                                            refine pure_ (i := 17) (N := some 60) (v := ?_) (a' := ?_) #[true, true, true, true, true, false, false, true, true, false, false, true, false, false, false, true, true, true, false, false] rfl rfl (any_of HT_.out (by kernel_rfl)) (fun _ _ _ h => h) (Or.inl ⟨by rfl, ?_⟩) ?_ ?_
                                            rotate_left
                                            · intro w'
                                              go_simp
                                              with_reducible rfl
                                            rotate_left
                                            · simp only [Act.put, List.setIfInBounds_toArray, List.set_cons_zero, List.set_cons_succ, i64_w, i32_w]
                                              rfl
                                            refine join_ (σ := Value) 3 #[true, true, true, true, true, true, true, true, true, true, true, true, true, true, false, true, true, true, false, false] (fun s_ => [(48, .string t132), (52, .string t133), (55, s_), (56, .string (strOfNums y134)), (49, .string (x5_3 ++ t132)), (53, .string ((x5_3 ++ t132) ++ t133))]) (fun s_ w' => (Kd.R (Kd.int .u8) 5 w' w.heap.size (fun _ => True) s_ y134) ∧ (Below w.heap.size w w')) ?_ ?_
                                            rotate_left
                                            · intro hJ5_9_12_13
                                              refine join_ (σ := Value) 4 #[true, true, true, true, true, true, true, true, true, true, true, true, true, false, false, true, true, true, false, false] (fun s_ => [(48, .string t132), (52, .string t133), (55, s_), (49, .string (x5_3 ++ t132)), (53, .string ((x5_3 ++ t132) ++ t133))]) (fun s_ w' => (Kd.R (Kd.int .u8) 5 w' w.heap.size (fun _ => True) s_ y134) ∧ (Below w.heap.size w w')) ?_ ?_
                                              rotate_left
                                              · intro hJ5_9_12
                                                refine join_ (σ := Value) 5 #[true, true, true, true, true, true, true, true, true, false, false, true, true, true, false, true, true, true, false, false] (fun s_ => [(48, .string t132), (55, s_), (56, .string (strOfNums y134)), (49, .string (x5_3 ++ t132))]) (fun s_ w' => (Kd.R (Kd.int .u8) 5 w' w.heap.size (fun _ => True) s_ y134) ∧ (Below w.heap.size w w')) ?_ ?_
                                                rotate_left
                                                · intro hJ5_12_13
                                                  refine join_ (σ := Unit) 5 #[true, true, true, true, true, true, true, true, true, true, true, true, false, false, false, true, true, true, false, false] (fun s_ => [(48, .string t132), (52, .string t133), (49, .string (x5_3 ++ t132)), (53, .string ((x5_3 ++ t132) ++ t133))]) (fun s_ w' => (Below w.heap.size w w')) ?_ ?_
                                                  rotate_left
                                                  · intro hJ5_9
                                                    refine join_ (σ := Value) 6 #[true, true, true, true, true, true, true, true, true, false, false, true, true, false, false, true, true, true, false, false] (fun s_ => [(48, .string t132), (55, s_), (49, .string (x5_3 ++ t132))]) (fun s_ w' => (Kd.R (Kd.int .u8) 5 w' w.heap.size (fun _ => True) s_ y134) ∧ (Below w.heap.size w w')) ?_ ?_
                                                    rotate_left
                                                    · intro hJ5_12
                                                      refine join_ (σ := Value) 7 #[true, true, true, true, true, false, false, true, true, false, false, true, true, true, false, true, true, true, false, false] (fun s_ => [(55, s_), (56, .string (strOfNums y134))]) (fun s_ w' => (Kd.R (Kd.int .u8) 5 w' w.heap.size (fun _ => True) s_ y134) ∧ (Below w.heap.size w w')) ?_ ?_
                                                      rotate_left
                                                      · intro hJ12_13
                                                        refine join_ (σ := Unit) 7 #[true, true, true, true, true, true, true, true, true, false, false, true, false, false, false, true, true, true, false, false] (fun s_ => [(48, .string t132), (49, .string (x5_3 ++ t132))]) (fun s_ w' => (Below w.heap.size w w')) ?_ ?_
                                                        rotate_left
                                                        · intro hJ5
                                                          refine join_ (σ := Value) 8 #[true, true, true, true, true, false, false, true, true, false, false, true, true, false, false, true, true, true, false, false] (fun s_ => [(55, s_)]) (fun s_ w' => (Kd.R (Kd.int .u8) 5 w' w.heap.size (fun _ => True) s_ y134) ∧ (Below w.heap.size w w')) ?_ ?_
                                                          rotate_left
                                                          · intro hJ12
                                                            refine two_ (i := 5) (j := 12) (Ni := some 48) (Nj := some 55) #[true, true, true, true, true, true, false, true, true, false, false, true, false, false, false, true, true, true, false, false] #[true, true, true, true, true, false, false, true, true, false, false, true, true, false, false, true, true, true, false, false] rfl rfl rfl rfl (two_of HT_.out (by kernel_rfl)) (by decide) (by decide) (fun K hK => ?_) (fun K hK => ?_)
                                                            · skip
                                                              refine goes_ Tryd.func74 (by kernel_rfl) rfl #[.int .u8 x8_12, .string (x1_2.extract 0 (x7_8 : Int).toNat)] (by rfl) rfl rfl (by (try simp only [List.map_toArray, List.map_cons, List.map_nil]); first | done | rfl | (simp only [List.length_drop, List.length_take]; rfl)) ?_
                                                              with_reducible refine (bourseref05_sum.calls kj12 x8_12 (x1_2.extract 0 (x7_8 : Int).toNat) t132 _ A19.out).mono ?_
                                                              rintro e w39 ⟨rfl, hb⟩
                                                              refine ⟨_, rfl, ?_⟩
                                                              have n0_ := Aside0.mk (below_step (by repeat (first | (with_reducible first | exact HB.out | apply below_alloc | apply pw_below_drewN | apply below_drew1) | exact HB.out)) hb)
                                                              clear HB
                                                              have HB := n0_
                                                              clear n0_
                                                              (try clear hb)
                                                              (try clear hb2)
                                                              (try clear hk)
                                                              (try clear hi)
                                                              refine hK.out _ _ trivial (fun hHeld => ?_)
                                                              clear hK K
                                                              refine norm_ (a' := ?_) ?_ ?_
                                                              rotate_left
                                                              · show Act.put _ (some 48) _ = _
                                                                simp only [Act.put, List.setIfInBounds_toArray, List.set_cons_zero, List.set_cons_succ, i64_w, i32_w]
                                                                rfl
                                                              refine pure_ (i := 6) (N := some 49) (v := ?_) (a' := ?_) #[true, true, true, true, true, true, true, true, true, false, false, true, false, false, false, true, true, true, false, false] rfl rfl (any_of HT_.out (by kernel_rfl)) (fun _ _ _ h => h) (Or.inl ⟨by rfl, ?_⟩) ?_ ?_
                                                              rotate_left
                                                              · intro w'
                                                                go_simp
                                                                with_reducible rfl
                                                              rotate_left
                                                              · simp only [Act.put, List.setIfInBounds_toArray, List.set_cons_zero, List.set_cons_succ, i64_w, i32_w]
                                                                rfl
                                                              exact norm_ (by first | (simp only [putAll, Act.put, List.setIfInBounds_toArray, List.set_cons_zero, List.set_cons_succ]; done) | (simp only [putAll, Act.put, List.setIfInBounds_toArray, List.set_cons_zero, List.set_cons_succ]; rfl)) (hJ5 () _ (by repeat (first | (with_reducible first | exact HB.out | apply below_alloc | apply pw_below_drewN | apply below_drew1) | exact HB.out)))
                                                            · skip
                                                              refine Kd.R_lit_step (Kd.int .u8) _ 5 ?hg (N := 55) ?hd (xs := ([x8_12] : List Int)) (inner := [.int .u8 x8_12]) (ok := fun _ => True) (okp := fun _ => True) ?hr ?hp (fun _ hk => hk) trivial (Below.refl _ _) (Nat.le_refl _) (by simp) ?_; (case hd => rfl); (case hg => rfl); (case hr => first | (go_simp; done) | (go_simp; rfl)); (case hp => exact (Reps.one (show Kd.M (Kd.int .u8) _ _ _ x8_12 [.int .u8 x8_12] from rfl) (Reps.none _ _)))
                                                              intro v135 w39 ho40 hb hg_ hnew_
                                                              clear hg_ hnew_
                                                              (first | rw [← Ny134.out] at ho40 | (simp only [Int.reduceToNat] at ho40; rw [← Ny134.out] at ho40))
                                                              have n0_ := Aside0.mk (Kd.R_lower ho40 (below_size (by repeat (first | (with_reducible first | exact HB.out | apply below_alloc | apply pw_below_drewN | apply below_drew1) | exact HB.out))))
                                                              have n1_ := Aside0.mk (below_step (by repeat (first | (with_reducible first | exact HB.out | apply below_alloc | apply pw_below_drewN | apply below_drew1) | exact HB.out)) hb)
                                                              clear HB
                                                              have HO136 := n0_
                                                              have HB := n1_
                                                              clear n0_ n1_
                                                              clear hb ho40
                                                              refine hK.out _ _ trivial (fun hHeld => ?_)
                                                              clear hK K
                                                              refine norm_ (a' := ?_) ?_ ?_
                                                              rotate_left
                                                              · show Act.put _ (some 55) _ = _
                                                                simp only [Act.put, List.setIfInBounds_toArray, List.set_cons_zero, List.set_cons_succ, i64_w, i32_w]
                                                                rfl
                                                              exact norm_ (by first | (simp only [putAll, Act.put, List.setIfInBounds_toArray, List.set_cons_zero, List.set_cons_succ]; done) | (simp only [putAll, Act.put, List.setIfInBounds_toArray, List.set_cons_zero, List.set_cons_succ]; rfl)) (hJ12 (v135) _ ⟨(by (with_reducible repeat (first | apply Kd.R_alloc | apply Kd.R_drewN | apply Kd.R_drew)); exact HO136.out), (by repeat (first | (with_reducible first | exact HB.out | apply below_alloc | apply pw_below_drewN | apply below_drew1) | exact HB.out))⟩)
                                                          · skip
                                                            rintro v135 w41 ⟨h0_, h1_⟩
                                                            have n0_ : Aside0 (Kd.R (Kd.int .u8) 5 w41 w.heap.size (fun _ => True) v135 y134) := ⟨h0_⟩
                                                            have n1_ : Aside0 (Below w.heap.size w w41) := ⟨h1_⟩
                                                            clear HB
                                                            clear h0_ h1_
                                                            have HO136 := n0_
                                                            have HB := n1_
                                                            clear n0_ n1_
                                                            have hHeld := trivial
                                                            refine norm_ (a' := ?_) ?_ ?_
                                                            rotate_left
                                                            · simp only [putAll, Act.put, List.setIfInBounds_toArray, List.set_cons_zero, List.set_cons_succ]
                                                              rfl
                                                            refine two_ (i := 5) (j := 13) (Ni := some 48) (Nj := some 56) #[true, true, true, true, true, true, false, true, true, false, false, true, true, false, false, true, true, true, false, false] #[true, true, true, true, true, false, false, true, true, false, false, true, true, true, false, true, true, true, false, false] rfl rfl rfl rfl (two_of HT_.out (by kernel_rfl)) (by decide) (by decide) (fun K hK => ?_) (fun K hK => ?_)
                                                            · skip
                                                              refine goes_ Tryd.func74 (by kernel_rfl) rfl #[.int .u8 x8_12, .string (x1_2.extract 0 (x7_8 : Int).toNat)] (by rfl) rfl rfl (by (try simp only [List.map_toArray, List.map_cons, List.map_nil]); first | done | rfl | (simp only [List.length_drop, List.length_take]; rfl)) ?_
                                                              with_reducible refine (bourseref05_sum.calls kj12 x8_12 (x1_2.extract 0 (x7_8 : Int).toNat) t132 _ A19.out).mono ?_
                                                              rintro e w42 ⟨rfl, hb⟩
                                                              refine ⟨_, rfl, ?_⟩
                                                              have n0_ := Aside0.mk (Kd.R_below (by (with_reducible repeat (first | apply Kd.R_alloc | apply Kd.R_drewN | apply Kd.R_drew)); exact HO136.out) hb)
                                                              have n1_ := Aside0.mk (below_step (by repeat (first | (with_reducible first | exact HB.out | apply below_alloc | apply pw_below_drewN | apply below_drew1) | exact HB.out)) hb)
                                                              clear HO136
                                                              clear HB
                                                              have HO136 := n0_
                                                              have HB := n1_
                                                              clear n0_ n1_
                                                              (try clear hb)
                                                              (try clear hb2)
                                                              (try clear hk)
                                                              (try clear hi)
                                                              refine hK.out _ _ trivial (fun hHeld => ?_)
                                                              clear hK K
                                                              refine norm_ (a' := ?_) ?_ ?_
                                                              rotate_left
                                                              · show Act.put _ (some 48) _ = _
                                                                simp only [Act.put, List.setIfInBounds_toArray, List.set_cons_zero, List.set_cons_succ, i64_w, i32_w]
                                                                rfl
                                                              refine pure_ (i := 6) (N := some 49) (v := ?_) (a' := ?_) #[true, true, true, true, true, true, true, true, true, false, false, true, true, false, false, true, true, true, false, false] rfl rfl (any_of HT_.out (by kernel_rfl)) (fun _ _ _ h => h) (Or.inl ⟨by rfl, ?_⟩) ?_ ?_
                                                              rotate_left
                                                              · intro w'
                                                                go_simp
                                                                with_reducible rfl
                                                              rotate_left
                                                              · simp only [Act.put, List.setIfInBounds_toArray, List.set_cons_zero, List.set_cons_succ, i64_w, i32_w]
                                                                rfl
                                                              exact norm_ (by first | (simp only [putAll, Act.put, List.setIfInBounds_toArray, List.set_cons_zero, List.set_cons_succ]; done) | (simp only [putAll, Act.put, List.setIfInBounds_toArray, List.set_cons_zero, List.set_cons_succ]; rfl)) (hJ5_12 (v135) _ ⟨(by (with_reducible repeat (first | apply Kd.R_alloc | apply Kd.R_drewN | apply Kd.R_drew)); exact HO136.out), (by repeat (first | (with_reducible first | exact HB.out | apply below_alloc | apply pw_below_drewN | apply below_drew1) | exact HB.out))⟩)
                                                            · skip
                                                              have hcv42 := own_string (P := Tryd.prog) Tryd.underlying64 Tryd.underlying5 Tryd.underlying9 (Kd.own_of_R HO136.out)
                                                              refine value_ (w1 := ?_) (v := ?_) (by rfl) rfl ?_ ?_
                                                              rotate_left 2
                                                              · go_simp
                                                                constructor
                                                                · rfl
                                                                · rfl
                                                              clear hcv42
                                                              refine hK.out _ _ trivial (fun hHeld => ?_)
                                                              clear hK K
                                                              refine norm_ (a' := ?_) ?_ ?_
                                                              rotate_left
                                                              · show Act.put _ (some 56) _ = _
                                                                simp only [Act.put, List.setIfInBounds_toArray, List.set_cons_zero, List.set_cons_succ, i64_w, i32_w]
                                                                rfl
                                                              exact norm_ (by first | (simp only [putAll, Act.put, List.setIfInBounds_toArray, List.set_cons_zero, List.set_cons_succ]; done) | (simp only [putAll, Act.put, List.setIfInBounds_toArray, List.set_cons_zero, List.set_cons_succ]; rfl)) (hJ12_13 (v135) _ ⟨(by (with_reducible repeat (first | apply Kd.R_alloc | apply Kd.R_drewN | apply Kd.R_drew)); exact HO136.out), (by repeat (first | (with_reducible first | exact HB.out | apply below_alloc | apply pw_below_drewN | apply below_drew1) | exact HB.out))⟩)
                                                        · skip
                                                          rintro _ w40 h0_
                                                          have n0_ : Aside0 (Below w.heap.size w w40) := ⟨h0_⟩
                                                          clear HB
                                                          clear h0_
                                                          have HB := n0_
                                                          clear n0_
                                                          have hHeld := trivial
                                                          refine norm_ (a' := ?_) ?_ ?_
                                                          rotate_left
                                                          · simp only [putAll, Act.put, List.setIfInBounds_toArray, List.set_cons_zero, List.set_cons_succ]
                                                            rfl
                                                          refine two_ (i := 9) (j := 12) (Ni := some 52) (Nj := some 55) #[true, true, true, true, true, true, true, true, true, true, false, true, false, false, false, true, true, true, false, false] #[true, true, true, true, true, true, true, true, true, false, false, true, true, false, false, true, true, true, false, false] rfl rfl rfl rfl (two_of HT_.out (by kernel_rfl)) (by decide) (by decide) (fun K hK => ?_) (fun K hK => ?_)
                                                          · skip
                                                            refine goes_ Tryd.func84 (by kernel_rfl) rfl #[.int .u64 (IntKind.u64.wrap (x7_8)), .int .i64 2] (by rfl) rfl rfl (by (try simp only [List.map_toArray, List.map_cons, List.map_nil]); first | done | rfl | (simp only [List.length_drop, List.length_take]; rfl)) ?_
                                                            with_reducible refine (bourseref03_Little.calls kj12 (IntKind.u64.wrap (x7_8)) 2 t133 _ A21.out).mono ?_
                                                            rintro e w41 ⟨rfl, hb⟩
                                                            refine ⟨_, rfl, ?_⟩
                                                            have n0_ := Aside0.mk (below_step (by repeat (first | (with_reducible first | exact HB.out | apply below_alloc | apply pw_below_drewN | apply below_drew1) | exact HB.out)) hb)
                                                            clear HB
                                                            have HB := n0_
                                                            clear n0_
                                                            (try clear hb)
                                                            (try clear hb2)
                                                            (try clear hk)
                                                            (try clear hi)
                                                            refine hK.out _ _ trivial (fun hHeld => ?_)
                                                            clear hK K
                                                            refine norm_ (a' := ?_) ?_ ?_
                                                            rotate_left
                                                            · show Act.put _ (some 52) _ = _
                                                              simp only [Act.put, List.setIfInBounds_toArray, List.set_cons_zero, List.set_cons_succ, i64_w, i32_w]
                                                              rfl
                                                            refine pure_ (i := 10) (N := some 53) (v := ?_) (a' := ?_) #[true, true, true, true, true, true, true, true, true, true, true, true, false, false, false, true, true, true, false, false] rfl rfl (any_of HT_.out (by kernel_rfl)) (fun _ _ _ h => h) (Or.inl ⟨by rfl, ?_⟩) ?_ ?_
                                                            rotate_left
                                                            · intro w'
                                                              go_simp
                                                              with_reducible rfl
                                                            rotate_left
                                                            · simp only [Act.put, List.setIfInBounds_toArray, List.set_cons_zero, List.set_cons_succ, i64_w, i32_w]
                                                              rfl
                                                            exact norm_ (by first | (simp only [putAll, Act.put, List.setIfInBounds_toArray, List.set_cons_zero, List.set_cons_succ]; done) | (simp only [putAll, Act.put, List.setIfInBounds_toArray, List.set_cons_zero, List.set_cons_succ]; rfl)) (hJ5_9 () _ (by repeat (first | (with_reducible first | exact HB.out | apply below_alloc | apply pw_below_drewN | apply below_drew1) | exact HB.out)))
                                                          · skip
                                                            refine Kd.R_lit_step (Kd.int .u8) _ 5 ?hg (N := 55) ?hd (xs := ([x8_12] : List Int)) (inner := [.int .u8 x8_12]) (ok := fun _ => True) (okp := fun _ => True) ?hr ?hp (fun _ hk => hk) trivial (Below.refl _ _) (Nat.le_refl _) (by simp) ?_; (case hd => rfl); (case hg => rfl); (case hr => first | (go_simp; done) | (go_simp; rfl)); (case hp => exact (Reps.one (show Kd.M (Kd.int .u8) _ _ _ x8_12 [.int .u8 x8_12] from rfl) (Reps.none _ _)))
                                                            intro v135 w41 ho42 hb hg_ hnew_
                                                            clear hg_ hnew_
                                                            (first | rw [← Ny134.out] at ho42 | (simp only [Int.reduceToNat] at ho42; rw [← Ny134.out] at ho42))
                                                            have n0_ := Aside0.mk (Kd.R_lower ho42 (below_size (by repeat (first | (with_reducible first | exact HB.out | apply below_alloc | apply pw_below_drewN | apply below_drew1) | exact HB.out))))
                                                            have n1_ := Aside0.mk (below_step (by repeat (first | (with_reducible first | exact HB.out | apply below_alloc | apply pw_below_drewN | apply below_drew1) | exact HB.out)) hb)
                                                            clear HB
                                                            have HO136 := n0_
                                                            have HB := n1_
                                                            clear n0_ n1_
                                                            clear hb ho42
                                                            refine hK.out _ _ trivial (fun hHeld => ?_)
                                                            clear hK K
                                                            refine norm_ (a' := ?_) ?_ ?_
                                                            rotate_left
                                                            · show Act.put _ (some 55) _ = _
                                                              simp only [Act.put, List.setIfInBounds_toArray, List.set_cons_zero, List.set_cons_succ, i64_w, i32_w]
                                                              rfl
                                                            exact norm_ (by first | (simp only [putAll, Act.put, List.setIfInBounds_toArray, List.set_cons_zero, List.set_cons_succ]; done) | (simp only [putAll, Act.put, List.setIfInBounds_toArray, List.set_cons_zero, List.set_cons_succ]; rfl)) (hJ5_12 (v135) _ ⟨(by (with_reducible repeat (first | apply Kd.R_alloc | apply Kd.R_drewN | apply Kd.R_drew)); exact HO136.out), (by repeat (first | (with_reducible first | exact HB.out | apply below_alloc | apply pw_below_drewN | apply below_drew1) | exact HB.out))⟩)
                                                      · skip
                                                        rintro v135 w42 ⟨h0_, h1_⟩
                                                        have n0_ : Aside0 (Kd.R (Kd.int .u8) 5 w42 w.heap.size (fun _ => True) v135 y134) := ⟨h0_⟩
                                                        have n1_ : Aside0 (Below w.heap.size w w42) := ⟨h1_⟩
                                                        clear HB
                                                        clear h0_ h1_
                                                        have HO136 := n0_
                                                        have HB := n1_
                                                        clear n0_ n1_
                                                        have hHeld := trivial
                                                        refine norm_ (a' := ?_) ?_ ?_
                                                        rotate_left
                                                        · simp only [putAll, Act.put, List.setIfInBounds_toArray, List.set_cons_zero, List.set_cons_succ]
                                                          rfl
                                                        refine one_ (i := 5) (N := some 48) #[true, true, true, true, true, true, false, true, true, false, false, true, true, true, false, true, true, true, false, false] rfl rfl (one_of HT_.out (by kernel_rfl)) (by decide) (fun K hK => ?_)
                                                        refine goes_ Tryd.func74 (by kernel_rfl) rfl #[.int .u8 x8_12, .string (x1_2.extract 0 (x7_8 : Int).toNat)] (by rfl) rfl rfl (by (try simp only [List.map_toArray, List.map_cons, List.map_nil]); first | done | rfl | (simp only [List.length_drop, List.length_take]; rfl)) ?_
                                                        with_reducible refine (bourseref05_sum.calls kj12 x8_12 (x1_2.extract 0 (x7_8 : Int).toNat) t132 _ A19.out).mono ?_
                                                        rintro e w43 ⟨rfl, hb⟩
                                                        refine ⟨_, rfl, ?_⟩
                                                        have n0_ := Aside0.mk (Kd.R_below (by (with_reducible repeat (first | apply Kd.R_alloc | apply Kd.R_drewN | apply Kd.R_drew)); exact HO136.out) hb)
                                                        have n1_ := Aside0.mk (below_step (by repeat (first | (with_reducible first | exact HB.out | apply below_alloc | apply pw_below_drewN | apply below_drew1) | exact HB.out)) hb)
                                                        clear HO136
                                                        clear HB
                                                        have HO136 := n0_
                                                        have HB := n1_
                                                        clear n0_ n1_
                                                        (try clear hb)
                                                        (try clear hb2)
                                                        (try clear hk)
                                                        (try clear hi)
                                                        refine hK.out _ _ trivial (fun hHeld => ?_)
                                                        clear hK K
                                                        refine norm_ (a' := ?_) ?_ ?_
                                                        rotate_left
                                                        · show Act.put _ (some 48) _ = _
                                                          simp only [Act.put, List.setIfInBounds_toArray, List.set_cons_zero, List.set_cons_succ, i64_w, i32_w]
                                                          rfl
                                                        refine pure_ (i := 6) (N := some 49) (v := ?_) (a' := ?_) #[true, true, true, true, true, true, true, true, true, false, false, true, true, true, false, true, true, true, false, false] rfl rfl (any_of HT_.out (by kernel_rfl)) (fun _ _ _ h => h) (Or.inl ⟨by rfl, ?_⟩) ?_ ?_
                                                        rotate_left
                                                        · intro w'
                                                          go_simp
                                                          with_reducible rfl
                                                        rotate_left
                                                        · simp only [Act.put, List.setIfInBounds_toArray, List.set_cons_zero, List.set_cons_succ, i64_w, i32_w]
                                                          rfl
                                                        exact norm_ (by first | (simp only [putAll, Act.put, List.setIfInBounds_toArray, List.set_cons_zero, List.set_cons_succ]; done) | (simp only [putAll, Act.put, List.setIfInBounds_toArray, List.set_cons_zero, List.set_cons_succ]; rfl)) (hJ5_12_13 (v135) _ ⟨(by (with_reducible repeat (first | apply Kd.R_alloc | apply Kd.R_drewN | apply Kd.R_drew)); exact HO136.out), (by repeat (first | (with_reducible first | exact HB.out | apply below_alloc | apply pw_below_drewN | apply below_drew1) | exact HB.out))⟩)
                                                    · skip
                                                      rintro v135 w42 ⟨h0_, h1_⟩
                                                      have n0_ : Aside0 (Kd.R (Kd.int .u8) 5 w42 w.heap.size (fun _ => True) v135 y134) := ⟨h0_⟩
                                                      have n1_ : Aside0 (Below w.heap.size w w42) := ⟨h1_⟩
                                                      clear HB
                                                      clear h0_ h1_
                                                      have HO136 := n0_
                                                      have HB := n1_
                                                      clear n0_ n1_
                                                      have hHeld := trivial
                                                      refine norm_ (a' := ?_) ?_ ?_
                                                      rotate_left
                                                      · simp only [putAll, Act.put, List.setIfInBounds_toArray, List.set_cons_zero, List.set_cons_succ]
                                                        rfl
                                                      refine two_ (i := 9) (j := 13) (Ni := some 52) (Nj := some 56) #[true, true, true, true, true, true, true, true, true, true, false, true, true, false, false, true, true, true, false, false] #[true, true, true, true, true, true, true, true, true, false, false, true, true, true, false, true, true, true, false, false] rfl rfl rfl rfl (two_of HT_.out (by kernel_rfl)) (by decide) (by decide) (fun K hK => ?_) (fun K hK => ?_)
                                                      · skip
                                                        refine goes_ Tryd.func84 (by kernel_rfl) rfl #[.int .u64 (IntKind.u64.wrap (x7_8)), .int .i64 2] (by rfl) rfl rfl (by (try simp only [List.map_toArray, List.map_cons, List.map_nil]); first | done | rfl | (simp only [List.length_drop, List.length_take]; rfl)) ?_
                                                        with_reducible refine (bourseref03_Little.calls kj12 (IntKind.u64.wrap (x7_8)) 2 t133 _ A21.out).mono ?_
                                                        rintro e w43 ⟨rfl, hb⟩
                                                        refine ⟨_, rfl, ?_⟩
                                                        have n0_ := Aside0.mk (Kd.R_below (by (with_reducible repeat (first | apply Kd.R_alloc | apply Kd.R_drewN | apply Kd.R_drew)); exact HO136.out) hb)
                                                        have n1_ := Aside0.mk (below_step (by repeat (first | (with_reducible first | exact HB.out | apply below_alloc | apply pw_below_drewN | apply below_drew1) | exact HB.out)) hb)
                                                        clear HO136
                                                        clear HB
                                                        have HO136 := n0_
                                                        have HB := n1_
                                                        clear n0_ n1_
                                                        (try clear hb)
                                                        (try clear hb2)
                                                        (try clear hk)
                                                        (try clear hi)
                                                        refine hK.out _ _ trivial (fun hHeld => ?_)
                                                        clear hK K
                                                        refine norm_ (a' := ?_) ?_ ?_
                                                        rotate_left
                                                        · show Act.put _ (some 52) _ = _
                                                          simp only [Act.put, List.setIfInBounds_toArray, List.set_cons_zero, List.set_cons_succ, i64_w, i32_w]
                                                          rfl
                                                        refine pure_ (i := 10) (N := some 53) (v := ?_) (a' := ?_) #[true, true, true, true, true, true, true, true, true, true, true, true, true, false, false, true, true, true, false, false] rfl rfl (any_of HT_.out (by kernel_rfl)) (fun _ _ _ h => h) (Or.inl ⟨by rfl, ?_⟩) ?_ ?_
                                                        rotate_left
                                                        · intro w'
                                                          go_simp
                                                          with_reducible rfl
                                                        rotate_left
                                                        · simp only [Act.put, List.setIfInBounds_toArray, List.set_cons_zero, List.set_cons_succ, i64_w, i32_w]
                                                          rfl
                                                        exact norm_ (by first | (simp only [putAll, Act.put, List.setIfInBounds_toArray, List.set_cons_zero, List.set_cons_succ]; done) | (simp only [putAll, Act.put, List.setIfInBounds_toArray, List.set_cons_zero, List.set_cons_succ]; rfl)) (hJ5_9_12 (v135) _ ⟨(by (with_reducible repeat (first | apply Kd.R_alloc | apply Kd.R_drewN | apply Kd.R_drew)); exact HO136.out), (by repeat (first | (with_reducible first | exact HB.out | apply below_alloc | apply pw_below_drewN | apply below_drew1) | exact HB.out))⟩)
                                                      · skip
                                                        have hcv43 := own_string (P := Tryd.prog) Tryd.underlying64 Tryd.underlying5 Tryd.underlying9 (Kd.own_of_R HO136.out)
                                                        refine value_ (w1 := ?_) (v := ?_) (by rfl) rfl ?_ ?_
                                                        rotate_left 2
                                                        · go_simp
                                                          constructor
                                                          · rfl
                                                          · rfl
                                                        clear hcv43
                                                        refine hK.out _ _ trivial (fun hHeld => ?_)
                                                        clear hK K
                                                        refine norm_ (a' := ?_) ?_ ?_
                                                        rotate_left
                                                        · show Act.put _ (some 56) _ = _
                                                          simp only [Act.put, List.setIfInBounds_toArray, List.set_cons_zero, List.set_cons_succ, i64_w, i32_w]
                                                          rfl
                                                        exact norm_ (by first | (simp only [putAll, Act.put, List.setIfInBounds_toArray, List.set_cons_zero, List.set_cons_succ]; done) | (simp only [putAll, Act.put, List.setIfInBounds_toArray, List.set_cons_zero, List.set_cons_succ]; rfl)) (hJ5_12_13 (v135) _ ⟨(by (with_reducible repeat (first | apply Kd.R_alloc | apply Kd.R_drewN | apply Kd.R_drew)); exact HO136.out), (by repeat (first | (with_reducible first | exact HB.out | apply below_alloc | apply pw_below_drewN | apply below_drew1) | exact HB.out))⟩)
                                                  · skip
                                                    rintro _ w41 h0_
                                                    have n0_ : Aside0 (Below w.heap.size w w41) := ⟨h0_⟩
                                                    clear HB
                                                    clear h0_
                                                    have HB := n0_
                                                    clear n0_
                                                    have hHeld := trivial
                                                    refine norm_ (a' := ?_) ?_ ?_
                                                    rotate_left
                                                    · simp only [putAll, Act.put, List.setIfInBounds_toArray, List.set_cons_zero, List.set_cons_succ]
                                                      rfl
                                                    refine one_ (i := 12) (N := some 55) #[true, true, true, true, true, true, true, true, true, true, true, true, true, false, false, true, true, true, false, false] rfl rfl (one_of HT_.out (by kernel_rfl)) (by decide) (fun K hK => ?_)
                                                    refine Kd.R_lit_step (Kd.int .u8) _ 5 ?hg (N := 55) ?hd (xs := ([x8_12] : List Int)) (inner := [.int .u8 x8_12]) (ok := fun _ => True) (okp := fun _ => True) ?hr ?hp (fun _ hk => hk) trivial (Below.refl _ _) (Nat.le_refl _) (by simp) ?_; (case hd => rfl); (case hg => rfl); (case hr => first | (go_simp; done) | (go_simp; rfl)); (case hp => exact (Reps.one (show Kd.M (Kd.int .u8) _ _ _ x8_12 [.int .u8 x8_12] from rfl) (Reps.none _ _)))
                                                    intro v135 w42 ho43 hb hg_ hnew_
                                                    clear hg_ hnew_
                                                    (first | rw [← Ny134.out] at ho43 | (simp only [Int.reduceToNat] at ho43; rw [← Ny134.out] at ho43))
                                                    have n0_ := Aside0.mk (Kd.R_lower ho43 (below_size (by repeat (first | (with_reducible first | exact HB.out | apply below_alloc | apply pw_below_drewN | apply below_drew1) | exact HB.out))))
                                                    have n1_ := Aside0.mk (below_step (by repeat (first | (with_reducible first | exact HB.out | apply below_alloc | apply pw_below_drewN | apply below_drew1) | exact HB.out)) hb)
                                                    clear HB
                                                    have HO136 := n0_
                                                    have HB := n1_
                                                    clear n0_ n1_
                                                    clear hb ho43
                                                    refine hK.out _ _ trivial (fun hHeld => ?_)
                                                    clear hK K
                                                    refine norm_ (a' := ?_) ?_ ?_
                                                    rotate_left
                                                    · show Act.put _ (some 55) _ = _
                                                      simp only [Act.put, List.setIfInBounds_toArray, List.set_cons_zero, List.set_cons_succ, i64_w, i32_w]
                                                      rfl
                                                    exact norm_ (by first | (simp only [putAll, Act.put, List.setIfInBounds_toArray, List.set_cons_zero, List.set_cons_succ]; done) | (simp only [putAll, Act.put, List.setIfInBounds_toArray, List.set_cons_zero, List.set_cons_succ]; rfl)) (hJ5_9_12 (v135) _ ⟨(by (with_reducible repeat (first | apply Kd.R_alloc | apply Kd.R_drewN | apply Kd.R_drew)); exact HO136.out), (by repeat (first | (with_reducible first | exact HB.out | apply below_alloc | apply pw_below_drewN | apply below_drew1) | exact HB.out))⟩)
                                                · skip
                                                  rintro v135 w43 ⟨h0_, h1_⟩
                                                  have n0_ : Aside0 (Kd.R (Kd.int .u8) 5 w43 w.heap.size (fun _ => True) v135 y134) := ⟨h0_⟩
                                                  have n1_ : Aside0 (Below w.heap.size w w43) := ⟨h1_⟩
                                                  clear HB
                                                  clear h0_ h1_
                                                  have HO136 := n0_
                                                  have HB := n1_
                                                  clear n0_ n1_
                                                  have hHeld := trivial
                                                  refine norm_ (a' := ?_) ?_ ?_
                                                  rotate_left
                                                  · simp only [putAll, Act.put, List.setIfInBounds_toArray, List.set_cons_zero, List.set_cons_succ]
                                                    rfl
                                                  refine one_ (i := 9) (N := some 52) #[true, true, true, true, true, true, true, true, true, true, false, true, true, true, false, true, true, true, false, false] rfl rfl (one_of HT_.out (by kernel_rfl)) (by decide) (fun K hK => ?_)
                                                  refine goes_ Tryd.func84 (by kernel_rfl) rfl #[.int .u64 (IntKind.u64.wrap (x7_8)), .int .i64 2] (by rfl) rfl rfl (by (try simp only [List.map_toArray, List.map_cons, List.map_nil]); first | done | rfl | (simp only [List.length_drop, List.length_take]; rfl)) ?_
                                                  with_reducible refine (bourseref03_Little.calls kj12 (IntKind.u64.wrap (x7_8)) 2 t133 _ A21.out).mono ?_
                                                  rintro e w44 ⟨rfl, hb⟩
                                                  refine ⟨_, rfl, ?_⟩
                                                  have n0_ := Aside0.mk (Kd.R_below (by (with_reducible repeat (first | apply Kd.R_alloc | apply Kd.R_drewN | apply Kd.R_drew)); exact HO136.out) hb)
                                                  have n1_ := Aside0.mk (below_step (by repeat (first | (with_reducible first | exact HB.out | apply below_alloc | apply pw_below_drewN | apply below_drew1) | exact HB.out)) hb)
                                                  clear HO136
                                                  clear HB
                                                  have HO136 := n0_
                                                  have HB := n1_
                                                  clear n0_ n1_
                                                  (try clear hb)
                                                  (try clear hb2)
                                                  (try clear hk)
                                                  (try clear hi)
                                                  refine hK.out _ _ trivial (fun hHeld => ?_)
                                                  clear hK K
                                                  refine norm_ (a' := ?_) ?_ ?_
                                                  rotate_left
                                                  · show Act.put _ (some 52) _ = _
                                                    simp only [Act.put, List.setIfInBounds_toArray, List.set_cons_zero, List.set_cons_succ, i64_w, i32_w]
                                                    rfl
                                                  refine pure_ (i := 10) (N := some 53) (v := ?_) (a' := ?_) #[true, true, true, true, true, true, true, true, true, true, true, true, true, true, false, true, true, true, false, false] rfl rfl (any_of HT_.out (by kernel_rfl)) (fun _ _ _ h => h) (Or.inl ⟨by rfl, ?_⟩) ?_ ?_
                                                  rotate_left
                                                  · intro w'
                                                    go_simp
                                                    with_reducible rfl
                                                  rotate_left
                                                  · simp only [Act.put, List.setIfInBounds_toArray, List.set_cons_zero, List.set_cons_succ, i64_w, i32_w]
                                                    rfl
                                                  exact norm_ (by first | (simp only [putAll, Act.put, List.setIfInBounds_toArray, List.set_cons_zero, List.set_cons_succ]; done) | (simp only [putAll, Act.put, List.setIfInBounds_toArray, List.set_cons_zero, List.set_cons_succ]; rfl)) (hJ5_9_12_13 (v135) _ ⟨(by (with_reducible repeat (first | apply Kd.R_alloc | apply Kd.R_drewN | apply Kd.R_drew)); exact HO136.out), (by repeat (first | (with_reducible first | exact HB.out | apply below_alloc | apply pw_below_drewN | apply below_drew1) | exact HB.out))⟩)
                                              · skip
                                                rintro v135 w43 ⟨h0_, h1_⟩
                                                have n0_ : Aside0 (Kd.R (Kd.int .u8) 5 w43 w.heap.size (fun _ => True) v135 y134) := ⟨h0_⟩
                                                have n1_ : Aside0 (Below w.heap.size w w43) := ⟨h1_⟩
                                                clear HB
                                                clear h0_ h1_
                                                have HO136 := n0_
                                                have HB := n1_
                                                clear n0_ n1_
                                                have hHeld := trivial
                                                refine norm_ (a' := ?_) ?_ ?_
                                                rotate_left
                                                · simp only [putAll, Act.put, List.setIfInBounds_toArray, List.set_cons_zero, List.set_cons_succ]
                                                  rfl
                                                refine one_ (i := 13) (N := some 56) #[true, true, true, true, true, true, true, true, true, true, true, true, true, true, false, true, true, true, false, false] rfl rfl (one_of HT_.out (by kernel_rfl)) (by decide) (fun K hK => ?_)
                                                have hcv44 := own_string (P := Tryd.prog) Tryd.underlying64 Tryd.underlying5 Tryd.underlying9 (Kd.own_of_R HO136.out)
                                                refine value_ (w1 := ?_) (v := ?_) (by rfl) rfl ?_ ?_
                                                rotate_left 2
                                                · go_simp
                                                  constructor
                                                  · rfl
                                                  · rfl
                                                clear hcv44
                                                refine hK.out _ _ trivial (fun hHeld => ?_)
                                                clear hK K
                                                refine norm_ (a' := ?_) ?_ ?_
                                                rotate_left
                                                · show Act.put _ (some 56) _ = _
                                                  simp only [Act.put, List.setIfInBounds_toArray, List.set_cons_zero, List.set_cons_succ, i64_w, i32_w]
                                                  rfl
                                                exact norm_ (by first | (simp only [putAll, Act.put, List.setIfInBounds_toArray, List.set_cons_zero, List.set_cons_succ]; done) | (simp only [putAll, Act.put, List.setIfInBounds_toArray, List.set_cons_zero, List.set_cons_succ]; rfl)) (hJ5_9_12_13 (v135) _ ⟨(by (with_reducible repeat (first | apply Kd.R_alloc | apply Kd.R_drewN | apply Kd.R_drew)); exact HO136.out), (by repeat (first | (with_reducible first | exact HB.out | apply below_alloc | apply pw_below_drewN | apply below_drew1) | exact HB.out))⟩)
                                            rintro v135 w44 ⟨h0_, h1_⟩
                                            have n0_ : Aside0 (Kd.R (Kd.int .u8) 5 w44 w.heap.size (fun _ => True) v135 y134) := ⟨h0_⟩
                                            have n1_ : Aside0 (Below w.heap.size w w44) := ⟨h1_⟩
                                            clear HB
                                            clear h0_ h1_
                                            have HO136 := n0_
                                            have HB := n1_
                                            clear n0_ n1_
                                            have hHeld := trivial
                                            refine norm_ (a' := ?_) ?_ ?_
                                            rotate_left
                                            · simp only [putAll, Act.put, List.setIfInBounds_toArray, List.set_cons_zero, List.set_cons_succ]
                                              rfl
                                            refine pure_ (i := 14) (N := some 57) (v := ?_) (a' := ?_) #[true, true, true, true, true, true, true, true, true, true, true, true, true, true, true, true, true, true, false, false] rfl rfl (any_of HT_.out (by kernel_rfl)) (fun _ _ _ h => h) (Or.inl ⟨by rfl, ?_⟩) ?_ ?_
                                            rotate_left
                                            · intro w'
                                              go_simp
                                              with_reducible rfl
                                            rotate_left
                                            · simp only [Act.put, List.setIfInBounds_toArray, List.set_cons_zero, List.set_cons_succ, i64_w, i32_w]
                                              rfl
                                            refine pure_ (i := 18) (N := some 61) (v := ?_) (a' := ?_) #[true, true, true, true, true, true, true, true, true, true, true, true, true, true, true, true, true, true, true, false] rfl rfl (any_of HT_.out (by kernel_rfl)) (fun _ _ _ h => h) (Or.inl ⟨by rfl, ?_⟩) ?_ ?_
                                            rotate_left
                                            · intro w'
                                              go_simp
                                              with_reducible rfl
                                            rotate_left
                                            · simp only [Act.put, List.setIfInBounds_toArray, List.set_cons_zero, List.set_cons_succ, i64_w, i32_w]
                                              rfl
                                            refine pure_ (i := 19) (N := some 5) (v := ?_) (a' := ?_) #[true, true, true, true, true, true, true, true, true, true, true, true, true, true, true, true, true, true, true, true] rfl rfl (any_of HT_.out (by kernel_rfl)) (fun _ _ _ h => h) (Or.inl ⟨by rfl, ?_⟩) ?_ ?_
                                            rotate_left
                                            · intro w'
                                              go_simp
                                              with_reducible rfl
                                            rotate_left
                                            · simp only [Act.put, List.setIfInBounds_toArray, List.set_cons_zero, List.set_cons_succ, i64_w, i32_w]
                                              rfl
                                            refine done_ (done_of HT_.out (by kernel_rfl)) ?_
                                            try go_wp2
                                            go_ret
                                            exact ⟨by first | rfl | (simp [errW_none, errW_some] <;> rfl) | (simp [*, errW_none, errW_some] <;> rfl), by repeat (first | (with_reducible first | exact HB.out | apply below_alloc | apply pw_below_drewN | apply below_drew1) | exact HB.out)⟩
                                          · rw [if_neg c37] at H
                                            have c37b0 : (x8_12 == 4) = false := beq_eq_false_iff_ne.mpr c37
                                            have c37b1 : (x8_12 != 4) = true := bne_iff_ne.mpr c37
                                            have H' := Aside0.mk H
                                            clear H
                                            try go_wp2
                                            have n0_ := Aside0.mk (below_drew1 HB.out)
                                            clear HB
                                            have HB := n0_
                                            clear n0_
                                            refine start_ (n := 20) (S := fun w' => True) (ds := []) #[false, false, false, false, false, false, false, false, false, false, false, false, false, false, false, false, false, false, false, false] (by kernel_rfl) rfl rfl trivial (fun hHeld => ?_); refine with_tabW bourseref05_Lay.tab17 bourseref05_Lay.bits17 (fun HT_ HW_ => ?_)
                                            generalize wc.drew = w45 at HB hHeld ⊢
                                            refine pure_ (i := 0) (N := some 43) (v := ?_) (a' := ?_) #[true, false, false, false, false, false, false, false, false, false, false, false, false, false, false, false, false, false, false, false] rfl rfl (any_of HT_.out (by kernel_rfl)) (fun _ _ _ h => h) (Or.inl ⟨by rfl, ?_⟩) ?_ ?_
                                            rotate_left
                                            · intro w'
                                              go_simp
                                              with_reducible rfl
                                            rotate_left
                                            · simp only [Act.put, List.setIfInBounds_toArray, List.set_cons_zero, List.set_cons_succ, i64_w, i32_w]
                                              rfl
                                            refine pure_ (i := 1) (N := some 44) (v := ?_) (a' := ?_) #[true, true, false, false, false, false, false, false, false, false, false, false, false, false, false, false, false, false, false, false] rfl rfl (any_of HT_.out (by kernel_rfl)) (fun _ _ _ h => h) (Or.inl ⟨by rfl, ?_⟩) ?_ ?_
                                            rotate_left
                                            · intro w'
                                              go_simp
                                              with_reducible rfl
                                            rotate_left
                                            · simp only [Act.put, List.setIfInBounds_toArray, List.set_cons_zero, List.set_cons_succ, i64_w, i32_w]
                                              rfl
                                            refine pure_ (i := 2) (N := some 45) (v := ?_) (a' := ?_) #[true, true, true, false, false, false, false, false, false, false, false, false, false, false, false, false, false, false, false, false] rfl rfl (any_of HT_.out (by kernel_rfl)) (fun _ _ _ h => h) (Or.inl ⟨by rfl, ?_⟩) ?_ ?_
                                            rotate_left
                                            · intro w'
                                              go_simp
                                              with_reducible rfl
                                            rotate_left
                                            · simp only [Act.put, List.setIfInBounds_toArray, List.set_cons_zero, List.set_cons_succ, i64_w, i32_w]
                                              rfl
                                            refine pure_ (i := 3) (N := some 46) (v := ?_) (a' := ?_) #[true, true, true, true, false, false, false, false, false, false, false, false, false, false, false, false, false, false, false, false] rfl rfl (any_of HT_.out (by kernel_rfl)) (fun _ _ _ h => h) (Or.inl ⟨by rfl, ?_⟩) ?_ ?_
                                            rotate_left
                                            · intro w'
                                              go_simp
                                              with_reducible rfl
                                            rotate_left
                                            · simp only [Act.put, List.setIfInBounds_toArray, List.set_cons_zero, List.set_cons_succ, i64_w, i32_w]
                                              rfl
                                            refine pure_ (i := 4) (N := some 47) (v := ?_) (a' := ?_) #[true, true, true, true, true, false, false, false, false, false, false, false, false, false, false, false, false, false, false, false] rfl rfl (any_of HT_.out (by kernel_rfl)) (fun _ _ _ h => h) (Or.inl ⟨by rfl, ?_⟩) ?_ ?_
                                            rotate_left
                                            · intro w'
                                              go_simp
                                              with_reducible rfl
                                            rotate_left
                                            · simp only [Act.put, List.setIfInBounds_toArray, List.set_cons_zero, List.set_cons_succ, i64_w, i32_w]
                                              rfl
                                            refine pure_ (i := 7) (N := some 50) (v := ?_) (a' := ?_) #[true, true, true, true, true, false, false, true, false, false, false, false, false, false, false, false, false, false, false, false] rfl rfl (any_of HT_.out (by kernel_rfl)) (fun _ _ _ h => h) (Or.inl ⟨by rfl, ?_⟩) ?_ ?_
                                            rotate_left
                                            · intro w'
                                              go_simp
                                              with_reducible rfl
                                            rotate_left
                                            · simp only [Act.put, List.setIfInBounds_toArray, List.set_cons_zero, List.set_cons_succ, i64_w, i32_w]
                                              rfl
                                            refine pure_ (i := 8) (N := some 51) (v := ?_) (a' := ?_) #[true, true, true, true, true, false, false, true, true, false, false, false, false, false, false, false, false, false, false, false] rfl rfl (any_of HT_.out (by kernel_rfl)) (fun _ _ _ h => h) (Or.inl ⟨by rfl, ?_⟩) ?_ ?_
                                            rotate_left
                                            · intro w'
                                              go_simp
                                              with_reducible rfl
                                            rotate_left
                                            · simp only [Act.put, List.setIfInBounds_toArray, List.set_cons_zero, List.set_cons_succ, i64_w, i32_w]
                                              rfl
                                            refine pure_ (i := 11) (N := some 54) (v := ?_) (a' := ?_) #[true, true, true, true, true, false, false, true, true, false, false, true, false, false, false, false, false, false, false, false] rfl rfl (any_of HT_.out (by kernel_rfl)) (fun _ _ _ h => h) (Or.inl ⟨by rfl, ?_⟩) ?_ ?_
                                            rotate_left
                                            · intro w'
                                              go_simp
                                              with_reducible rfl
                                            rotate_left
                                            · simp only [Act.put, List.setIfInBounds_toArray, List.set_cons_zero, List.set_cons_succ, i64_w, i32_w]
                                              rfl
                                            refine pure_ (i := 15) (N := some 58) (v := ?_) (a' := ?_) #[true, true, true, true, true, false, false, true, true, false, false, true, false, false, false, true, false, false, false, false] rfl rfl (any_of HT_.out (by kernel_rfl)) (fun _ _ _ h => h) (Or.inl ⟨by rfl, ?_⟩) ?_ ?_
                                            rotate_left
                                            · intro w'
                                              go_simp
                                              with_reducible rfl
                                            rotate_left
                                            · simp only [Act.put, List.setIfInBounds_toArray, List.set_cons_zero, List.set_cons_succ, i64_w, i32_w]
                                              rfl
                                            refine pure_ (i := 16) (N := some 59) (v := ?_) (a' := ?_) #[true, true, true, true, true, false, false, true, true, false, false, true, false, false, false, true, true, false, false, false] rfl rfl (any_of HT_.out (by kernel_rfl)) (fun _ _ _ h => h) (Or.inl ⟨by rfl, ?_⟩) ?_ ?_
                                            rotate_left
                                            · intro w'
                                              go_simp
                                              with_reducible rfl
                                            rotate_left
                                            · simp only [Act.put, List.setIfInBounds_toArray, List.set_cons_zero, List.set_cons_succ, i64_w, i32_w]
                                              rfl
                                            refine pure_ (i := 17) (N := some 60) (v := ?_) (a' := ?_) #[true, true, true, true, true, false, false, true, true, false, false, true, false, false, false, true, true, true, false, false] rfl rfl (any_of HT_.out (by kernel_rfl)) (fun _ _ _ h => h) (Or.inl ⟨by rfl, ?_⟩) ?_ ?_
                                            rotate_left
                                            · intro w'
                                              go_simp
                                              with_reducible rfl
                                            rotate_left
                                            · simp only [Act.put, List.setIfInBounds_toArray, List.set_cons_zero, List.set_cons_succ, i64_w, i32_w]
                                              rfl
                                            refine join_ (σ := Value) 3 #[true, true, true, true, true, true, true, true, true, true, true, true, true, true, false, true, true, true, false, false] (fun s_ => [(48, .string t132), (52, .string t133), (55, s_), (56, .string (strOfNums y134)), (49, .string (x5_3 ++ t132)), (53, .string ((x5_3 ++ t132) ++ t133))]) (fun s_ w' => (Kd.R (Kd.int .u8) 5 w' w.heap.size (fun _ => True) s_ y134) ∧ (Below w.heap.size w w')) ?_ ?_
                                            rotate_left
                                            · intro hJ5_9_12_13
                                              refine join_ (σ := Value) 4 #[true, true, true, true, true, true, true, true, true, true, true, true, true, false, false, true, true, true, false, false] (fun s_ => [(48, .string t132), (52, .string t133), (55, s_), (49, .string (x5_3 ++ t132)), (53, .string ((x5_3 ++ t132) ++ t133))]) (fun s_ w' => (Kd.R (Kd.int .u8) 5 w' w.heap.size (fun _ => True) s_ y134) ∧ (Below w.heap.size w w')) ?_ ?_
                                              rotate_left
                                              · intro hJ5_9_12
                                                refine join_ (σ := Value) 5 #[true, true, true, true, true, true, true, true, true, false, false, true, true, true, false, true, true, true, false, false] (fun s_ => [(48, .string t132), (55, s_), (56, .string (strOfNums y134)), (49, .string (x5_3 ++ t132))]) (fun s_ w' => (Kd.R (Kd.int .u8) 5 w' w.heap.size (fun _ => True) s_ y134) ∧ (Below w.heap.size w w')) ?_ ?_
                                                rotate_left
                                                · intro hJ5_12_13
                                                  refine join_ (σ := Unit) 5 #[true, true, true, true, true, true, true, true, true, true, true, true, false, false, false, true, true, true, false, false] (fun s_ => [(48, .string t132), (52, .string t133), (49, .string (x5_3 ++ t132)), (53, .string ((x5_3 ++ t132) ++ t133))]) (fun s_ w' => (Below w.heap.size w w')) ?_ ?_
                                                  rotate_left
                                                  · intro hJ5_9
                                                    refine join_ (σ := Value) 6 #[true, true, true, true, true, true, true, true, true, false, false, true, true, false, false, true, true, true, false, false] (fun s_ => [(48, .string t132), (55, s_), (49, .string (x5_3 ++ t132))]) (fun s_ w' => (Kd.R (Kd.int .u8) 5 w' w.heap.size (fun _ => True) s_ y134) ∧ (Below w.heap.size w w')) ?_ ?_
                                                    rotate_left
                                                    · intro hJ5_12
                                                      refine join_ (σ := Value) 7 #[true, true, true, true, true, false, false, true, true, false, false, true, true, true, false, true, true, true, false, false] (fun s_ => [(55, s_), (56, .string (strOfNums y134))]) (fun s_ w' => (Kd.R (Kd.int .u8) 5 w' w.heap.size (fun _ => True) s_ y134) ∧ (Below w.heap.size w w')) ?_ ?_
                                                      rotate_left
                                                      · intro hJ12_13
                                                        refine join_ (σ := Unit) 7 #[true, true, true, true, true, true, true, true, true, false, false, true, false, false, false, true, true, true, false, false] (fun s_ => [(48, .string t132), (49, .string (x5_3 ++ t132))]) (fun s_ w' => (Below w.heap.size w w')) ?_ ?_
                                                        rotate_left
                                                        · intro hJ5
                                                          refine join_ (σ := Value) 8 #[true, true, true, true, true, false, false, true, true, false, false, true, true, false, false, true, true, true, false, false] (fun s_ => [(55, s_)]) (fun s_ w' => (Kd.R (Kd.int .u8) 5 w' w.heap.size (fun _ => True) s_ y134) ∧ (Below w.heap.size w w')) ?_ ?_
                                                          rotate_left
                                                          · intro hJ12
                                                            refine two_ (i := 5) (j := 12) (Ni := some 48) (Nj := some 55) #[true, true, true, true, true, true, false, true, true, false, false, true, false, false, false, true, true, true, false, false] #[true, true, true, true, true, false, false, true, true, false, false, true, true, false, false, true, true, true, false, false] rfl rfl rfl rfl (two_of HT_.out (by kernel_rfl)) (by decide) (by decide) (fun K hK => ?_) (fun K hK => ?_)
                                                            · skip
                                                              refine goes_ Tryd.func74 (by kernel_rfl) rfl #[.int .u8 x8_12, .string (x1_2.extract 0 (x7_8 : Int).toNat)] (by rfl) rfl rfl (by (try simp only [List.map_toArray, List.map_cons, List.map_nil]); first | done | rfl | (simp only [List.length_drop, List.length_take]; rfl)) ?_
                                                              with_reducible refine (bourseref05_sum.calls kj12 x8_12 (x1_2.extract 0 (x7_8 : Int).toNat) t132 _ A19.out).mono ?_
                                                              rintro e w46 ⟨rfl, hb⟩
                                                              refine ⟨_, rfl, ?_⟩
                                                              have n0_ := Aside0.mk (below_step (by repeat (first | (with_reducible first | exact HB.out | apply below_alloc | apply pw_below_drewN | apply below_drew1) | exact HB.out)) hb)
                                                              clear HB
                                                              have HB := n0_
                                                              clear n0_
                                                              (try clear hb)
                                                              (try clear hb2)
                                                              (try clear hk)
                                                              (try clear hi)
                                                              refine hK.out _ _ trivial (fun hHeld => ?_)
                                                              clear hK K
                                                              refine norm_ (a' := ?_) ?_ ?_
                                                              rotate_left
                                                              · show Act.put _ (some 48) _ = _
                                                                simp only [Act.put, List.setIfInBounds_toArray, List.set_cons_zero, List.set_cons_succ, i64_w, i32_w]
                                                                rfl
                                                              refine pure_ (i := 6) (N := some 49) (v := ?_) (a' := ?_) #[true, true, true, true, true, true, true, true, true, false, false, true, false, false, false, true, true, true, false, false] rfl rfl (any_of HT_.out (by kernel_rfl)) (fun _ _ _ h => h) (Or.inl ⟨by rfl, ?_⟩) ?_ ?_
                                                              rotate_left
                                                              · intro w'
                                                                go_simp
                                                                with_reducible rfl
                                                              rotate_left
                                                              · simp only [Act.put, List.setIfInBounds_toArray, List.set_cons_zero, List.set_cons_succ, i64_w, i32_w]
                                                                rfl
                                                              exact norm_ (by first | (simp only [putAll, Act.put, List.setIfInBounds_toArray, List.set_cons_zero, List.set_cons_succ]; done) | (simp only [putAll, Act.put, List.setIfInBounds_toArray, List.set_cons_zero, List.set_cons_succ]; rfl)) (hJ5 () _ (by repeat (first | (with_reducible first | exact HB.out | apply below_alloc | apply pw_below_drewN | apply below_drew1) | exact HB.out)))
                                                            · skip
                                                              refine Kd.R_lit_step (Kd.int .u8) _ 5 ?hg (N := 55) ?hd (xs := ([x8_12] : List Int)) (inner := [.int .u8 x8_12]) (ok := fun _ => True) (okp := fun _ => True) ?hr ?hp (fun _ hk => hk) trivial (Below.refl _ _) (Nat.le_refl _) (by simp) ?_; (case hd => rfl); (case hg => rfl); (case hr => first | (go_simp; done) | (go_simp; rfl)); (case hp => exact (Reps.one (show Kd.M (Kd.int .u8) _ _ _ x8_12 [.int .u8 x8_12] from rfl) (Reps.none _ _)))
                                                              intro v135 w46 ho47 hb hg_ hnew_
                                                              clear hg_ hnew_
                                                              (first | rw [← Ny134.out] at ho47 | (simp only [Int.reduceToNat] at ho47; rw [← Ny134.out] at ho47))
                                                              have n0_ := Aside0.mk (Kd.R_lower ho47 (below_size (by repeat (first | (with_reducible first | exact HB.out | apply below_alloc | apply pw_below_drewN | apply below_drew1) | exact HB.out))))
                                                              have n1_ := Aside0.mk (below_step (by repeat (first | (with_reducible first | exact HB.out | apply below_alloc | apply pw_below_drewN | apply below_drew1) | exact HB.out)) hb)
                                                              clear HB
                                                              have HO136 := n0_
                                                              have HB := n1_
                                                              clear n0_ n1_
                                                              clear hb ho47
                                                              refine hK.out _ _ trivial (fun hHeld => ?_)
                                                              clear hK K
                                                              refine norm_ (a' := ?_) ?_ ?_
                                                              rotate_left
                                                              · show Act.put _ (some 55) _ = _
                                                                simp only [Act.put, List.setIfInBounds_toArray, List.set_cons_zero, List.set_cons_succ, i64_w, i32_w]
                                                                rfl
                                                              exact norm_ (by first | (simp only [putAll, Act.put, List.setIfInBounds_toArray, List.set_cons_zero, List.set_cons_succ]; done) | (simp only [putAll, Act.put, List.setIfInBounds_toArray, List.set_cons_zero, List.set_cons_succ]; rfl)) (hJ12 (v135) _ ⟨(by (with_reducible repeat (first | apply Kd.R_alloc | apply Kd.R_drewN | apply Kd.R_drew)); exact HO136.out), (by repeat (first | (with_reducible first | exact HB.out | apply below_alloc | apply pw_below_drewN | apply below_drew1) | exact HB.out))⟩)
                                                          · skip
                                                            rintro v135 w48 ⟨h0_, h1_⟩
                                                            have n0_ : Aside0 (Kd.R (Kd.int .u8) 5 w48 w.heap.size (fun _ => True) v135 y134) := ⟨h0_⟩
                                                            have n1_ : Aside0 (Below w.heap.size w w48) := ⟨h1_⟩
                                                            clear HB
                                                            clear h0_ h1_
                                                            have HO136 := n0_
                                                            have HB := n1_
                                                            clear n0_ n1_
                                                            have hHeld := trivial
                                                            refine norm_ (a' := ?_) ?_ ?_
                                                            rotate_left
                                                            · simp only [putAll, Act.put, List.setIfInBounds_toArray, List.set_cons_zero, List.set_cons_succ]
                                                              rfl
                                                            refine two_ (i := 5) (j := 13) (Ni := some 48) (Nj := some 56) #[true, true, true, true, true, true, false, true, true, false, false, true, true, false, false, true, true, true, false, false] #[true, true, true, true, true, false, false, true, true, false, false, true, true, true, false, true, true, true, false, false] rfl rfl rfl rfl (two_of HT_.out (by kernel_rfl)) (by decide) (by decide) (fun K hK => ?_) (fun K hK => ?_)
                                                            · skip
                                                              refine goes_ Tryd.func74 (by kernel_rfl) rfl #[.int .u8 x8_12, .string (x1_2.extract 0 (x7_8 : Int).toNat)] (by rfl) rfl rfl (by (try simp only [List.map_toArray, List.map_cons, List.map_nil]); first | done | rfl | (simp only [List.length_drop, List.length_take]; rfl)) ?_
                                                              with_reducible refine (bourseref05_sum.calls kj12 x8_12 (x1_2.extract 0 (x7_8 : Int).toNat) t132 _ A19.out).mono ?_
                                                              rintro e w49 ⟨rfl, hb⟩
                                                              refine ⟨_, rfl, ?_⟩
                                                              have n0_ := Aside0.mk (Kd.R_below (by (with_reducible repeat (first | apply Kd.R_alloc | apply Kd.R_drewN | apply Kd.R_drew)); exact HO136.out) hb)
                                                              have n1_ := Aside0.mk (below_step (by repeat (first | (with_reducible first | exact HB.out | apply below_alloc | apply pw_below_drewN | apply below_drew1) | exact HB.out)) hb)
                                                              clear HO136
                                                              clear HB
                                                              have HO136 := n0_
                                                              have HB := n1_
                                                              clear n0_ n1_
                                                              (try clear hb)
                                                              (try clear hb2)
                                                              (try clear hk)
                                                              (try clear hi)
                                                              refine hK.out _ _ trivial (fun hHeld => ?_)
                                                              clear hK K
                                                              refine norm_ (a' := ?_) ?_ ?_
                                                              rotate_left
                                                              · show Act.put _ (some 48) _ = _
                                                                simp only [Act.put, List.setIfInBounds_toArray, List.set_cons_zero, List.set_cons_succ, i64_w, i32_w]
                                                                rfl
                                                              refine pure_ (i := 6) (N := some 49) (v := ?_) (a' := ?_) #[true, true, true, true, true, true, true, true, true, false, false, true, true, false, false, true, true, true, false, false] rfl rfl (any_of HT_.out (by kernel_rfl)) (fun _ _ _ h => h) (Or.inl ⟨by rfl, ?_⟩) ?_ ?_
                                                              rotate_left
                                                              · intro w'
                                                                go_simp
                                                                with_reducible rfl
                                                              rotate_left
                                                              · simp only [Act.put, List.setIfInBounds_toArray, List.set_cons_zero, List.set_cons_succ, i64_w, i32_w]
                                                                rfl
                                                              exact norm_ (by first | (simp only [putAll, Act.put, List.setIfInBounds_toArray, List.set_cons_zero, List.set_cons_succ]; done) | (simp only [putAll, Act.put, List.setIfInBounds_toArray, List.set_cons_zero, List.set_cons_succ]; rfl)) (hJ5_12 (v135) _ ⟨(by (with_reducible repeat (first | apply Kd.R_alloc | apply Kd.R_drewN | apply Kd.R_drew)); exact HO136.out), (by repeat (first | (with_reducible first | exact HB.out | apply below_alloc | apply pw_below_drewN | apply below_drew1) | exact HB.out))⟩)
                                                            · skip
                                                              have hcv49 := own_string (P := Tryd.prog) Tryd.underlying64 Tryd.underlying5 Tryd.underlying9 (Kd.own_of_R HO136.out)
                                                              refine value_ (w1 := ?_) (v := ?_) (by rfl) rfl ?_ ?_
                                                              rotate_left 2
                                                              · go_simp
                                                                constructor
                                                                · rfl
                                                                · rfl
                                                              clear hcv49
                                                              refine hK.out _ _ trivial (fun hHeld => ?_)
                                                              clear hK K
                                                              refine norm_ (a' := ?_) ?_ ?_
                                                              rotate_left
                                                              · show Act.put _ (some 56) _ = _
                                                                simp only [Act.put, List.setIfInBounds_toArray, List.set_cons_zero, List.set_cons_succ, i64_w, i32_w]
                                                                rfl
                                                              exact norm_ (by first | (simp only [putAll, Act.put, List.setIfInBounds_toArray, List.set_cons_zero, List.set_cons_succ]; done) | (simp only [putAll, Act.put, List.setIfInBounds_toArray, List.set_cons_zero, List.set_cons_succ]; rfl)) (hJ12_13 (v135) _ ⟨(by (with_reducible repeat (first | apply Kd.R_alloc | apply Kd.R_drewN | apply Kd.R_drew)); exact HO136.out), (by repeat (first | (with_reducible first | exact HB.out | apply below_alloc | apply pw_below_drewN | apply below_drew1) | exact HB.out))⟩)
                                                        · skip
                                                          rintro _ w47 h0_
                                                          have n0_ : Aside0 (Below w.heap.size w w47) := ⟨h0_⟩
                                                          clear HB
                                                          clear h0_
                                                          have HB := n0_
                                                          clear n0_
                                                          have hHeld := trivial
                                                          refine norm_ (a' := ?_) ?_ ?_
                                                          rotate_left
                                                          · simp only [putAll, Act.put, List.setIfInBounds_toArray, List.set_cons_zero, List.set_cons_succ]
                                                            rfl
                                                          refine two_ (i := 9) (j := 12) (Ni := some 52) (Nj := some 55) #[true, true, true, true, true, true, true, true, true, true, false, true, false, false, false, true, true, true, false, false] #[true, true, true, true, true, true, true, true, true, false, false, true, true, false, false, true, true, true, false, false] rfl rfl rfl rfl (two_of HT_.out (by kernel_rfl)) (by decide) (by decide) (fun K hK => ?_) (fun K hK => ?_)
                                                          · skip
                                                            refine goes_ Tryd.func84 (by kernel_rfl) rfl #[.int .u64 (IntKind.u64.wrap (x7_8)), .int .i64 2] (by rfl) rfl rfl (by (try simp only [List.map_toArray, List.map_cons, List.map_nil]); first | done | rfl | (simp only [List.length_drop, List.length_take]; rfl)) ?_
                                                            with_reducible refine (bourseref03_Little.calls kj12 (IntKind.u64.wrap (x7_8)) 2 t133 _ A21.out).mono ?_
                                                            rintro e w48 ⟨rfl, hb⟩
                                                            refine ⟨_, rfl, ?_⟩
                                                            have n0_ := Aside0.mk (below_step (by repeat (first | (with_reducible first | exact HB.out | apply below_alloc | apply pw_below_drewN | apply below_drew1) | exact HB.out)) hb)
                                                            clear HB
                                                            have HB := n0_
                                                            clear n0_
                                                            (try clear hb)
                                                            (try clear hb2)
                                                            (try clear hk)
                                                            (try clear hi)
                                                            refine hK.out _ _ trivial (fun hHeld => ?_)
                                                            clear hK K
                                                            refine norm_ (a' := ?_) ?_ ?_
                                                            rotate_left
                                                            · show Act.put _ (some 52) _ = _
                                                              simp only [Act.put, List.setIfInBounds_toArray, List.set_cons_zero, List.set_cons_succ, i64_w, i32_w]
                                                              rfl
                                                            refine pure_ (i := 10) (N := some 53) (v := ?_) (a' := ?_) #[true, true, true, true, true, true, true, true, true, true, true, true, false, false, false, true, true, true, false, false] rfl rfl (any_of HT_.out (by kernel_rfl)) (fun _ _ _ h => h) (Or.inl ⟨by rfl, ?_⟩) ?_ ?_
                                                            rotate_left
                                                            · intro w'
                                                              go_simp
                                                              with_reducible rfl
                                                            rotate_left
                                                            · simp only [Act.put, List.setIfInBounds_toArray, List.set_cons_zero, List.set_cons_succ, i64_w, i32_w]
                                                              rfl
                                                            exact norm_ (by first | (simp only [putAll, Act.put, List.setIfInBounds_toArray, List.set_cons_zero, List.set_cons_succ]; done) | (simp only [putAll, Act.put, List.setIfInBounds_toArray, List.set_cons_zero, List.set_cons_succ]; rfl)) (hJ5_9 () _ (by repeat (first | (with_reducible first | exact HB.out | apply below_alloc | apply pw_below_drewN | apply below_drew1) | exact HB.out)))
                                                          · skip
                                                            refine Kd.R_lit_step (Kd.int .u8) _ 5 ?hg (N := 55) ?hd (xs := ([x8_12] : List Int)) (inner := [.int .u8 x8_12]) (ok := fun _ => True) (okp := fun _ => True) ?hr ?hp (fun _ hk => hk) trivial (Below.refl _ _) (Nat.le_refl _) (by simp) ?_; (case hd => rfl); (case hg => rfl); (case hr => first | (go_simp; done) | (go_simp; rfl)); (case hp => exact (Reps.one (show Kd.M (Kd.int .u8) _ _ _ x8_12 [.int .u8 x8_12] from rfl) (Reps.none _ _)))
                                                            intro v135 w48 ho49 hb hg_ hnew_
                                                            clear hg_ hnew_
                                                            (first | rw [← Ny134.out] at ho49 | (simp only [Int.reduceToNat] at ho49; rw [← Ny134.out] at ho49))
                                                            have n0_ := Aside0.mk (Kd.R_lower ho49 (below_size (by repeat (first | (with_reducible first | exact HB.out | apply below_alloc | apply pw_below_drewN | apply below_drew1) | exact HB.out))))
                                                            have n1_ := Aside0.mk (below_step (by repeat (first | (with_reducible first | exact HB.out | apply below_alloc | apply pw_below_drewN | apply below_drew1) | exact HB.out)) hb)
                                                            clear HB
                                                            have HO136 := n0_
                                                            have HB := n1_
                                                            clear n0_ n1_
                                                            clear hb ho49
                                                            refine hK.out _ _ trivial (fun hHeld => ?_)
                                                            clear hK K
                                                            refine norm_ (a' := ?_) ?_ ?_
                                                            rotate_left
                                                            · show Act.put _ (some 55) _ = _
                                                              simp only [Act.put, List.setIfInBounds_toArray, List.set_cons_zero, List.set_cons_succ, i64_w, i32_w]
                                                              rfl
                                                            exact norm_ (by first | (simp only [putAll, Act.put, List.setIfInBounds_toArray, List.set_cons_zero, List.set_cons_succ]; done) | (simp only [putAll, Act.put, List.setIfInBounds_toArray, List.set_cons_zero, List.set_cons_succ]; rfl)) (hJ5_12 (v135) _ ⟨(by (with_reducible repeat (first | apply Kd.R_alloc | apply Kd.R_drewN | apply Kd.R_drew)); exact HO136.out), (by repeat (first | (with_reducible first | exact HB.out | apply below_alloc | apply pw_below_drewN | apply below_drew1) | exact HB.out))⟩)
                                                      · skip
                                                        rintro v135 w49 ⟨h0_, h1_⟩
                                                        have n0_ : Aside0 (Kd.R (Kd.int .u8) 5 w49 w.heap.size (fun _ => True) v135 y134) := ⟨h0_⟩
                                                        have n1_ : Aside0 (Below w.heap.size w w49) := ⟨h1_⟩
                                                        clear HB
                                                        clear h0_ h1_
                                                        have HO136 := n0_
                                                        have HB := n1_
                                                        clear n0_ n1_
                                                        have hHeld := trivial
                                                        refine norm_ (a' := ?_) ?_ ?_
                                                        rotate_left
                                                        · simp only [putAll, Act.put, List.setIfInBounds_toArray, List.set_cons_zero, List.set_cons_succ]
                                                          rfl
                                                        refine one_ (i := 5) (N := some 48) #[true, true, true, true, true, true, false, true, true, false, false, true, true, true, false, true, true, true, false, false] rfl rfl (one_of HT_.out (by kernel_rfl)) (by decide) (fun K hK => ?_)
                                                        refine goes_ Tryd.func74 (by kernel_rfl) rfl #[.int .u8 x8_12, .string (x1_2.extract 0 (x7_8 : Int).toNat)] (by rfl) rfl rfl (by (try simp only [List.map_toArray, List.map_cons, List.map_nil]); first | done | rfl | (simp only [List.length_drop, List.length_take]; rfl)) ?_
                                                        with_reducible refine (bourseref05_sum.calls kj12 x8_12 (x1_2.extract 0 (x7_8 : Int).toNat) t132 _ A19.out).mono ?_
                                                        rintro e w50 ⟨rfl, hb⟩
                                                        refine ⟨_, rfl, ?_⟩
                                                        have n0_ := Aside0.mk (Kd.R_below (by (with_reducible repeat (first | apply Kd.R_alloc | apply Kd.R_drewN | apply Kd.R_drew)); exact HO136.out) hb)
                                                        have n1_ := Aside0.mk (below_step (by repeat (first | (with_reducible first | exact HB.out | apply below_alloc | apply pw_below_drewN | apply below_drew1) | exact HB.out)) hb)
                                                        clear HO136
                                                        clear HB
                                                        have HO136 := n0_
                                                        have HB := n1_
                                                        clear n0_ n1_
                                                        (try clear hb)
                                                        (try clear hb2)
                                                        (try clear hk)
                                                        (try clear hi)
                                                        refine hK.out _ _ trivial (fun hHeld => ?_)
                                                        clear hK K
                                                        refine norm_ (a' := ?_) ?_ ?_
                                                        rotate_left
                                                        · show Act.put _ (some 48) _ = _
                                                          simp only [Act.put, List.setIfInBounds_toArray, List.set_cons_zero, List.set_cons_succ, i64_w, i32_w]
                                                          rfl
                                                        refine pure_ (i := 6) (N := some 49) (v := ?_) (a' := ?_) #[true, true, true, true, true, true, true, true, true, false, false, true, true, true, false, true, true, true, false, false] rfl rfl (any_of HT_.out (by kernel_rfl)) (fun _ _ _ h => h) (Or.inl ⟨by rfl, ?_⟩) ?_ ?_
                                                        rotate_left
                                                        · intro w'
                                                          go_simp
                                                          with_reducible rfl
                                                        rotate_left
                                                        · simp only [Act.put, List.setIfInBounds_toArray, List.set_cons_zero, List.set_cons_succ, i64_w, i32_w]
                                                          rfl
                                                        exact norm_ (by first | (simp only [putAll, Act.put, List.setIfInBounds_toArray, List.set_cons_zero, List.set_cons_succ]; done) | (simp only [putAll, Act.put, List.setIfInBounds_toArray, List.set_cons_zero, List.set_cons_succ]; rfl)) (hJ5_12_13 (v135) _ ⟨(by (with_reducible repeat (first | apply Kd.R_alloc | apply Kd.R_drewN | apply Kd.R_drew)); exact HO136.out), (by repeat (first | (with_reducible first | exact HB.out | apply below_alloc | apply pw_below_drewN | apply below_drew1) | exact HB.out))⟩)
                                                    · skip
                                                      rintro v135 w49 ⟨h0_, h1_⟩
                                                      have n0_ : Aside0 (Kd.R (Kd.int .u8) 5 w49 w.heap.size (fun _ => True) v135 y134) := ⟨h0_⟩
                                                      have n1_ : Aside0 (Below w.heap.size w w49) := ⟨h1_⟩
                                                      clear HB
                                                      clear h0_ h1_
                                                      have HO136 := n0_
                                                      have HB := n1_
                                                      clear n0_ n1_
                                                      have hHeld := trivial
                                                      refine norm_ (a' := ?_) ?_ ?_
                                                      rotate_left
                                                      · simp only [putAll, Act.put, List.setIfInBounds_toArray, List.set_cons_zero, List.set_cons_succ]
                                                        rfl
                                                      refine two_ (i := 9) (j := 13) (Ni := some 52) (Nj := some 56) #[true, true, true, true, true, true, true, true, true, true, false, true, true, false, false, true, true, true, false, false] #[true, true, true, true, true, true, true, true, true, false, false, true, true, true, false, true, true, true, false, false] rfl rfl rfl rfl (two_of HT_.out (by kernel_rfl)) (by decide) (by decide) (fun K hK => ?_) (fun K hK => ?_)
                                                      · skip
                                                        refine goes_ Tryd.func84 (by kernel_rfl) rfl #[.int .u64 (IntKind.u64.wrap (x7_8)), .int .i64 2] (by rfl) rfl rfl (by (try simp only [List.map_toArray, List.map_cons, List.map_nil]); first | done | rfl | (simp only [List.length_drop, List.length_take]; rfl)) ?_
                                                        with_reducible refine (bourseref03_Little.calls kj12 (IntKind.u64.wrap (x7_8)) 2 t133 _ A21.out).mono ?_
                                                        rintro e w50 ⟨rfl, hb⟩
                                                        refine ⟨_, rfl, ?_⟩
                                                        have n0_ := Aside0.mk (Kd.R_below (by (with_reducible repeat (first | apply Kd.R_alloc | apply Kd.R_drewN | apply Kd.R_drew)); exact HO136.out) hb)
                                                        have n1_ := Aside0.mk (below_step (by repeat (first | (with_reducible first | exact HB.out | apply below_alloc | apply pw_below_drewN | apply below_drew1) | exact HB.out)) hb)
                                                        clear HO136
                                                        clear HB
                                                        have HO136 := n0_
                                                        have HB := n1_
                                                        clear n0_ n1_
                                                        (try clear hb)
                                                        (try clear hb2)
                                                        (try clear hk)
                                                        (try clear hi)
                                                        refine hK.out _ _ trivial (fun hHeld => ?_)
                                                        clear hK K
                                                        refine norm_ (a' := ?_) ?_ ?_
                                                        rotate_left
                                                        · show Act.put _ (some 52) _ = _
                                                          simp only [Act.put, List.setIfInBounds_toArray, List.set_cons_zero, List.set_cons_succ, i64_w, i32_w]
                                                          rfl
                                                        refine pure_ (i := 10) (N := some 53) (v := ?_) (a' := ?_) #[true, true, true, true, true, true, true, true, true, true, true, true, true, false, false, true, true, true, false, false] rfl rfl (any_of HT_.out (by kernel_rfl)) (fun _ _ _ h => h) (Or.inl ⟨by rfl, ?_⟩) ?_ ?_
                                                        rotate_left
                                                        · intro w'
                                                          go_simp
                                                          with_reducible rfl
                                                        rotate_left
                                                        · simp only [Act.put, List.setIfInBounds_toArray, List.set_cons_zero, List.set_cons_succ, i64_w, i32_w]
                                                          rfl
                                                        exact norm_ (by first | (simp only [putAll, Act.put, List.setIfInBounds_toArray, List.set_cons_zero, List.set_cons_succ]; done) | (simp only [putAll, Act.put, List.setIfInBounds_toArray, List.set_cons_zero, List.set_cons_succ]; rfl)) (hJ5_9_12 (v135) _ ⟨(by (with_reducible repeat (first | apply Kd.R_alloc | apply Kd.R_drewN | apply Kd.R_drew)); exact HO136.out), (by repeat (first | (with_reducible first | exact HB.out | apply below_alloc | apply pw_below_drewN | apply below_drew1) | exact HB.out))⟩)
                                                      · skip
                                                        have hcv50 := own_string (P := Tryd.prog) Tryd.underlying64 Tryd.underlying5 Tryd.underlying9 (Kd.own_of_R HO136.out)
                                                        refine value_ (w1 := ?_) (v := ?_) (by rfl) rfl ?_ ?_
                                                        rotate_left 2
                                                        · go_simp
                                                          constructor
                                                          · rfl
                                                          · rfl
                                                        clear hcv50
                                                        refine hK.out _ _ trivial (fun hHeld => ?_)
                                                        clear hK K
                                                        refine norm_ (a' := ?_) ?_ ?_
                                                        rotate_left
                                                        · show Act.put _ (some 56) _ = _
                                                          simp only [Act.put, List.setIfInBounds_toArray, List.set_cons_zero, List.set_cons_succ, i64_w, i32_w]
                                                          rfl
                                                        exact norm_ (by first | (simp only [putAll, Act.put, List.setIfInBounds_toArray, List.set_cons_zero, List.set_cons_succ]; done) | (simp only [putAll, Act.put, List.setIfInBounds_toArray, List.set_cons_zero, List.set_cons_succ]; rfl)) (hJ5_12_13 (v135) _ ⟨(by (with_reducible repeat (first | apply Kd.R_alloc | apply Kd.R_drewN | apply Kd.R_drew)); exact HO136.out), (by repeat (first | (with_reducible first | exact HB.out | apply below_alloc | apply pw_below_drewN | apply below_drew1) | exact HB.out))⟩)
                                                  · skip
                                                    rintro _ w48 h0_
                                                    have n0_ : Aside0 (Below w.heap.size w w48) := ⟨h0_⟩
                                                    clear HB
                                                    clear h0_
                                                    have HB := n0_
                                                    clear n0_
                                                    have hHeld := trivial
                                                    refine norm_ (a' := ?_) ?_ ?_
                                                    rotate_left
                                                    · simp only [putAll, Act.put, List.setIfInBounds_toArray, List.set_cons_zero, List.set_cons_succ]
                                                      rfl
                                                    refine one_ (i := 12) (N := some 55) #[true, true, true, true, true, true, true, true, true, true, true, true, true, false, false, true, true, true, false, false] rfl rfl (one_of HT_.out (by kernel_rfl)) (by decide) (fun K hK => ?_)
                                                    refine Kd.R_lit_step (Kd.int .u8) _ 5 ?hg (N := 55) ?hd (xs := ([x8_12] : List Int)) (inner := [.int .u8 x8_12]) (ok := fun _ => True) (okp := fun _ => True) ?hr ?hp (fun _ hk => hk) trivial (Below.refl _ _) (Nat.le_refl _) (by simp) ?_; (case hd => rfl); (case hg => rfl); (case hr => first | (go_simp; done) | (go_simp; rfl)); (case hp => exact (Reps.one (show Kd.M (Kd.int .u8) _ _ _ x8_12 [.int .u8 x8_12] from rfl) (Reps.none _ _)))
                                                    intro v135 w49 ho50 hb hg_ hnew_
                                                    clear hg_ hnew_
                                                    (first | rw [← Ny134.out] at ho50 | (simp only [Int.reduceToNat] at ho50; rw [← Ny134.out] at ho50))
                                                    have n0_ := Aside0.mk (Kd.R_lower ho50 (below_size (by repeat (first | (with_reducible first | exact HB.out | apply below_alloc | apply pw_below_drewN | apply below_drew1) | exact HB.out))))
                                                    have n1_ := Aside0.mk (below_step (by repeat (first | (with_reducible first | exact HB.out | apply below_alloc | apply pw_below_drewN | apply below_drew1) | exact HB.out)) hb)
                                                    clear HB
                                                    have HO136 := n0_
                                                    have HB := n1_
                                                    clear n0_ n1_
                                                    clear hb ho50
                                                    refine hK.out _ _ trivial (fun hHeld => ?_)
                                                    clear hK K
                                                    refine norm_ (a' := ?_) ?_ ?_
                                                    rotate_left
                                                    · show Act.put _ (some 55) _ = _
                                                      simp only [Act.put, List.setIfInBounds_toArray, List.set_cons_zero, List.set_cons_succ, i64_w, i32_w]
                                                      rfl
                                                    exact norm_ (by first | (simp only [putAll, Act.put, List.setIfInBounds_toArray, List.set_cons_zero, List.set_cons_succ]; done) | (simp only [putAll, Act.put, List.setIfInBounds_toArray, List.set_cons_zero, List.set_cons_succ]; rfl)) (hJ5_9_12 (v135) _ ⟨(by (with_reducible repeat (first | apply Kd.R_alloc | apply Kd.R_drewN | apply Kd.R_drew)); exact HO136.out), (by repeat (first | (with_reducible first | exact HB.out | apply below_alloc | apply pw_below_drewN | apply below_drew1) | exact HB.out))⟩)
                                                · skip
                                                  rintro v135 w50 ⟨h0_, h1_⟩
                                                  have n0_ : Aside0 (Kd.R (Kd.int .u8) 5 w50 w.heap.size (fun _ => True) v135 y134) := ⟨h0_⟩
                                                  have n1_ : Aside0 (Below w.heap.size w w50) := ⟨h1_⟩
                                                  clear HB
                                                  clear h0_ h1_
                                                  have HO136 := n0_
                                                  have HB := n1_
                                                  clear n0_ n1_
                                                  have hHeld := trivial
                                                  refine norm_ (a' := ?_) ?_ ?_
                                                  rotate_left
                                                  · simp only [putAll, Act.put, List.setIfInBounds_toArray, List.set_cons_zero, List.set_cons_succ]
                                                    rfl
                                                  refine one_ (i := 9) (N := some 52) #[true, true, true, true, true, true, true, true, true, true, false, true, true, true, false, true, true, true, false, false] rfl rfl (one_of HT_.out (by kernel_rfl)) (by decide) (fun K hK => ?_)
                                                  refine goes_ Tryd.func84 (by kernel_rfl) rfl #[.int .u64 (IntKind.u64.wrap (x7_8)), .int .i64 2] (by rfl) rfl rfl (by (try simp only [List.map_toArray, List.map_cons, List.map_nil]); first | done | rfl | (simp only [List.length_drop, List.length_take]; rfl)) ?_
                                                  with_reducible refine (bourseref03_Little.calls kj12 (IntKind.u64.wrap (x7_8)) 2 t133 _ A21.out).mono ?_
                                                  rintro e w51 ⟨rfl, hb⟩
                                                  refine ⟨_, rfl, ?_⟩
                                                  have n0_ := Aside0.mk (Kd.R_below (by (with_reducible repeat (first | apply Kd.R_alloc | apply Kd.R_drewN | apply Kd.R_drew)); exact HO136.out) hb)
                                                  have n1_ := Aside0.mk (below_step (by repeat (first | (with_reducible first | exact HB.out | apply below_alloc | apply pw_below_drewN | apply below_drew1) | exact HB.out)) hb)
                                                  clear HO136
                                                  clear HB
                                                  have HO136 := n0_
                                                  have HB := n1_
                                                  clear n0_ n1_
                                                  (try clear hb)
                                                  (try clear hb2)
                                                  (try clear hk)
                                                  (try clear hi)
                                                  refine hK.out _ _ trivial (fun hHeld => ?_)
                                                  clear hK K
                                                  refine norm_ (a' := ?_) ?_ ?_
                                                  rotate_left
                                                  · show Act.put _ (some 52) _ = _
                                                    simp only [Act.put, List.setIfInBounds_toArray, List.set_cons_zero, List.set_cons_succ, i64_w, i32_w]
                                                    rfl
                                                  refine pure_ (i := 10) (N := some 53) (v := ?_) (a' := ?_) #[true, true, true, true, true, true, true, true, true, true, true, true, true, true, false, true, true, true, false, false] rfl rfl (any_of HT_.out (by kernel_rfl)) (fun _ _ _ h => h) (Or.inl ⟨by rfl, ?_⟩) ?_ ?_
                                                  rotate_left
                                                  · intro w'
                                                    go_simp
                                                    with_reducible rfl
                                                  rotate_left
                                                  · simp only [Act.put, List.setIfInBounds_toArray, List.set_cons_zero, List.set_cons_succ, i64_w, i32_w]
                                                    rfl
                                                  exact norm_ (by first | (simp only [putAll, Act.put, List.setIfInBounds_toArray, List.set_cons_zero, List.set_cons_succ]; done) | (simp only [putAll, Act.put, List.setIfInBounds_toArray, List.set_cons_zero, List.set_cons_succ]; rfl)) (hJ5_9_12_13 (v135) _ ⟨(by (with_reducible repeat (first | apply Kd.R_alloc | apply Kd.R_drewN | apply Kd.R_drew)); exact HO136.out), (by repeat (first | (with_reducible first | exact HB.out | apply below_alloc | apply pw_below_drewN | apply below_drew1) | exact HB.out))⟩)
                                              · skip
                                                rintro v135 w50 ⟨h0_, h1_⟩
                                                have n0_ : Aside0 (Kd.R (Kd.int .u8) 5 w50 w.heap.size (fun _ => True) v135 y134) := ⟨h0_⟩
                                                have n1_ : Aside0 (Below w.heap.size w w50) := ⟨h1_⟩
                                                clear HB
                                                clear h0_ h1_
                                                have HO136 := n0_
                                                have HB := n1_
                                                clear n0_ n1_
                                                have hHeld := trivial
                                                refine norm_ (a' := ?_) ?_ ?_
                                                rotate_left
                                                · simp only [putAll, Act.put, List.setIfInBounds_toArray, List.set_cons_zero, List.set_cons_succ]
                                                  rfl
                                                refine one_ (i := 13) (N := some 56) #[true, true, true, true, true, true, true, true, true, true, true, true, true, true, false, true, true, true, false, false] rfl rfl (one_of HT_.out (by kernel_rfl)) (by decide) (fun K hK => ?_)
                                                have hcv51 := own_string (P := Tryd.prog) Tryd.underlying64 Tryd.underlying5 Tryd.underlying9 (Kd.own_of_R HO136.out)
                                                refine value_ (w1 := ?_) (v := ?_) (by rfl) rfl ?_ ?_
                                                rotate_left 2
                                                · go_simp
                                                  constructor
                                                  · rfl
                                                  · rfl
                                                clear hcv51
                                                refine hK.out _ _ trivial (fun hHeld => ?_)
                                                clear hK K
                                                refine norm_ (a' := ?_) ?_ ?_
                                                rotate_left
                                                · show Act.put _ (some 56) _ = _
                                                  simp only [Act.put, List.setIfInBounds_toArray, List.set_cons_zero, List.set_cons_succ, i64_w, i32_w]
                                                  rfl
                                                exact norm_ (by first | (simp only [putAll, Act.put, List.setIfInBounds_toArray, List.set_cons_zero, List.set_cons_succ]; done) | (simp only [putAll, Act.put, List.setIfInBounds_toArray, List.set_cons_zero, List.set_cons_succ]; rfl)) (hJ5_9_12_13 (v135) _ ⟨(by (with_reducible repeat (first | apply Kd.R_alloc | apply Kd.R_drewN | apply Kd.R_drew)); exact HO136.out), (by repeat (first | (with_reducible first | exact HB.out | apply below_alloc | apply pw_below_drewN | apply below_drew1) | exact HB.out))⟩)
                                            rintro v135 w51 ⟨h0_, h1_⟩
                                            have n0_ : Aside0 (Kd.R (Kd.int .u8) 5 w51 w.heap.size (fun _ => True) v135 y134) := ⟨h0_⟩
                                            have n1_ : Aside0 (Below w.heap.size w w51) := ⟨h1_⟩
                                            clear HB
                                            clear h0_ h1_
                                            have HO136 := n0_
                                            have HB := n1_
                                            clear n0_ n1_
                                            have hHeld := trivial
                                            refine norm_ (a' := ?_) ?_ ?_
                                            rotate_left
                                            · simp only [putAll, Act.put, List.setIfInBounds_toArray, List.set_cons_zero, List.set_cons_succ]
                                              rfl
                                            refine pure_ (i := 14) (N := some 57) (v := ?_) (a' := ?_) #[true, true, true, true, true, true, true, true, true, true, true, true, true, true, true, true, true, true, false, false] rfl rfl (any_of HT_.out (by kernel_rfl)) (fun _ _ _ h => h) (Or.inl ⟨by rfl, ?_⟩) ?_ ?_
                                            rotate_left
                                            · intro w'
                                              go_simp
                                              with_reducible rfl
                                            rotate_left
                                            · simp only [Act.put, List.setIfInBounds_toArray, List.set_cons_zero, List.set_cons_succ, i64_w, i32_w]
                                              rfl
                                            refine pure_ (i := 18) (N := some 61) (v := ?_) (a' := ?_) #[true, true, true, true, true, true, true, true, true, true, true, true, true, true, true, true, true, true, true, false] rfl rfl (any_of HT_.out (by kernel_rfl)) (fun _ _ _ h => h) (Or.inl ⟨by rfl, ?_⟩) ?_ ?_
                                            rotate_left
                                            · intro w'
                                              go_simp
                                              with_reducible rfl
                                            rotate_left
                                            · simp only [Act.put, List.setIfInBounds_toArray, List.set_cons_zero, List.set_cons_succ, i64_w, i32_w]
                                              rfl
                                            refine pure_ (i := 19) (N := some 5) (v := ?_) (a' := ?_) #[true, true, true, true, true, true, true, true, true, true, true, true, true, true, true, true, true, true, true, true] rfl rfl (any_of HT_.out (by kernel_rfl)) (fun _ _ _ h => h) (Or.inl ⟨by rfl, ?_⟩) ?_ ?_
                                            rotate_left
                                            · intro w'
                                              go_simp
                                              with_reducible rfl
                                            rotate_left
                                            · simp only [Act.put, List.setIfInBounds_toArray, List.set_cons_zero, List.set_cons_succ, i64_w, i32_w]
                                              rfl
                                            refine done_ (done_of HT_.out (by kernel_rfl)) ?_
                                            try go_wp2
                                            go_roundg kj12
                                            case measure => have := HJ2.out; have := HK2.out; have := HK3.out; have := HJ8.out; have := HJ10.out; have := HJ12.out; omega
                                            case rel => exact ⟨(x1_2.extract (x7_8 : Int).toNat x1_2.size), ((((x5_3 ++ t132) ++ t133) ++ (strOfNums y134)) ++ (x1_2.extract 0 (x7_8 : Int).toNat)), (false), (by first | rfl | (simp; done) | (simp [*]; done)), (by first | rfl | (simp; done) | (simp [*]; done)), (by first | rfl | (simp; done) | (simp [*]; done)), H', ⟨by have := HJ2.out; have := HK2.out; have := HK3.out; have := HJ8.out; have := HJ10.out; have := HJ12.out; omega⟩, ⟨by repeat (first | (with_reducible first | exact HB.out | apply below_alloc | apply pw_below_drewN | apply below_drew1) | exact HB.out)⟩⟩
                                      · rw [if_neg c26] at H
                                        exact absurd H (by simp)
                                    · rw [if_neg c23] at H
                                      exact absurd H (by simp)
                                  · rw [if_neg c22] at H
                                    exact absurd H (by simp)
                                · rw [if_neg c20] at H
                                  exact absurd H (by simp)
                              · rw [if_neg c18] at H
                                exact absurd H (by simp)
                            · rw [if_neg c17] at H
                              exact absurd H (by simp)
end Go.Proofs.YteilnbnnhocciaaDoor.KF
