-- Written by a turned copy of the printer of the kit (wip/tools/patch_print.py).
import Derived.Test.YteilnbnnhocciaaDoorK0
namespace Go.Proofs.YteilnbnnhocciaaDoor.K
open Go.RowKit Go.Proofs.YteilnbnnhocciaaDoorW.PrintWords Go.Proofs.YteilnbnnhocciaaDoorW.PrintLast Go.Proofs.YteilnbnnhocciaaDoorW.PrintMore Go.Proofs.YteilnbnnhocciaaDoorM
attribute [local go_sem] max2_int min2_int max_two min_two max_three min_three max_four min_four   -- for this text's walks alone
set_option linter.unusedVariables false
set_option linter.unusedSimpArgs false

/-! ### edit_wrong: function 67 -/
-- EXT rounds=0 making=1 needs=
attribute [local go_sem] gtr_run leq_run geq_run
def edit_levelB (n : Int) : Bool := decide (0 ≤ n ∧ n < 4)
def edit_keyedB (s : ByteArray) : Bool := decide (0 < s.size ∧ s.size ≤ 200)
def edit_wrong.val (lv num : Int) (least most : ByteArray) : Int :=
  if edit_levelB lv = false then 21 else if (edit_keyedB least && edit_keyedB most && !Op.bytesLess most.toList least.toList) = false then 19 else if num = 0 then 8 else 0
set_option maxHeartbeats 1000000 in
theorem edit_level.any (n : Int) (w : World) : Calls Tryd.prog 70 #[.int .i64 n] w fun e w' => e = .returned (.bool (edit_levelB n)) ∧ w = w' := by
  unfold edit_levelB
  by_cases h0 : 0 ≤ n <;> by_cases h1 : n < 4
  all_goals
    go_enter Tryd.func70, Tryd.ntmps70
    go_wp2
    go_ret
    exact ⟨by simp [h0, h1], rfl⟩
set_option maxHeartbeats 1000000 in
theorem edit_keyed.any (s : ByteArray) (w : World) : Calls Tryd.prog 113 #[.string s] w fun e w' => e = .returned (.bool (edit_keyedB s)) ∧ w = w' := by
  unfold edit_keyedB
  by_cases h0 : s.toList = []
  · have h2 := (toList_nil_iff s).1 h0
    go_enter Tryd.func113, Tryd.ntmps113
    go_wp2
    go_ret
    exact ⟨by simp [h2], rfl⟩
  · have h2 : ¬ s.size = 0 := fun h => h0 ((toList_nil_iff s).2 h)
    have h3 : s.toList.isEmpty = false := by simpa using h0
    have h4 : (s.toList == []) = false := by simpa using h0
    go_enter Tryd.func113, Tryd.ntmps113
    go_wp2
    go_ret
    exact ⟨by simp [Nat.pos_of_ne_zero h2]; omega, rfl⟩
def edit_wrong.Post (w : World) (r : Int) (e : Ending) (w' : World) : Prop := e = .returned (.int .i64 r) ∧ Below w.heap.size w w'
def edit_wrong.f (a0_0 : Int) (a0_1 : Int) (a0_2 : Int) (a0_3 : Int) (a0_4 : ByteArray) (a0_5 : ByteArray) : Option (Int) := some (edit_wrong.val a0_0 a0_1 a0_4 a0_5)
set_option maxHeartbeats 2000000 in
set_option maxRecDepth 100000 in
theorem edit_wrong.walk (a0_0 : Int) (a0_1 : Int) (a0_2 : Int) (a0_3 : Int) (a0_4 : ByteArray) (a0_5 : ByteArray) (w : World) :
    Calls Tryd.prog 67 #[.agg #[.int .i64 a0_0, .int .u64 a0_1, .int .u64 a0_2, .int .u64 a0_3, .string a0_4, .string a0_5]] w (edit_wrong.Post w (edit_wrong.val a0_0 a0_1 a0_4 a0_5)) := by
  have B2 := fun (o o' : Obj) => Hush.mk (((Below.refl w.heap.size w).alloc (Nat.le_refl _) o).alloc (by simp) o')
  by_cases hl : edit_levelB a0_0 = true
  · by_cases hk : edit_keyedB a0_4 = true
    · by_cases hk2 : edit_keyedB a0_5 = true
      · by_cases hg : Op.bytesLess a0_5.toList a0_4.toList = true
        · have hv : Hush (edit_wrong.val a0_0 a0_1 a0_4 a0_5 = 19) := ⟨by simp [edit_wrong.val, hl, hk, hk2, hg]⟩
          go_enter Tryd.func67, Tryd.ntmps67
          go_wp2_with fail
          refine (edit_level.any _ _).mono ?_
          rintro e w1 ⟨rfl, rfl⟩
          go_wp2_with fail
          refine (edit_keyed.any _ _).mono ?_
          rintro e w1 ⟨rfl, rfl⟩
          go_wp2_with fail
          refine (edit_keyed.any _ _).mono ?_
          rintro e w1 ⟨rfl, rfl⟩
          go_wp2
          go_ret
          exact ⟨by rw [hv.out]; rfl, (B2 _ _).out⟩
        · have hg' : Op.bytesLess a0_5.toList a0_4.toList = false := by simpa using hg
          by_cases hz : a0_1 = 0
          · have hv : Hush (edit_wrong.val a0_0 a0_1 a0_4 a0_5 = 8) := ⟨by simp [edit_wrong.val, hl, hk, hk2, hg', hz]⟩
            have hz' : (a0_1 == 0) = true := by simpa using hz
            clear hg hz
            go_enter Tryd.func67, Tryd.ntmps67
            go_wp2_with fail
            refine (edit_level.any _ _).mono ?_
            rintro e w1 ⟨rfl, rfl⟩
            go_wp2_with fail
            refine (edit_keyed.any _ _).mono ?_
            rintro e w1 ⟨rfl, rfl⟩
            go_wp2_with fail
            refine (edit_keyed.any _ _).mono ?_
            rintro e w1 ⟨rfl, rfl⟩
            go_wp2
            go_ret
            exact ⟨by rw [hv.out]; rfl, (B2 _ _).out⟩
          · have hv : Hush (edit_wrong.val a0_0 a0_1 a0_4 a0_5 = 0) := ⟨by simp [edit_wrong.val, hl, hk, hk2, hg', hz]⟩
            have hz' : (a0_1 == 0) = false := by simpa using hz
            clear hg hz
            go_enter Tryd.func67, Tryd.ntmps67
            go_wp2_with fail
            refine (edit_level.any _ _).mono ?_
            rintro e w1 ⟨rfl, rfl⟩
            go_wp2_with fail
            refine (edit_keyed.any _ _).mono ?_
            rintro e w1 ⟨rfl, rfl⟩
            go_wp2_with fail
            refine (edit_keyed.any _ _).mono ?_
            rintro e w1 ⟨rfl, rfl⟩
            go_wp2
            go_ret
            exact ⟨by rw [hv.out]; rfl, (B2 _ _).out⟩
      · have hk2' : edit_keyedB a0_5 = false := by simpa using hk2
        have hv : Hush (edit_wrong.val a0_0 a0_1 a0_4 a0_5 = 19) := ⟨by simp [edit_wrong.val, hl, hk, hk2']⟩
        clear hk2
        go_enter Tryd.func67, Tryd.ntmps67
        go_wp2_with fail
        refine (edit_level.any _ _).mono ?_
        rintro e w1 ⟨rfl, rfl⟩
        go_wp2_with fail
        refine (edit_keyed.any _ _).mono ?_
        rintro e w1 ⟨rfl, rfl⟩
        go_wp2_with fail
        refine (edit_keyed.any _ _).mono ?_
        rintro e w1 ⟨rfl, rfl⟩
        go_wp2
        go_ret
        exact ⟨by rw [hv.out]; rfl, (B2 _ _).out⟩
    · have hk' : edit_keyedB a0_4 = false := by simpa using hk
      have hv : Hush (edit_wrong.val a0_0 a0_1 a0_4 a0_5 = 19) := ⟨by simp [edit_wrong.val, hl, hk']⟩
      clear hk
      go_enter Tryd.func67, Tryd.ntmps67
      go_wp2_with fail
      refine (edit_level.any _ _).mono ?_
      rintro e w1 ⟨rfl, rfl⟩
      go_wp2_with fail
      refine (edit_keyed.any _ _).mono ?_
      rintro e w1 ⟨rfl, rfl⟩
      go_wp2
      go_ret
      exact ⟨by rw [hv.out]; rfl, (B2 _ _).out⟩
  · have hl' : edit_levelB a0_0 = false := by simpa using hl
    have hv : Hush (edit_wrong.val a0_0 a0_1 a0_4 a0_5 = 21) := ⟨by simp [edit_wrong.val, hl']⟩
    clear hl
    go_enter Tryd.func67, Tryd.ntmps67
    go_wp2_with fail
    refine (edit_level.any _ _).mono ?_
    rintro e w1 ⟨rfl, rfl⟩
    go_wp2
    go_ret
    exact ⟨by rw [hv.out]; rfl, (B2 _ _).out⟩
theorem edit_wrong.calls (a0_0 : Int) (a0_1 : Int) (a0_2 : Int) (a0_3 : Int) (a0_4 : ByteArray) (a0_5 : ByteArray) (r : Int) (w : World) (h : edit_wrong.f a0_0 a0_1 a0_2 a0_3 a0_4 a0_5 = some r) :
    Calls Tryd.prog 67 #[.agg #[.int .i64 a0_0, .int .u64 a0_1, .int .u64 a0_2, .int .u64 a0_3, .string a0_4, .string a0_5]] w fun e w' => e = .returned (.int .i64 r) ∧ Below w.heap.size w w' := by
  obtain rfl := Option.some.inj h
  exact edit_wrong.walk _ _ _ _ _ _ _

end Go.Proofs.YteilnbnnhocciaaDoor.K
