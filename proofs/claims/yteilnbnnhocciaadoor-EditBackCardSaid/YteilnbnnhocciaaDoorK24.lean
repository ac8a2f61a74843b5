-- Written by a turned copy of the printer of the kit (wip/tools/patch_print.py).
import Derived.Test.YteilnbnnhocciaaDoorK0
import Derived.Test.YteilnbnnhocciaaDoorK10
import Derived.Test.YteilnbnnhocciaaDoorK23
namespace Go.Proofs.YteilnbnnhocciaaDoor.K
open Go.RowKit Go.Proofs.YteilnbnnhocciaaDoorW.PrintWords Go.Proofs.YteilnbnnhocciaaDoorW.PrintLast Go.Proofs.YteilnbnnhocciaaDoorW.PrintMore Go.Proofs.YteilnbnnhocciaaDoorM
attribute [local go_sem] max2_int min2_int max_two min_two max_three min_three max_four min_four   -- for this text's walks alone
set_option linter.unusedVariables false
set_option linter.unusedSimpArgs false

/-! ### bourselaw12_awake: function 13 -/
-- EXT rounds=0 making=1 needs=15,18
def bourselaw12_awake.f : Option Bool := some true
theorem bourselaw12_awake.bytes : edit_Edit_Bytes.f 20 0 0 0 [] [] = some (⟨#[0, 0, 0, 0, 0]⟩, 0) := by decide +kernel
theorem bourselaw12_awake.parse : edit_Parse.f ⟨#[0, 0, 0, 0, 0]⟩ = some (0, 0, 0, [], [], 0) := by kernel_rfl
set_option maxHeartbeats 2000000 in
set_option maxRecDepth 100000 in
theorem bourselaw12_awake.walk (w : World) : Calls Tryd.prog 13 #[] w fun e w' => e = .returned (.bool true) ∧ Below w.heap.size w w' := by
  have H1 := Hush.mk bourselaw12_awake.bytes
  have H2 := Hush.mk bourselaw12_awake.parse
  go_enter Tryd.func13, Tryd.ntmps13
  go_wp2_with fail
  refine (edit_Edit_Bytes.calls 20 0 0 0 none 0 [] none 0 [] _ _ _ (Kd.C_nil _ _) (Nat.le_refl _) (Kd.C_nil _ _) (Nat.le_refl _) H1.out).mono ?_
  rintro e w1 ⟨rfl, hb1⟩
  go_wp2_with fail
  refine (edit_Parse.calls _ _ _ _ _ _ _ _ H2.out).mono ?_
  rintro e w2 ⟨v3, v4, rfl, hR3, hR4, hb2⟩
  obtain ⟨A3, c3, rfl⟩ := Kd.R_slice hR3
  obtain ⟨A4, c4, rfl⟩ := Kd.R_slice hR4
  clear hR3 hR4
  have hb : Below w.heap.size w w2 := hb1.trans (hb2.mono hb1.size)
  go_wp2_with fail
  refine (name_t7 _).mono ?_
  rintro e w3 ⟨rfl, rfl⟩
  go_wp2
  go_ret
  exact ⟨rfl, hb.alloc hb.size _⟩
theorem bourselaw12_awake.calls (r : Bool) (w : World) (h : bourselaw12_awake.f = some r) :
    Calls Tryd.prog 13 #[] w fun e w' => e = .returned (.bool r) ∧ Below w.heap.size w w' := by
  obtain rfl := Option.some.inj h
  exact bourselaw12_awake.walk w

end Go.Proofs.YteilnbnnhocciaaDoor.K
