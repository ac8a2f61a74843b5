/- FormatUint of what is below a hundred, and a file's name so. -/
import Derived.Test.YteilnbnnhocciaaDoorProg
import Derived.Test.YteilnbnnhocciaaDoorM0
import Derived.Shelf.Strconv.Itoa1
import Derived.Lib.ItoaNum
import Derived.KernelRfl
import Derived.WalkKit
set_option linter.unusedVariables false
namespace Go.Proofs
open Go.Shelf Go.Lib
def Tryd.lays283_ren : Go.Shelf.Ren := ⟨fun | 283 => 157 | n => n, fun | 3 => 3 | 9 => 9 | 4 => 4 | n => n, fun | n => n⟩
theorem Tryd.lays283 : Go.Proofs.Lays.n283 Tryd.prog Tryd.lays283_ren := {
  mixed := by kernel_rfl
  f283 := Tryd.func157.trans (congrArg some (by kernel_rfl))
  t3 := Tryd.underlying3
  a3 := Tryd.isAgg3
  z3 := Tryd.sizeOf3
  v3 := Tryd.zeroValue3
  t4 := Tryd.underlying4
  a4 := Tryd.isAgg4
  z4 := Tryd.sizeOf4
  v4 := Tryd.zeroValue4
  t9 := Tryd.underlying9
  a9 := Tryd.isAgg9
  z9 := Tryd.sizeOf9
  v9 := Tryd.zeroValue9 }
theorem Tryd.internal_strconv_small (i : Nat) (h : i < 100) (w : World) :
    Calls Tryd.prog 157 #[.int .i64 i] w fun e w' => e = .returned (.string ⟨(Lib.decDigits i).toArray⟩) ∧ w' = w := Any.internal_strconv_small Tryd.lays283 i h w
end Go.Proofs
namespace Go.Proofs.YteilnbnnhocciaaDoorM
open Go.RowKit
set_option maxHeartbeats 1000000 in
theorem fmt_small (i : Nat) (h : i < 100) (w : World) :
    Calls Tryd.prog 128 #[.int .u64 i, .int .i64 10] w fun e w' => e = .returned (.string ⟨(Lib.decDigits i).toArray⟩) ∧ w = w' := by
  go_enter Tryd.func128, Tryd.ntmps128
  go_wp2_with fail
  refine (Tryd.internal_strconv_small i h _).mono ?_
  rintro e w1 ⟨rfl, hw⟩
  subst hw
  go_wp2
  go_ret
  exact ⟨rfl, rfl⟩
set_option maxHeartbeats 1000000 in
theorem formatUint_small (i : Nat) (h : i < 100) (w : World) :
    Calls Tryd.prog 87 #[.int .u64 i, .int .i64 10] w fun e w' => e = .returned (.string ⟨(Lib.decDigits i).toArray⟩) ∧ w = w' := by
  go_enter Tryd.func87, Tryd.ntmps87
  go_wp2_with fail
  refine (fmt_small i h _).mono ?_
  rintro e w1 ⟨rfl, rfl⟩
  go_wp2
  go_ret
  exact ⟨rfl, rfl⟩
set_option maxHeartbeats 1000000 in
theorem name_t7 (w : World) :
    Calls Tryd.prog 35 #[.string ⟨#[116]⟩, .int .u64 7] w fun e w' => e = .returned (.string ⟨#[116, 45, 55]⟩) ∧ w = w' := by
  have hd : Lib.decDigits 7 = [55] := by first | (simp [Lib.decDigits]; done) | (rw [Lib.decDigits]; rfl) | decide +kernel
  have H := Hush.mk hd
  clear hd
  go_enter Tryd.func35, Tryd.ntmps35
  go_wp2_with fail
  refine (formatUint_small 7 (by decide) _).mono ?_
  rintro e w1 ⟨rfl, rfl⟩
  rw [H.out]
  go_wp2
  go_ret
  exact ⟨rfl, rfl⟩
end Go.Proofs.YteilnbnnhocciaaDoorM
