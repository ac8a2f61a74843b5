-- Written by a turned copy of the printer of the kit (wip/tools/patch_print.py).
import Derived.Test.YteilnbnnhocciaaDoorK0
namespace Go.Proofs.YteilnbnnhocciaaDoor.K
open Go.RowKit Go.Proofs.YteilnbnnhocciaaDoorW.PrintWords Go.Proofs.YteilnbnnhocciaaDoorW.PrintLast Go.Proofs.YteilnbnnhocciaaDoorW.PrintMore Go.Proofs.YteilnbnnhocciaaDoorM
attribute [local go_sem] max2_int min2_int max_two min_two max_three min_three max_four min_four   -- for this text's walks alone
set_option linter.unusedVariables false
set_option linter.unusedSimpArgs false

/-! ### varint_Num: function 105 -/
-- EXT rounds=1 making=1
def varint_Num.l : Nat → Int → List Int → Option ByteArray
  | 0, _, _ => none
  | k + 1, n, xs => if 128 ≤ n then varint_Num.l k (n / 128) (xs ++ [Go.bits .or .u8 (n % 256) 128]) else some (strOfNums (xs ++ [n]))
def varint_Num.f (k : Nat) (a0 : Int) : Option ByteArray := if 0 ≤ a0 ∧ a0 ≤ 18446744073709551615 then varint_Num.l k a0 [] else none
theorem varint_Num.mono_l : ∀ k n xs, LeO (varint_Num.l k n xs) (varint_Num.l (k + 1) n xs) := by
  intro k
  induction k with
  | zero => intro n xs; exact LeO.none _
  | succ k ih =>
    intro n xs
    rw [varint_Num.l, varint_Num.l]
    exact LeO.ite (ih _ _) (LeO.refl _)
theorem varint_Num.mono : ∀ a0 k, LeO (varint_Num.f k a0) (varint_Num.f (k + 1) a0) := by
  intro a0 k
  exact LeO.ite (varint_Num.mono_l _ _ _) (LeO.refl _)
theorem varint_Num.room {m : Int} {n : Nat} (h0 : 0 ≤ m) (h : m.toNat * 128 ^ n ≤ 18446744073709551615) (h1 : 128 ≤ m) : (m / 128).toNat * 128 ^ (n + 1) ≤ 18446744073709551615 ∧ n < 10 := by
  constructor
  · have e : (m / 128).toNat * 128 ≤ m.toNat := by omega
    calc (m / 128).toNat * 128 ^ (n + 1) = ((m / 128).toNat * 128) * 128 ^ n := by rw [Nat.pow_succ, Nat.mul_comm (128 ^ n) 128, Nat.mul_assoc]
      _ ≤ m.toNat * 128 ^ n := Nat.mul_le_mul_right _ e
      _ ≤ _ := h
  · rcases Nat.lt_or_ge n 10 with hn | hn
    · exact hn
    · have h2 : 128 ^ 10 ≤ 128 ^ n := Nat.pow_le_pow_right (by decide) hn
      have h3 : 1 * 128 ^ n ≤ m.toNat * 128 ^ n := Nat.mul_le_mul_right _ (by omega)
      have h4 : (128 : Nat) ^ 10 = 1180591620717411303424 := by decide
      omega
theorem varint_Num.info5 : (Tryd.prog.info? 5).map (fun i => (i.zero, i.size, i.bytes)) = some (some (.int .u8 0), 1, 1) := by kernel_rfl
def varint_Num.Post (w : World) (r : ByteArray) (e : Ending) (w' : World) : Prop := e = .returned (.string r) ∧ Below w.heap.size w w'
def varint_Num.J (w : World) (r : ByteArray) (a' : Act) (w' : World) : Prop := Below w.heap.size w w' ∧ ∃ (k : Nat) (m : Int) (xs : List Int) (v u4 u5 u6 u7 u8 u9 u10 u11 u12 u13 : Value),
  0 ≤ m ∧ m ≤ 18446744073709551615 ∧ a' = { tmps := #[.int .u64 m, undef, .string ⟨#[]⟩, v, u4, u5, u6, u7, u8, u9, u10, u11, u12, u13, undef, undef, undef, undef, undef, undef], defers := [] } ∧ w'.ownsRow w.heap.size 5 1 v xs.length (xs.map (Value.int .u8)) ∧ xs.length ≤ 10 ∧ m.toNat * 128 ^ xs.length ≤ 18446744073709551615 ∧ varint_Num.l k m xs = some r
set_option maxHeartbeats 1000000 in
set_option maxRecDepth 100000 in
theorem varint_Num.walk (k : Nat) (n : Int) (r : ByteArray) (w : World) (h : varint_Num.l k n [] = some r) (h0 : 0 ≤ n) (h1 : n ≤ 18446744073709551615) :
    Calls Tryd.prog 105 #[.int .u64 n] w (varint_Num.Post w r) := by
  obtain ⟨i0, hi, hz0, hz1, hz2⟩ := info_parts varint_Num.info5
  have H := Hush.mk h
  clear h
  go_enter Tryd.func105, Tryd.ntmps105
  go_wp2
  refine wp_scope_first 0 (varint_Num.J w r) (fun a' _ => (intOf (a'.tmps.getD 0 undef)).toNat) rfl ?pass ?first
  case first =>
    intro hp
    go_wp2
    go_step3
    have hj : varint_Num.J w r { tmps := #[.int .u64 n, undef, .string ⟨#[]⟩, .slice none 0 0, undef, undef, undef, undef, undef, undef, undef, undef, undef, undef, undef, undef, undef, undef, undef, undef], defers := [] } w :=
      ⟨Below.refl _ _, k, n, [], .slice none 0 0, _, _, _, _, _, _, _, _, _, _, h0, h1, rfl, World.ownsRow_nil _ _ _ _, by simp, by simp; omega, H.out⟩
    exact (by assumption : ∀ a w, Code.wp _ _ _ a w → _) _ _ (hp.out _ _ hj)
  case pass =>
    rintro a' w' ⟨hb, k, m, xs, v, u4, u5, u6, u7, u8, u9, u10, u11, u12, u13, m0, m1, rfl, hown, hx, hr, hl⟩
    have HL := Hush.mk hl
    clear hl
    by_cases h128 : 128 ≤ m
    · have HR := Hush.mk (varint_Num.room m0 hr h128)
      clear hr
      go_wp2_with ((at_builtin; refine wpList_append_own _ rfl _ _ 64 rfl w.heap.size 5 i0 (.int .u8 0) 1 1 Tryd.underlying64 hi hz0 hz1 hz2 rfl (by decide) v xs.length (xs.map (Value.int .u8)) rfl (hown.alloc _) ⟨w'.heap.size, 0, none⟩ 1 1 [.int .u8 (Go.bits .or .u8 (m % 256) 128)] rfl rfl (cell_one_new _ _ _) (by simp [Value.oneCell']) (by unfold maxLen; omega) (by omega) (by have := hb.size; simp; omega) ?_; intro v' w1 hown1 hgrow _))
      go_wp2
      go_step3
      refine ⟨rfl, ⟨(hb.trans ((Below.refl _ _).alloc (Nat.le_refl _) _ |>.mono hb.size)).grown hgrow (by have := hb.size; simp; omega) (fun g hg => (hown.lt g hg).1), k - 1, m / 128, xs ++ [Go.bits .or .u8 (m % 256) 128], v', _, _, _, _, _, _, _, _, _, _, by omega, by omega, rfl, ?_, ?_, ?_, ?_⟩, ?_⟩
      · simpa using hown1
      · have := HR.out.2; simp; omega
      · have := HR.out.1; simpa using this
      · have := HL.out
        cases k with
        | zero => exact absurd this (by simp [varint_Num.l])
        | succ k => rw [varint_Num.l, if_pos h128] at this; exact this
      · simp [intOf]; omega
    · go_wp2_with ((at_builtin; refine wpList_append_own _ rfl _ _ 64 rfl w.heap.size 5 i0 (.int .u8 0) 1 1 Tryd.underlying64 hi hz0 hz1 hz2 rfl (by decide) v xs.length (xs.map (Value.int .u8)) rfl (hown.alloc _) ⟨w'.heap.size, 0, none⟩ 1 1 [.int .u8 m] rfl rfl (cell_one_new _ _ _) (by simp [Value.oneCell']) (by unfold maxLen; omega) (by omega) (by have := hb.size; simp; omega) ?_; intro v' w1 hown1 hgrow _; have hcv := run_convert_own (n := xs.length + 1) (xs := xs ++ [m]) Tryd.underlying64 Tryd.underlying5 Tryd.underlying9 (by simp) (by simpa using hown1)))
      go_ret
      refine ⟨?_, (hb.trans ((Below.refl _ _).alloc (Nat.le_refl _) _ |>.mono hb.size)).grown hgrow (by have := hb.size; simp; omega) (fun g hg => (hown.lt g hg).1)⟩
      have := HL.out
      cases k with
      | zero => exact absurd this (by simp [varint_Num.l])
      | succ k => rw [varint_Num.l, if_neg (by omega)] at this; rw [Option.some.inj this]; rfl
theorem varint_Num.calls (k : Nat) (a0 : Int) (r : ByteArray) (w : World) (h : varint_Num.f k a0 = some r) :
    Calls Tryd.prog 105 #[.int .u64 a0] w fun e w' => e = .returned (.string r) ∧ Below w.heap.size w w' := by
  unfold varint_Num.f at h
  by_cases hc : 0 ≤ a0 ∧ a0 ≤ 18446744073709551615
  · rw [if_pos hc] at h
    exact varint_Num.walk k a0 r w h hc.1 hc.2
  · rw [if_neg hc] at h
    cases h

end Go.Proofs.YteilnbnnhocciaaDoor.K
