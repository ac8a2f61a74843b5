-- Written by a turned copy of the printer of the kit (wip/tools/patch_print.py).
import Derived.Test.YteilnbnnhocciaaDoorK0
import Derived.Test.YteilnbnnhocciaaDoorK7
namespace Go.Proofs.YteilnbnnhocciaaDoor.K
open Go.RowKit Go.Proofs.YteilnbnnhocciaaDoorW.PrintWords Go.Proofs.YteilnbnnhocciaaDoorW.PrintLast Go.Proofs.YteilnbnnhocciaaDoorW.PrintMore Go.Proofs.YteilnbnnhocciaaDoorM
attribute [local go_sem] max2_int min2_int max_two min_two max_three min_three max_four min_four   -- for this text's walks alone
set_option linter.unusedVariables false
set_option linter.unusedSimpArgs false

/-! ### edit_nums: function 51 -/
-- EXT rounds=1 making=1 needs=105
def edit_nums.go : Nat → List Int → ByteArray → Option ByteArray
  | _, [], acc => some acc
  | k, x :: xs, acc => (varint_Num.f k x).bind fun t => if acc.size + t.size ≤ 140737488355328 then edit_nums.go k xs (acc ++ t) else none
def edit_nums.f (k : Nat) (l0 : List Int) : Option ByteArray := edit_nums.go k l0 ⟨#[]⟩
theorem edit_nums.mono_go : ∀ xs acc k, LeO (edit_nums.go k xs acc) (edit_nums.go (k + 1) xs acc) := by
  intro xs
  induction xs with
  | nil => intro acc k; exact LeO.refl _
  | cons x xs ih =>
    intro acc k
    exact LeO.bind (varint_Num.mono _ _) fun t => LeO.ite (ih _ _) (LeO.refl _)
theorem edit_nums.mono : ∀ a0 k, LeO (edit_nums.f k a0) (edit_nums.f (k + 1) a0) := fun a0 k => edit_nums.mono_go _ _ _
theorem edit_nums.int_at {w : World} {A : Option Addr} {k : IntKind} {xs : List Int} (h : Kd.C (Kd.int k) w A xs.length xs) (i : Nat) (hi : i < xs.length) : ∃ ad, A = some ad ∧ w.cell? (ad.add i) = some (.int k (xs.getD i 0)) := by
  obtain ⟨ad, c, e, _, hK, hc⟩ := Kd.C_get h 0 (i : Int) (by omega) (by omega)
  have hc' : c = [.int k (xs.getD i 0)] := hK
  subst hc'
  refine ⟨ad, e, ?_⟩
  have h2 := hc 0 _ rfl
  have e2 : (i : Int).toNat * (Kd.int k).sz + 0 = i := by show (i : Int).toNat * 1 + 0 = i; omega
  rwa [e2] at h2
def edit_nums.J (w : World) (xs : List Int) (k : Nat) (r : ByteArray) (i : Nat) (wr : World) : Prop :=
  ∃ acc : ByteArray, Lib.IsBuilder 140 5 w.heap.size w.heap.size (Lib.strCells acc) wr ∧ Below w.heap.size w wr ∧ edit_nums.go k (xs.drop i) acc = some r
set_option maxHeartbeats 1000000 in
set_option maxRecDepth 100000 in
theorem edit_nums.calls (k : Nat) (A0 : Option Addr) (c0 : Nat) (l0 : List Int) (r : ByteArray) (w : World) (hr0 : Kd.C (Kd.int .u64) w A0 l0.length l0) (hc0 : l0.length ≤ c0) (h : edit_nums.f k l0 = some r) :
    Calls Tryd.prog 51 #[.slice A0 l0.length c0] w fun e w' => e = .returned (.string r) ∧ Below w.heap.size w w' := by
  have hlen := Kd.C_max hr0
  have H := Hush.mk h
  have HR := Hush.mk hr0
  clear h hr0
  go_enter Tryd.func51, Tryd.ntmps51
  go_wp2
  go_loopw [5, 8] (fun _ i wr => ∃ k' : Nat, i = .int .i64 k' ∧ k' ≤ l0.length ∧ edit_nums.J w l0 k r k' wr) (fun _ i _ => l0.length - (intOf i).toNat)
  case atStart => exact ⟨0, rfl, by omega, ⟨#[]⟩, Lib.fresh_isBuilder 140 5 w, (Below.refl _ _).alloc (Nat.le_refl _) _, H.out⟩
  case round =>
    obtain ⟨i, rfl, hi, acc, hb, hbl, hgo⟩ := hrel
    by_cases hlt : i < l0.length
    · rw [List.drop_eq_getElem_cons hlt] at hgo
      obtain ⟨t, ht, hgo⟩ := Option.bind_eq_some_iff.mp hgo
      have hsz : acc.size + t.size ≤ 140737488355328 := by
        rcases Nat.lt_or_ge 140737488355328 (acc.size + t.size) with h2 | h2
        · rw [if_neg (by omega)] at hgo; cases hgo
        · exact h2
      rw [if_pos hsz] at hgo
      have HG := Hush.mk hgo
      have HB := Hush.mk hb
      have HT := Hush.mk ht
      obtain ⟨ad, rfl, hcell⟩ := edit_nums.int_at HR.out i hlt
      have hcell' := (hbl.cell (World.block_lt_of_cell? w _ hcell)).trans hcell
      clear hgo ht hb hcell
      rw [show l0.getD i 0 = l0[i] by simp [List.getD, hlt]] at hcell'
      have hx : ∃ x, x = l0[i] := ⟨_, rfl⟩
      obtain ⟨x, hx⟩ := hx
      rw [← hx] at hcell'
      have HX := Hush.mk hx
      clear hx
      go_wp2_with fail
      refine (varint_Num.calls k x t _ (by rw [HX.out]; exact HT.out)).mono ?_
      rintro e w2 ⟨rfl, hb2⟩
      have hbl2 : Below w.heap.size w w2 := hbl.trans (hb2.mono hbl.size)
      go_wp2_with fail
      refine (writeString w.heap.size w.heap.size (Lib.strCells acc) t _ (builder_below HB.out hb2) (by rw [Lib.strCells_length]; exact hsz) hbl2.size).mono ?_
      rintro e w3 ⟨rfl, hB3, hb3⟩
      have HB3 := Hush.mk hB3
      clear hB3
      go_wp2
      go_roundw
      case rel => exact ⟨i + 1, by go_num, by omega, acc ++ t, .inr (by have := HB3.out; simpa [Lib.strCells] using this), hbl2.trans hb3, HG.out⟩
      case measure => simp [intOf]; omega
    · have he : i = l0.length := by omega
      have HB := Hush.mk hb
      have HE := Hush.mk he
      have HG := Hush.mk hgo
      clear he hgo hb
      go_wp2_with fail
      refine (Tryd.Builder_String_any w.heap.size w.heap.size acc.data.toList _ HB.out hbl.size).mono ?_
      rintro e w3 ⟨rfl, hb3⟩
      go_wp2
      go_ret
      have := HG.out
      rw [HE.out, List.drop_length, edit_nums.go] at this
      obtain rfl := Option.some.inj this
      exact ⟨rfl, hbl.trans hb3⟩

end Go.Proofs.YteilnbnnhocciaaDoor.K
