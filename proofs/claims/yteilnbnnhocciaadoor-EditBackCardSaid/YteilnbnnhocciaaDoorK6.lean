-- Written by a turned copy of the printer of the kit (wip/tools/patch_print.py).
import Derived.Test.YteilnbnnhocciaaDoorK0
import Derived.Test.YteilnbnnhocciaaDoorK5
namespace Go.Proofs.YteilnbnnhocciaaDoor.K
open Go.RowKit Go.Proofs.YteilnbnnhocciaaDoorW.PrintWords Go.Proofs.YteilnbnnhocciaaDoorW.PrintLast Go.Proofs.YteilnbnnhocciaaDoorW.PrintMore Go.Proofs.YteilnbnnhocciaaDoorM
attribute [local go_sem] max2_int min2_int max_two min_two max_three min_three max_four min_four   -- for this text's walks alone
set_option linter.unusedVariables false
set_option linter.unusedSimpArgs false

/-! ### edit_Edit_Check: function 20 -/
-- EXT rounds=0 making=1 needs=67
def edit_goneB (g : S111) : Bool := !edit_levelB g.f0
def edit_firstWrong : List S107 → Int
  | [] => 0
  | a :: r => if edit_wrong.val a.f0 a.f1.f0 a.f1.f3 a.f1.f4 = 0 then edit_firstWrong r else edit_wrong.val a.f0 a.f1.f0 a.f1.f3 a.f1.f4
def edit_Edit_Check.val (come : List S107) (gone : List S111) : Int :=
  if 200 < come.length ∨ 200 < gone.length then 6 else if edit_firstWrong come ≠ 0 then edit_firstWrong come else if gone.any edit_goneB then 21 else 0
def edit_Edit_Check.f (a0_0 : Int) (a0_1 : Int) (a0_2 : Int) (l0_3 : List (S107)) (l0_4 : List (S111)) : Option (Int) := some (edit_Edit_Check.val l0_3 l0_4)
set_option maxHeartbeats 1000000 in
/-- The closure: is a level none? -/
theorem edit_check1.any (a b : Int) (w : World) : Calls Tryd.prog 69 #[.agg #[.int .i64 a, .int .u64 b]] w fun e w' => e = .returned (.bool (!edit_levelB a)) ∧ Below w.heap.size w w' := by
  have B1 := fun (o : Obj) => Hush.mk ((Below.refl w.heap.size w).alloc (Nat.le_refl _) o)
  go_enter Tryd.func69, Tryd.ntmps69
  go_wp2_with fail
  refine (edit_level.any _ _).mono ?_
  rintro e w1 ⟨rfl, rfl⟩
  go_wp2
  go_ret
  exact ⟨rfl, (B1 _).out⟩
def edit_index.Post (w : World) (l : List S111) (e : Ending) (w' : World) : Prop := ∃ r : Int, e = .returned (.int .i64 r) ∧ -1 ≤ r ∧ decide (0 ≤ r) = l.any edit_goneB ∧ Below w.heap.size w w'
def edit_index.J (w : World) (l : List S111) (i : Nat) (wr : World) : Prop := i ≤ l.length ∧ (l.take i).any edit_goneB = false ∧ Below w.heap.size w wr
set_option maxHeartbeats 2000000 in
set_option maxRecDepth 100000 in
theorem edit_index.any (A : Option Addr) (c : Nat) (l : List S111) (w : World) (hr : Kd.C k111 w A l.length l) :
    Calls Tryd.prog 114 #[.slice A l.length c, .func (.func 69) #[] #[]] w (edit_index.Post w l) := by
  have hlen := Kd.C_max hr
  have HR := Hush.mk hr
  clear hr
  go_enter Tryd.func114, Tryd.ntmps114
  go_wp2
  go_loopw [5, 8] (fun _ i wr => ∃ k' : Nat, i = .int .i64 k' ∧ edit_index.J w l k' wr) (fun _ i _ => l.length - (intOf i).toNat)
  case atStart => exact ⟨0, rfl, by omega, by simp, Below.refl _ _⟩
  case round =>
    obtain ⟨i, rfl, hi, hany, hbl⟩ := hrel
    by_cases hlt : i < l.length
    · obtain ⟨ad, rfl, hx0, hx1⟩ := at_T111 HR.out i (by omega) (by omega)
      have hn : (i : Int).toNat = i := by omega
      rw [hn] at hx0 hx1
      have hx0' := (hbl.cell (World.block_lt_of_cell? w _ hx0)).trans hx0
      have hx1' := (hbl.cell (World.block_lt_of_cell? w _ hx1)).trans hx1
      obtain ⟨g, hg⟩ : ∃ g, g = rd_T111 l i := ⟨_, rfl⟩
      rw [← hg] at hx0' hx1'
      have hgl : g = l[i] := by rw [hg]; simp [rd_T111, List.getD, hlt]
      have HG := Hush.mk hgl
      clear hx0 hx1 hn hg hgl
      have HA := Hush.mk hany
      clear hany
      have hsn : (l.take (i + 1)).any edit_goneB = edit_goneB g := by
        rw [List.take_succ_eq_append_getElem hlt, List.any_append, HA.out, ← HG.out]; simp
      by_cases hb : edit_levelB g.f0 = true
      · have hb' : (!edit_levelB g.f0) = false := by rw [hb]; rfl
        have HS : Hush ((l.take (i + 1)).any edit_goneB = false) := ⟨by rw [hsn]; exact hb'⟩
        clear hsn hb
        go_wp2_with fail
        refine (edit_check1.any _ _ _).mono ?_
        rintro e w1 ⟨rfl, hb1⟩
        go_wp2
        go_roundw
        case rel => exact ⟨i + 1, by go_num, by omega, HS.out, hbl.trans (hb1.mono hbl.size)⟩
        case measure => simp [intOf]; omega
      · have hb' : (!edit_levelB g.f0) = true := by simpa using hb
        have HS : Hush (l.any edit_goneB = true) := ⟨by
          rw [← List.take_append_drop (i + 1) l, List.any_append, hsn]
          have : edit_goneB g = true := hb'
          rw [this]; rfl⟩
        clear hsn hb
        go_wp2_with fail
        refine (edit_check1.any _ _ _).mono ?_
        rintro e w1 ⟨rfl, hb1⟩
        go_wp2
        go_ret
        exact ⟨i, rfl, by omega, by rw [HS.out]; simp, hbl.trans (hb1.mono hbl.size)⟩
    · have HA := Hush.mk hany
      clear hany
      go_wp2
      go_ret
      have := HA.out
      rw [List.take_of_length_le (by omega)] at this
      exact ⟨-1, rfl, by omega, by rw [this]; rfl, hbl⟩
def edit_contains.Post (w : World) (l : List S111) (e : Ending) (w' : World) : Prop := e = .returned (.bool (l.any edit_goneB)) ∧ Below w.heap.size w w'
set_option maxHeartbeats 1000000 in
theorem edit_contains.any (A : Option Addr) (c : Nat) (l : List S111) (w : World) (hr : Kd.C k111 w A l.length l) :
    Calls Tryd.prog 68 #[.slice A l.length c, .func (.func 69) #[] #[]] w (edit_contains.Post w l) := by
  have HR := Hush.mk hr
  clear hr
  go_enter Tryd.func68, Tryd.ntmps68
  go_wp2_with fail
  refine (edit_index.any _ _ _ _ HR.out).mono ?_
  rintro e w1 ⟨r, rfl, hr1, hr2, hb⟩
  have HR2 := Hush.mk hr2
  clear hr2
  go_wp2
  go_ret
  exact ⟨by rw [← HR2.out]; rfl, hb⟩
def edit_Edit_Check.Post (w : World) (r : Int) (e : Ending) (w' : World) : Prop := e = .returned (.int .i64 r) ∧ Below w.heap.size w w'
def edit_Edit_Check.J (w : World) (l : List S107) (i : Nat) (wr : World) : Prop := i ≤ l.length ∧ edit_firstWrong l = edit_firstWrong (l.drop i) ∧ Below w.heap.size w wr
set_option maxHeartbeats 3000000 in
set_option maxRecDepth 100000 in
theorem edit_Edit_Check.walk (a0_0 : Int) (a0_1 : Int) (a0_2 : Int) (A0_3 : Option Addr) (c0_3 : Nat) (l0_3 : List (S107)) (A0_4 : Option Addr) (c0_4 : Nat) (l0_4 : List (S111)) (w : World) (hr0_3 : Kd.C k107 w A0_3 l0_3.length l0_3) (hr0_4 : Kd.C k111 w A0_4 l0_4.length l0_4) :
    Calls Tryd.prog 20 #[.agg #[.int .u64 a0_0, .int .u64 a0_1, .int .u64 a0_2, .slice A0_3 l0_3.length c0_3, .slice A0_4 l0_4.length c0_4]] w (edit_Edit_Check.Post w (edit_Edit_Check.val l0_3 l0_4)) := by
  have hlen := Kd.C_max hr0_3
  have hlen4 := Kd.C_max hr0_4
  have B1 := fun (o : Obj) => Hush.mk ((Below.refl w.heap.size w).alloc (Nat.le_refl _) o)
  have HR3 := Hush.mk hr0_3
  have HR4 := Hush.mk hr0_4
  clear hr0_3 hr0_4
  by_cases h3 : 200 < l0_3.length
  · have hv : Hush (edit_Edit_Check.val l0_3 l0_4 = 6) := ⟨by rw [edit_Edit_Check.val, if_pos (.inl h3)]⟩
    go_enter Tryd.func20, Tryd.ntmps20
    go_wp2
    go_ret
    exact ⟨by rw [hv.out]; rfl, (B1 _).out⟩
  · by_cases h4 : 200 < l0_4.length
    · have hv : Hush (edit_Edit_Check.val l0_3 l0_4 = 6) := ⟨by rw [edit_Edit_Check.val, if_pos (.inr h4)]⟩
      go_enter Tryd.func20, Tryd.ntmps20
      go_wp2
      go_ret
      exact ⟨by rw [hv.out]; rfl, (B1 _).out⟩
    · go_enter Tryd.func20, Tryd.ntmps20
      go_wp2
      have hk : Below w.heap.size w (w.alloc (.cells #[.int .u64 a0_0, .int .u64 a0_1, .int .u64 a0_2, .slice A0_3 l0_3.length c0_3, .slice A0_4 l0_4.length c0_4] 26)) := (B1 _).out
      have hcell4 : (w.alloc (.cells #[.int .u64 a0_0, .int .u64 a0_1, .int .u64 a0_2, .slice A0_3 l0_3.length c0_3, .slice A0_4 l0_4.length c0_4] 26)).cell? ⟨w.heap.size, 4, none⟩ = some (.slice A0_4 l0_4.length c0_4) := by
        rw [World.cell?_alloc_at _ _ _ _ rfl]; rfl
      obtain ⟨W, hW⟩ : ∃ W, W = w.alloc (.cells #[.int .u64 a0_0, .int .u64 a0_1, .int .u64 a0_2, .slice A0_3 l0_3.length c0_3, .slice A0_4 l0_4.length c0_4] 26) := ⟨_, rfl⟩
      have hWs : W.heap.size = w.heap.size + 1 := by rw [hW]; simp
      rw [← hW] at hk hcell4 ⊢
      have HW := Hush.mk hW
      have HWs := Hush.mk hWs
      clear hW hWs B1
      go_loopw [4, 5, 19] (fun _ _ i wr => ∃ k' : Nat, i = .int .i64 k' ∧ edit_Edit_Check.J W l0_3 k' wr) (fun _ _ i _ => l0_3.length - (intOf i).toNat)
      case atStart => exact ⟨0, rfl, by omega, by simp, Below.refl _ _⟩
      case round =>
        obtain ⟨i, rfl, hi, hfw, hbl⟩ := hrel
        by_cases hlt : i < l0_3.length
        · obtain ⟨ad, rfl, hx0, hx1, hx2, hx3, hx4, hx5⟩ := at_T107 (Kd.C_below (Kd.C_below HR3.out (HW.out ▸ below_alloc (Below.refl _ _) _)) hbl) i (by omega) (by omega)
          have hn : (i : Int).toNat = i := by omega
          rw [hn] at hx0 hx1 hx2 hx3 hx4 hx5
          have hgl : rd_T107 l0_3 i = l0_3[i] := by simp [rd_T107, List.getD, hlt]
          rw [hgl] at hx0 hx1 hx2 hx3 hx4 hx5
          rw [List.drop_eq_getElem_cons hlt, edit_firstWrong] at hfw
          obtain ⟨a, ha⟩ : ∃ a, a = l0_3[i] := ⟨_, rfl⟩
          rw [← ha] at hx0 hx1 hx2 hx3 hx4 hx5 hfw
          clear ha hgl hn
          obtain ⟨v, hv⟩ : ∃ v, v = edit_wrong.val a.f0 a.f1.f0 a.f1.f3 a.f1.f4 := ⟨_, rfl⟩
          rw [← hv] at hfw
          have HV := Hush.mk hv
          clear hv
          by_cases hz : v = 0
          · rw [if_pos hz] at hfw
            have HF := Hush.mk hfw
            have hz' : (v == 0) = true := by simpa using hz
            have hz2 : (v != 0) = false := by simpa using hz
            clear hfw hz
            go_wp2_with fail
            refine (edit_wrong.walk _ _ _ _ _ _ _).mono ?_
            rintro e w1 ⟨he, hb1⟩
            rw [← HV.out] at he
            subst he
            go_wp2
            go_roundw
            case rel => exact ⟨i + 1, by go_num, by omega, HF.out, hbl.trans ((((Below.refl _ wr).alloc (Nat.le_refl _) _).trans (hb1.mono (by simp))).mono hbl.size)⟩
            case measure => simp [intOf]; omega
          · rw [if_neg hz] at hfw
            have hr : Hush (edit_Edit_Check.val l0_3 l0_4 = v) := ⟨by rw [edit_Edit_Check.val, if_neg (by omega), if_pos (by rw [hfw]; exact hz), hfw]⟩
            have hz' : (v == 0) = false := by simpa using hz
            have hz2 : (v != 0) = true := by simpa using hz
            clear hfw hz
            go_wp2_with fail
            refine (edit_wrong.walk _ _ _ _ _ _ _).mono ?_
            rintro e w1 ⟨he, hb1⟩
            rw [← HV.out] at he
            subst he
            go_wp2
            go_ret
            exact ⟨by rw [hr.out]; rfl, hk.trans ((hbl.trans ((((Below.refl _ wr).alloc (Nat.le_refl _) _).trans (hb1.mono (by simp))).mono hbl.size)).mono hk.size)⟩
        · have hf0 : edit_firstWrong l0_3 = 0 := by rw [hfw, List.drop_of_length_le (by omega)]; rfl
          have hv : edit_Edit_Check.val l0_3 l0_4 = if l0_4.any edit_goneB then 21 else 0 := by rw [edit_Edit_Check.val, if_neg (by omega), if_neg (by rw [hf0]; exact fun h => h rfl)]
          have hc4 := (hbl.cell (p := ⟨w.heap.size, 4, none⟩) (by rw [HWs.out]; exact Nat.lt_succ_self _)).trans hcell4
          have hb2 := hk.trans (hbl.mono hk.size)
          clear hfw hf0
          have hR4 := Hush.mk (Kd.C_below (Kd.C_below HR4.out (HW.out ▸ below_alloc (Below.refl _ _) _)) hbl)
          cases hany : l0_4.any edit_goneB
          · rw [hany] at hv
            have HV := Hush.mk hv
            have HA := Hush.mk hany
            clear hv hany
            go_wp2_with fail
            refine (edit_contains.any _ _ _ _ hR4.out).mono ?_
            rintro e w1 ⟨he, hb1⟩
            rw [HA.out] at he
            subst he
            go_wp2
            go_ret
            exact ⟨by rw [HV.out]; rfl, hb2.trans (hb1.mono hb2.size)⟩
          · rw [hany] at hv
            have HV := Hush.mk hv
            have HA := Hush.mk hany
            clear hv hany
            go_wp2_with fail
            refine (edit_contains.any _ _ _ _ hR4.out).mono ?_
            rintro e w1 ⟨he, hb1⟩
            rw [HA.out] at he
            subst he
            go_wp2
            go_ret
            exact ⟨by rw [HV.out]; rfl, hb2.trans (hb1.mono hb2.size)⟩
theorem edit_Edit_Check.calls (a0_0 : Int) (a0_1 : Int) (a0_2 : Int) (A0_3 : Option Addr) (c0_3 : Nat) (l0_3 : List (S107)) (A0_4 : Option Addr) (c0_4 : Nat) (l0_4 : List (S111)) (r : Int) (w : World) (hr0_3 : Kd.C k107 w A0_3 l0_3.length l0_3) (hc0_3 : l0_3.length ≤ c0_3) (hr0_4 : Kd.C k111 w A0_4 l0_4.length l0_4) (hc0_4 : l0_4.length ≤ c0_4) (h : edit_Edit_Check.f a0_0 a0_1 a0_2 l0_3 l0_4 = some r) :
    Calls Tryd.prog 20 #[.agg #[.int .u64 a0_0, .int .u64 a0_1, .int .u64 a0_2, .slice A0_3 l0_3.length c0_3, .slice A0_4 l0_4.length c0_4]] w fun e w' => e = .returned (.int .i64 r) ∧ Below w.heap.size w w' := by
  obtain rfl := Option.some.inj h
  exact edit_Edit_Check.walk _ _ _ _ _ _ _ _ _ _ hr0_3 hr0_4

end Go.Proofs.YteilnbnnhocciaaDoor.K
