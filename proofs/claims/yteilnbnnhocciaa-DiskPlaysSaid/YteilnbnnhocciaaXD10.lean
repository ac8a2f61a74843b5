/- DiskPlays: the disk and the document's disk do a script and are of one mind after each act (part 10 of 10; packed by program out of the texts named below) -/
import Derived.Test.YteilnbnnhocciaaXD3
import Derived.Test.YteilnbnnhocciaaXD4
import Derived.Test.YteilnbnnhocciaaXD5
import Derived.Test.YteilnbnnhocciaaXD6
import Derived.Test.YteilnbnnhocciaaXD7
import Derived.Test.YteilnbnnhocciaaXD8
import Derived.Test.YteilnbnnhocciaaXD9
import Derived.Deep.QuietTactic
import Derived.BigQuiet
import Derived.ChangeArms
import Derived.DataReads
import Derived.Deep.Slices
import Derived.WideShapes
import Derived.Test.YteilnbnnhocciaaRows
import Derived.Lib.SmallJoins
import Derived.WalkKit
import Derived.ProofKit
import Derived.OpenShut
import Derived.ShutString
import Derived.ChangeOld
import Derived.Below
import Derived.SizedLaws

/-! D57 -/
set_option linter.unusedVariables false
set_option linter.unusedSimpArgs false
namespace Go.Proofs.Yteilnbnnhocciaa.D
open Go.RowKit Go.Maps Go.ChangeMaps Go.MapKept Go.WideMaps Go.Sort Go.Proofs.YteilnbnnhocciaaW.PrintWords Go.Proofs.YteilnbnnhocciaaW.PrintLast Go.Proofs.YteilnbnnhocciaaW.PrintMore
theorem drewN_two (w : World) (n m : Nat) : (w.drewN n).drewN m = w.drewN (n + m) := by simp [World.drewN, Nat.add_assoc]
def SomeDraws (r : Value) (w : World) (e : Ending) (w' : World) : Prop := e = .returned r ∧ ∃ n, w' = w.drewN n
set_option maxRecDepth 100000 in
theorem equal_on {w : World} {b1 b2 : Nat} {v1 v2 : Value} {L : List Bs} (h1 : w.ownsRow b1 9 1 v1 L.length (strs L)) (h2 : w.ownsRow b2 9 1 v2 L.length (strs L)) (hl : L.length ≤ 1000000) : Calls Try.prog 43 #[v1, v2] w (SomeDraws (.bool true) w) := by
  have H1 := Hush.mk h1
  have H2 := Hush.mk h2
  obtain ⟨A1, c1, rfl⟩ := own_slice h1
  obtain ⟨A2, c2, rfl⟩ := own_slice h2
  clear h1 h2
  go_enter Try.func43, Try.ntmps43
  go_wp2
  go_loopw [13] (fun iv wr => ∃ i : Nat, i ≤ L.length ∧ iv = .int .i64 (i : Nat) ∧ Hush (∃ n, wr = w.drewN n)) (fun iv _ => L.length - (intOf iv).toNat)
  case atStart => exact ⟨0, Nat.zero_le _, rfl, ⟨0, rfl⟩⟩
  case round =>
    obtain ⟨i, hi, rfl, HR⟩ := hrel
    by_cases hlt : i < L.length
    · obtain ⟨n, rfl⟩ := HR.out
      obtain ⟨x, hx⟩ : ∃ x, L[i]? = some x := ⟨_, List.getElem?_eq_getElem hlt⟩
      have hs : (strs L)[i]? = some (.string ⟨x.toArray⟩) := by unfold strs; rw [List.getElem?_map, hx]; rfl
      obtain ⟨g1, d1, e1, _, _⟩ := H1.out.form (by omega)
      obtain ⟨g2, d2, e2, _, _⟩ := H2.out.form (by omega)
      cases e1
      cases e2
      have q1 : (w.drewN n).cell? ⟨g1, i, none⟩ = some (.string ⟨x.toArray⟩) := (H1.out.cellAt i (by omega)).trans hs
      have q2 : (w.drewN n).cell? ⟨g2, i, none⟩ = some (.string ⟨x.toArray⟩) := (H2.out.cellAt i (by omega)).trans hs
      generalize (⟨x.toArray⟩ : ByteArray) = s at q1 q2
      have hi0 : (0 : Int) ≤ (i : Int) := by omega
      have hi2 : (i : Int) < (L.length : Int) := by omega
      obtain ⟨w1, hw1⟩ : ∃ w1, w1 = w.drewN n := ⟨_, rfl⟩
      have HW := Hush.mk hw1
      rw [← hw1] at q1 q2 ⊢
      clear hx hs hw1
      go_wp2
      go_quiet (fail)
      go_wp2
      go_roundw
      case rel => exact ⟨i + 1, by omega, by go_num, ⟨_, by rw [HW.out]; exact drewN_two _ _ _⟩⟩
      case measure => simp [intOf]; omega
    · go_wp2
      go_ret
      exact ⟨rfl, HR.out⟩
set_option maxRecDepth 100000 in
set_option maxHeartbeats 4000000 in
theorem same_on {w : World} {base p m q : Nat} {k : Dk} (h : Pair w base p m q k) : Calls Try.prog 28 #[dp p, dp q] w fun e w' => e = .returned (.bool true) ∧ Below w.heap.size w w' := by
  obtain ⟨v, hv⟩ := h.ref
  have HD := Hush.mk h.disk
  have HR := Hush.mk hv
  have HG := Hush.mk h.good
  clear h hv
  go_enter Try.func28, Try.ntmps28
  go_wp2_with fail
  refine (list_on HD.out (by have := HG.out.few; omega)).mono ?_
  rintro e w1 ⟨vl, rfl, ho, hnil, hb1⟩
  have HO1 : Hush (w1.ownsRow w.heap.size 9 1 vl (listed k.files).length (strs (listed k.files))) := ⟨by rw [listed_length]; exact ho⟩
  have HD1 := Hush.mk (HD.out.below hb1)
  have HR1 := Hush.mk (HR.out.below hb1)
  have HB1 := Hush.mk hb1
  obtain ⟨Al, cl, rfl⟩ := own_slice HO1.out
  clear ho hnil hb1
  have hs1 : w1.drew.cell? ⟨q, 2, none⟩ = some (.int .i64 k.steps) ∧ w1.drew.cell? ⟨q, 5, none⟩ = some (.bool k.down) := ⟨HR1.out.drew.c2, HR1.out.drew.c5⟩
  have HS1 := Hush.mk hs1
  clear hs1
  go_wp2_with fail
  go_region_held3 (fun w' => w'.cell? ⟨q, 2, none⟩ = some (.int .i64 k.steps) ∧ w'.cell? ⟨q, 5, none⟩ = some (.bool k.down))
    (first | exact HS1.out | exact HS2.out | exact HS3.out | exact HS4.out | exact HS5.out)
    ((first
      | (go_at_call 44; refine (rlist_on HR1.out.drew (by have := HG.out.few; omega)).mono ?_; rintro e w2 ⟨v2, rfl, ho2, hb2⟩; have HR2 := Hush.mk (HR1.out.drew.below hb2); have HD2 := Hush.mk (HD1.out.drew.below hb2); have HB2 : Hush (Below w.heap.size w w2) := ⟨HB1.out.trans ((Below.drew (Below.refl _ _)).trans (hb2.mono HB1.out.size))⟩; have HO2 : Hush (w2.ownsRow w1.heap.size 9 1 v2 (listed k.files).length (strs (listed k.files))) := ⟨(by rw [listed_length]; exact ho2)⟩; have HOA := Hush.mk (row_below (HO1.out.drew) hb2); have HS2 := Hush.mk (And.intro HR2.out.c2 HR2.out.c5); clear ho2 hb2)
      | (go_at_call 43; refine (equal_on HOA.out HO2.out (by rw [listed_length]; have := HG.out.few; omega)).mono ?_; rintro e w3 ⟨rfl, n3, rfl⟩; have HS3 := Hush.mk (And.intro (HR2.out.drewN n3).c2 (HR2.out.drewN n3).c5))
      | (go_at_call 22; refine (used_on (HD2.out.drewN n3) HG.out).mono ?_; rintro e w4 ⟨rfl, hb4⟩; have HR4 := Hush.mk ((HR2.out.drewN n3).below hb4); have HD4 := Hush.mk ((HD2.out.drewN n3).below hb4); have HB4 : Hush (Below w.heap.size w w4) := ⟨(pw_below_drewN HB2.out n3).trans (hb4.mono HB2.out.size)⟩; have HO4 := Hush.mk (row_below (show (World.drewN _ n3).ownsRow _ 9 1 _ _ _ from HOA.out) hb4); have HS4 := Hush.mk (And.intro HR4.out.c2 HR4.out.c5); clear hb4)
      | (go_at_call 45; refine (rused_on HR4.out HG.out).mono ?_; rintro e w5 ⟨rfl, hb5⟩; have HR5 := Hush.mk (HR4.out.below hb5); have HD5 := Hush.mk (HD4.out.below hb5); have HB5 : Hush (Below w.heap.size w w5) := ⟨HB4.out.trans (hb5.mono HB4.out.size)⟩; have HO5 := Hush.mk (row_below HO4.out hb5); have HS5 := Hush.mk (And.intro HR5.out.c2 HR5.out.c5); clear hb5)
      | (go_at_call 23; refine (steps_on HD5.out).mono ?_; rintro e w6 ⟨rfl, rfl⟩)
      | (go_at_call 24; refine (down_on HD5.out).mono ?_; rintro e w7 ⟨rfl, rfl⟩)))
  go_wp2
  go_loopw [46] (fun iv wr => ∃ i : Nat, i ≤ (listed k.files).length ∧ iv = .int .i64 (i : Nat) ∧ Hush (Below w7.heap.size w7 wr)) (fun iv _ => (listed k.files).length - (intOf iv).toNat)
  case atStart => exact ⟨0, Nat.zero_le _, rfl, ⟨Below.refl _ _⟩⟩
  case round =>
    obtain ⟨i, hi, rfl, HJ⟩ := hrel
    by_cases hlt : i < (listed k.files).length
    · obtain ⟨x, hx⟩ : ∃ x, (listed k.files)[i]? = some x := ⟨_, List.getElem?_eq_getElem hlt⟩
      have hs : (strs (listed k.files))[i]? = some (.string ⟨x.toArray⟩) := by unfold strs; rw [List.getElem?_map, hx]; rfl
      have hor := row_below HO5.out HJ.out
      obtain ⟨g1, d1, e1, _, _⟩ := hor.form (by omega)
      cases e1
      have q1 : wr.cell? ⟨g1, i, none⟩ = some (.string ⟨x.toArray⟩) := (hor.cellAt i (by omega)).trans hs
      have HNL : Hush ((⟨x.toArray⟩ : ByteArray).size ≤ maxLen) := ⟨by
        have := HG.out.lenName (List.mem_of_getElem? hx)
        unfold maxLen
        omega⟩
      generalize (⟨x.toArray⟩ : ByteArray) = nm at q1 HNL
      have hi2 : (i : Int) < ((listed k.files).length : Int) := by omega
      have hlb : (listed k.files).length ≤ 200 := by rw [listed_length]; exact HG.out.few
      clear hx hs hor
      have HDr := Hush.mk (HD5.out.below HJ.out)
      have HRr := Hush.mk (HR5.out.below HJ.out)
      go_wp2_with fail
      refine (read_any HDr.out nm HNL.out).mono ?_
      rintro e a1 ⟨rfl, hb1⟩
      have HA1 : Hush (Below w7.heap.size w7 a1) := ⟨HJ.out.trans (hb1.mono HJ.out.size)⟩
      have HDa := Hush.mk (HDr.out.below hb1)
      have HRa := Hush.mk (HRr.out.below hb1)
      clear hb1 q1
      go_wp2_with fail
      refine (rread_any HRa.out (by have := HG.out.few; omega) nm).mono ?_
      rintro e a2 ⟨rfl, hb2⟩
      have HA2 : Hush (Below w7.heap.size w7 a2) := ⟨HA1.out.trans (hb2.mono HA1.out.size)⟩
      have HDb := Hush.mk (HDa.out.below hb2)
      have HRb := Hush.mk (HRa.out.below hb2)
      clear hb2
      generalize readS' k nm = rs
      generalize thereE' k nm = re
      go_wp2_with fail
      refine (loose_on HDb.out nm HNL.out).mono ?_
      rintro e a3 ⟨rfl, hb3⟩
      have HA3 : Hush (Below w7.heap.size w7 a3) := ⟨HA2.out.trans (hb3.mono HA2.out.size)⟩
      have HRc := Hush.mk (HRb.out.below hb3)
      clear hb3
      go_wp2_with fail
      refine (rloose_on HRc.out (by have := HG.out.few; omega) nm).mono ?_
      rintro e a4 ⟨rfl, hb4⟩
      have HA4 : Hush (Below w7.heap.size w7 a4) := ⟨HA3.out.trans (hb4.mono HA3.out.size)⟩
      generalize looseN k nm = ll
      clear hb4
      go_wp2
      go_roundw
      case rel => exact ⟨i + 1, by omega, by go_num, HA4⟩
      case measure => simp [intOf]; omega
    · go_wp2
      go_ret
      exact ⟨rfl, HB5.out.trans (HJ.out.mono HB5.out.size)⟩
end Go.Proofs.Yteilnbnnhocciaa.D

/-! D58 -/
set_option linter.unusedVariables false
set_option linter.unusedSimpArgs false
namespace Go.Proofs.Yteilnbnnhocciaa.D
open Go.RowKit Go.Maps Go.ChangeMaps Go.MapKept Go.WideMaps Go.Sort Go.Proofs.YteilnbnnhocciaaW.PrintWords Go.Proofs.YteilnbnnhocciaaW.PrintLast Go.Proofs.YteilnbnnhocciaaW.PrintMore
attribute [local go_sem] max2_int min2_int max_two min_two max_three min_three max_four min_four
def lightB (x : ActV) : Bool := decide (x.a.size ≤ 100) && decide (x.b.size ≤ 100) && decide (x.data.size ≤ 3000) && decide (x.fs.length ≤ 300)
set_option maxRecDepth 100000 in
set_option maxHeartbeats 2000000 in
theorem light_on (x : ActV) (w : World) (h1 : x.a.size ≤ 9223372036854775807) (h2 : x.b.size ≤ 9223372036854775807) (h3 : x.data.size ≤ 9223372036854775807) (h4 : x.fs.length ≤ 9223372036854775807) : Calls Try.prog 26 #[actVal x] w fun e w' => e = .returned (.bool (lightB x)) ∧ Below w.heap.size w w' := by
  have HB : Hush (lightB x = (decide (x.a.size ≤ 100) && decide (x.b.size ≤ 100) && decide (x.data.size ≤ 3000) && decide (x.fs.length ≤ 300))) := ⟨rfl⟩
  generalize lightB x = r at HB ⊢
  have HW := Hush.mk ((Below.refl _ w).alloc (Nat.le_refl _) (.cells (actCells x) 48))
  obtain ⟨do_, a, b, data, n, A, fs, cf⟩ := x
  simp only [actVal, actCells] at *
  by_cases k1 : a.size ≤ 100
  · have k1' : (a.size : Int) ≤ 100 := by omega
    by_cases k2 : b.size ≤ 100
    · have k2' : (b.size : Int) ≤ 100 := by omega
      by_cases k3 : data.size ≤ 3000
      · have k3' : (data.size : Int) ≤ 3000 := by omega
        by_cases k4 : fs.length ≤ 300
        · have k4' : (fs.length : Int) ≤ 300 := by omega
          have HR : Hush (r = true) := ⟨by rw [HB.out]; simp [k1, k2, k3, k4]⟩
          rw [HR.out]
          clear k1 k2 k3 k4 HB
          go_enter Try.func26, Try.ntmps26
          go_wp2
          all_goals first | (exfalso; omega) | (go_ret; first | exact ⟨rfl, HW.out⟩ | exact ⟨(by simp <;> omega), HW.out⟩)
        · have k4' : (300 : Int) < (fs.length : Int) := by omega
          have HR : Hush (r = false) := ⟨by rw [HB.out]; simp [k4]⟩
          rw [HR.out]
          clear k1 k2 k3 k4 HB
          go_enter Try.func26, Try.ntmps26
          go_wp2
          all_goals first | (exfalso; omega) | (go_ret; first | exact ⟨rfl, HW.out⟩ | exact ⟨(by simp <;> omega), HW.out⟩)
      · have k3' : (3000 : Int) < (data.size : Int) := by omega
        have HR : Hush (r = false) := ⟨by rw [HB.out]; simp [k3]⟩
        rw [HR.out]
        clear k1 k2 k3 HB
        go_enter Try.func26, Try.ntmps26
        go_wp2
        all_goals first | (exfalso; omega) | (go_ret; first | exact ⟨rfl, HW.out⟩ | exact ⟨(by simp <;> omega), HW.out⟩)
    · have k2' : (100 : Int) < (b.size : Int) := by omega
      have HR : Hush (r = false) := ⟨by rw [HB.out]; simp [k2]⟩
      rw [HR.out]
      clear k1 k2 HB
      go_enter Try.func26, Try.ntmps26
      go_wp2
      all_goals first | (exfalso; omega) | (go_ret; first | exact ⟨rfl, HW.out⟩ | exact ⟨(by simp <;> omega), HW.out⟩)
  · have k1' : (100 : Int) < (a.size : Int) := by omega
    have HR : Hush (r = false) := ⟨by rw [HB.out]; simp [k1]⟩
    rw [HR.out]
    clear k1 HB
    by_cases k2 : (a.size : Int) ≤ (b.size : Int)
    · go_enter Try.func26, Try.ntmps26
      go_wp2
      all_goals first | (exfalso; omega) | (go_ret; first | exact ⟨rfl, HW.out⟩ | exact ⟨(by simp <;> omega), HW.out⟩)
    · have k2' : (b.size : Int) < (a.size : Int) := by omega
      go_enter Try.func26, Try.ntmps26
      go_wp2
      all_goals first | (exfalso; omega) | (go_ret; first | exact ⟨rfl, HW.out⟩ | exact ⟨(by simp <;> omega), HW.out⟩)
end Go.Proofs.Yteilnbnnhocciaa.D

/-! D59 -/
set_option linter.unusedVariables false
set_option linter.unusedSimpArgs false
namespace Go.Proofs.Yteilnbnnhocciaa.D
open Go.RowKit Go.Maps Go.ChangeMaps Go.MapKept Go.WideMaps Go.Sort Go.Proofs.YteilnbnnhocciaaW.PrintWords Go.Proofs.YteilnbnnhocciaaW.PrintLast Go.Proofs.YteilnbnnhocciaaW.PrintMore
attribute [local go_sem] max2_int min2_int max_two min_two max_three min_three max_four min_four
def ScriptAt (w : World) (A : Option Addr) (acts : List ActV) : Prop :=
  0 < acts.length → ∃ sb so, A = some ⟨sb, so, none⟩ ∧ ∀ (i : Nat) x, acts[i]? = some x →
    (w.cell? ⟨sb, so + i * 6, none⟩ = some (.int .i64 x.do_) ∧ w.cell? ⟨sb, so + i * 6 + 1, none⟩ = some (.string x.a) ∧ w.cell? ⟨sb, so + i * 6 + 2, none⟩ = some (.string x.b) ∧ w.cell? ⟨sb, so + i * 6 + 3, none⟩ = some (.string x.data) ∧ w.cell? ⟨sb, so + i * 6 + 4, none⟩ = some (.int .i64 x.n) ∧ w.cell? ⟨sb, so + i * 6 + 5, none⟩ = some (.slice x.A x.fs.length x.cf)) ∧
    (0 < x.fs.length → ∃ fb fo, x.A = some ⟨fb, fo, none⟩ ∧ ∀ j, j < x.fs.length → w.cell? ⟨fb, fo + j * 3, none⟩ = some (.int .i64 (x.fs.getD j zeroFate).keep) ∧ w.cell? ⟨fb, fo + j * 3 + 1, none⟩ = some (.int .i64 (x.fs.getD j zeroFate).at_) ∧ w.cell? ⟨fb, fo + j * 3 + 2, none⟩ = some (.int .u8 ((x.fs.getD j zeroFate).turn : Nat))) ∧
    (∀ f ∈ x.fs, f.turn < 256) ∧ x.n ≤ 9223372036854775807 ∧ x.a.size ≤ 9223372036854775807 ∧ x.b.size ≤ 9223372036854775807 ∧ x.data.size ≤ 9223372036854775807 ∧ x.fs.length ≤ 9223372036854775807
def DoAll : Prop := ∀ (w : World) (base p m q : Nat) (k : Dk), Pair w base p m q k → ∀ (x : ActV), ActOk w base p m x → x.n ≤ 9223372036854775807 → Calls Try.prog 27 #[dp p, dp q, actVal x] w (DoPost base p m q w)
theorem plays_no (room : Int) (A : Option Addr) (len cap : Nat) (w : World) (hr : room < 0 ∨ 16777216 < room) : Calls Try.prog 6 #[.int .i64 room, .slice A len cap] w fun e w' => e = .returned (.bool true) ∧ Below w.heap.size w w' := by
  have HR := Hush.mk hr
  clear hr
  go_enter Try.func6, Try.ntmps6
  go_wp2_with fail
  refine (awake_calls _).mono ?_
  rintro e w1 ⟨rfl, hb1⟩
  have HB1 := Hush.mk hb1
  clear hb1
  go_wp2_with fail
  refine (new_no room w1 HR.out).mono ?_
  rintro e w2 ⟨rfl, rfl⟩
  go_wp2_with fail
  refine (rnew_no room _ HR.out).mono ?_
  rintro e w3 ⟨rfl, rfl⟩
  go_wp2
  go_ret
  exact ⟨rfl, HB1.out⟩
set_option maxRecDepth 100000 in
set_option maxHeartbeats 4000000 in
theorem plays_yes (D : DoAll) (room : Int) (A : Option Addr) (acts : List ActV) (cap : Nat) (w : World) (h0 : 0 ≤ room) (h1 : room ≤ 16777216) (hs : ScriptAt w A acts) (hl : acts.length ≤ 9223372036854775807) : Calls Try.prog 6 #[.int .i64 room, .slice A acts.length cap] w fun e w' => e = .returned (.bool true) ∧ Below w.heap.size w w' := by
  have HS := Hush.mk hs
  have HDA := Hush.mk D
  have H0 := Hush.mk (And.intro h0 h1)
  clear hs h0 h1 D
  go_enter Try.func6, Try.ntmps6
  go_wp2_with fail
  refine (awake_calls _).mono ?_
  rintro e w1 ⟨rfl, hb1⟩
  have HB1 := Hush.mk hb1
  clear hb1
  go_wp2_with fail
  refine (new_yes room w1 H0.out.1 H0.out.2).mono ?_
  rintro e w2 ⟨rfl, hi2, hb2⟩
  have HB2 : Hush (Below w.heap.size w w2) := ⟨HB1.out.trans (hb2.mono HB1.out.size)⟩
  have hlt := hi2.lt
  have HD2 := Hush.mk hi2
  obtain ⟨p, hp⟩ : ∃ p, p = w1.heap.size + 1 := ⟨_, rfl⟩
  obtain ⟨m, hm⟩ : ∃ m, m = w1.heap.size := ⟨_, rfl⟩
  rw [← hp, ← hm] at HD2 hlt
  rw [← hp]
  have HPM : Hush (w.heap.size ≤ p ∧ w.heap.size ≤ m ∧ p < w2.heap.size ∧ m < w2.heap.size) := ⟨by have := HB1.out.size; omega⟩
  clear hi2 hb2 hp hm hlt
  go_wp2_with fail
  refine (rnew_yes room w2 H0.out.1 H0.out.2).mono ?_
  rintro e w3 ⟨rfl, hi3, hb3⟩
  obtain ⟨base, hbase⟩ : ∃ base, base = w2.heap.size := ⟨_, rfl⟩
  rw [← hbase] at hi3 HPM ⊢
  have HP3 : Hush (∃ k, Pair w3 base p m base k) := ⟨⟨_, HD2.out.below hb3, ⟨_, hi3⟩, new_good room H0.out, ⟨HPM.out.2.2.1, HPM.out.2.2.2⟩⟩⟩
  have HB3 : Hush (Below w.heap.size w w3) := ⟨HB2.out.trans (hb3.mono HB2.out.size)⟩
  have HBB : Hush (w.heap.size ≤ base) := ⟨by have := HB2.out.size; omega⟩
  clear hi3 hb3 hbase HD2
  by_cases hlen : 40 < acts.length
  · have hlen2 : (40 : Int) < (acts.length : Int) := by omega
    clear hlen
    go_wp2
    go_ret
    exact ⟨rfl, HB3.out⟩
  · have hlen2 : (acts.length : Int) ≤ 40 := by omega
    clear hlen
    go_wp2
    go_loopw [48] (fun iv wr => ∃ i : Nat, i ≤ acts.length ∧ iv = .int .i64 (i : Nat) ∧ Hush ((∃ k, Pair wr base p m base k) ∧ Below w.heap.size w wr)) (fun iv _ => acts.length - (intOf iv).toNat)
    case atStart => exact ⟨0, Nat.zero_le _, rfl, ⟨HP3.out, HB3.out⟩⟩
    case round =>
      obtain ⟨i, hi, rfl, HJ⟩ := hrel
      by_cases hlt : i < acts.length
      · obtain ⟨sb, so, rfl, hat⟩ := HS.out (by omega)
        obtain ⟨x, hx⟩ : ∃ x, acts[i]? = some x := ⟨_, List.getElem?_eq_getElem hlt⟩
        obtain ⟨⟨c0, c1, c2, c3, c4, c5⟩, hf, ht, hn, s1, s2, s3, s4⟩ := hat i x hx
        have hbw := HJ.out.2
        have up : ∀ a v, w.cell? a = some v → wr.cell? a = some v := fun a v h => (hbw.cell (World.block_lt_of_cell? w a h)).trans h
        have d0 := up _ _ c0
        have d1 := up _ _ c1
        have d2 := up _ _ c2
        have d3 := up _ _ c3
        have d4 := up _ _ c4
        have d5 := up _ _ c5
        have HFL : Hush (∀ W, Below w.heap.size w W → FatesLow W base p m x.A x.fs) := ⟨fun W hW h0 => by
          obtain ⟨fb, fo, e, hc⟩ := hf h0
          have hbl := World.block_lt_of_cell? w _ (hc 0 h0).1
          simp only at hbl
          have upW : ∀ a v, w.cell? a = some v → W.cell? a = some v := fun a v h => (hW.cell (World.block_lt_of_cell? w a h)).trans h
          have h8 := HPM.out
          have h9 := HBB.out
          exact ⟨fb, fo, e, by omega, by omega, by omega, fun j hj => ⟨upW _ _ (hc j hj).1, upW _ _ (hc j hj).2.1, upW _ _ (hc j hj).2.2⟩⟩⟩
        have HT := Hush.mk (And.intro ht hn)
        have HSS := Hush.mk (And.intro s1 (And.intro s2 (And.intro s3 s4)))
        have hi2 : (i : Int) < (acts.length : Int) := by omega
        have HPR := Hush.mk HJ.out.1
        clear c0 c1 c2 c3 c4 c5 hat hf ht hn s1 s2 s3 s4 up hx hbw
        have HBA : Hush (Below w.heap.size w (wr.alloc (.cells (actCells x) 48))) := ⟨HJ.out.2.alloc HJ.out.2.size _⟩
        have HPA : Hush (∃ k, Pair (wr.alloc (.cells (actCells x) 48)) base p m base k) := ⟨by
          obtain ⟨k, hk⟩ := HPR.out
          obtain ⟨v, hv⟩ := hk.ref
          exact ⟨k, hk.disk.alloc _, ⟨v, hv.alloc _⟩, hk.good, hk.low⟩⟩
        have HXA := Hush.mk (World.alloc_heap_new wr (.cells (actCells x) 48))
        have HLC := Hush.mk (fun W => light_on x W HSS.out.1 HSS.out.2.1 HSS.out.2.2.1 HSS.out.2.2.2)
        have HLB : Hush (lightB x = true → x.a.size ≤ 100 ∧ x.b.size ≤ 100 ∧ x.data.size ≤ 3000 ∧ x.fs.length ≤ 300) := ⟨fun h => by
          unfold lightB at h
          simp only [Bool.and_eq_true, decide_eq_true_eq] at h
          exact ⟨h.1.1.1, h.1.1.2, h.1.2, h.2⟩⟩
        have HDO : Hush (∀ (W : World) (k : Dk), Pair W base p m base k → ActOk W base p m x → Calls Try.prog 27 #[dp p, dp base, actVal x] W (DoPost base p m base W)) := ⟨fun W k hk ho => HDA.out W base p m base k hk x ho HT.out.2⟩
        obtain ⟨r, hr⟩ : ∃ r, r = lightB x := ⟨_, rfl⟩
        rw [← hr] at HLC HLB
        have HTU : Hush (∀ f ∈ x.fs, f.turn < 256) := ⟨HT.out.1⟩
        have HOK : Hush (r = true → ∀ W, Below w.heap.size w W → ActOk W base p m x) := ⟨fun h W hW => by
          have h8 := HLB.out h
          exact ⟨by omega, by omega, by omega, HFL.out W hW, by omega, HTU.out⟩⟩
        clear hr HLB HFL HT HSS HTU
        obtain ⟨do_, a, b, data, n, Af, fs, cf⟩ := x
        simp only [actVal, actCells] at d0 d1 d2 d3 d4 d5 HBA HPA HXA HLC HDO
        go_wp2_with fail
        refine (HLC.out _).mono ?_
        rintro e w4 ⟨rfl, hb4⟩
        have HB4 : Hush (Below w.heap.size w w4) := ⟨HBA.out.trans (hb4.mono HBA.out.size)⟩
        have HP4 : Hush (∃ k, Pair w4 base p m base k) := ⟨by
          obtain ⟨k, hk⟩ := HPA.out
          obtain ⟨v, hv⟩ := hk.ref
          exact ⟨k, hk.disk.below hb4, ⟨v, hv.below hb4⟩, hk.good, ⟨by have := hb4.size; have := hk.low; omega, by have := hb4.size; have := hk.low; omega⟩⟩⟩
        obtain ⟨q, hq⟩ : ∃ q, q = wr.heap.size := ⟨_, rfl⟩
        have hx4 := (hb4.block q (by rw [hq]; show _ < (Array.push _ _).size; rw [Array.size_push]; omega)).trans ((show _ = _ by rw [hq]; exact HXA.out : (wr.alloc (Obj.cells #[Value.int IntKind.i64 do_, Value.string a, Value.string b, Value.string data, Value.int IntKind.i64 n, Value.slice Af fs.length cf] 48)).heap[q]? = some (.cells #[Value.int IntKind.i64 do_, Value.string a, Value.string b, Value.string data, Value.int IntKind.i64 n, Value.slice Af fs.length cf] 48)))
        have hcs := act_cells (x := ⟨do_, a, b, data, n, Af, fs, cf⟩) hx4
        simp only at hcs
        rw [← hq]
        clear hx4 hb4 hq HBA HPA HXA HLC d0 d1 d2 d3 d4 d5
        cases r
        · clear HDO HOK hcs
          go_wp2
          go_ret
          exact ⟨rfl, HB4.out⟩
        · obtain ⟨d0, d1, d2, d3, d4, d5⟩ := hcs
          go_wp2_with fail
          obtain ⟨k, hk⟩ := HP4.out
          refine (HDO.out w4 k hk (HOK.out (by trivial) _ HB4.out)).mono ?_
          rintro e w5 ⟨rfl, hp5, ht5⟩
          have HB5 : Hush (Below w.heap.size w w5) := ⟨HB4.out.trans (ht5.below (by have h8 := HPM.out; have h9 := HBB.out; intro b e; rcases e with e | e | e <;> omega) HB4.out.size)⟩
          have HP5 := Hush.mk hp5
          clear hp5 ht5 hk HP4 HDO HOK HB4 d0 d1 d2 d3 d4 d5
          go_wp2_with fail
          obtain ⟨k5, hk5⟩ := HP5.out
          refine (same_on hk5).mono ?_
          rintro e w6 ⟨rfl, hb6⟩
          have HP6 : Hush (∃ k, Pair w6 base p m base k) := ⟨by
            obtain ⟨v, hv⟩ := hk5.ref
            exact ⟨k5, hk5.disk.below hb6, ⟨v, hv.below hb6⟩, hk5.good, hk5.low⟩⟩
          have HB6 : Hush (Below w.heap.size w w6) := ⟨HB5.out.trans (hb6.mono HB5.out.size)⟩
          clear hb6 hk5 HP5 HB5
          go_wp2
          go_roundw
          case rel => exact ⟨i + 1, by omega, by go_num, ⟨HP6.out, HB6.out⟩⟩
          case measure => simp [intOf]; omega
      · go_wp2
        go_ret
        exact ⟨rfl, HJ.out.2⟩
end Go.Proofs.Yteilnbnnhocciaa.D

/-! D60 -/
set_option linter.unusedVariables false
set_option linter.unusedSimpArgs false
namespace Go.Proofs.Yteilnbnnhocciaa.D
open Go.RowKit Go.Maps Go.ChangeMaps Go.MapKept Go.WideMaps Go.Sort Go.Proofs.YteilnbnnhocciaaW.PrintWords Go.Proofs.YteilnbnnhocciaaW.PrintLast Go.Proofs.YteilnbnnhocciaaW.PrintMore
attribute [local go_sem] max2_int min2_int max_two min_two max_three min_three max_four min_four
theorem tmod_cases (z : Int) : ∃ j : Nat, j < 10 ∧ (z.tmod 10 = (j : Int) ∨ z.tmod 10 = -(j : Int)) := by
  rcases Int.le_total 0 z with h | h
  · refine ⟨(z % 10).toNat, by omega, .inl ?_⟩
    rw [Int.tmod_eq_emod_of_nonneg h]
    omega
  · refine ⟨((-z) % 10).toNat, by omega, .inr ?_⟩
    have e : z.tmod 10 = -((-z).tmod 10) := by rw [Int.neg_tmod]; omega
    rw [e, Int.tmod_eq_emod_of_nonneg (by omega)]
    omega
theorem do_all : DoAll := by
  intro w base p m q k h x hx hn
  obtain ⟨j, hj, hc⟩ := tmod_cases x.do_
  match j, hj with
  | 0, _ => exact do_0p h x hx (by rcases hc with e | e <;> simpa using e)
  | 1, _ => exact do_1 h x hx (by simpa using hc)
  | 2, _ => exact do_2 h x hx (by simpa using hc)
  | 3, _ => rcases hc with e | e
            · exact do_3p h x hx (by simpa using e)
            · exact do_3n h x hx (by simpa using e)
  | 4, _ => exact do_4 h x hx (by simpa using hc)
  | 5, _ => exact do_5 h x hx (by simpa using hc)
  | 6, _ => exact do_6 h x hx hn (by simpa using hc)
  | 7, _ => exact do_7 h x hx hn (by simpa using hc)
  | 8, _ => exact do_8 h x hx (by simpa using hc)
  | 9, _ => exact do_9 h x hx (by simpa using hc)
  | j + 10, hj => exact absurd hj (by omega)
theorem plays_calls (room : Int) (A : Option Addr) (acts : List ActV) (cap : Nat) (w : World) (hs : ScriptAt w A acts) (hl : acts.length ≤ 9223372036854775807) : Calls Try.prog 6 #[.int .i64 room, .slice A acts.length cap] w fun e w' => e = .returned (.bool true) ∧ Below w.heap.size w w' := by
  by_cases h : room < 0 ∨ 16777216 < room
  · exact plays_no room A _ cap w h
  · exact plays_yes do_all room A acts cap w (by omega) (by omega) hs hl
end Go.Proofs.Yteilnbnnhocciaa.D

/-! DM3 -/
set_option linter.unusedVariables false
namespace Go.Proofs.YteilnbnnhocciaaM
open Go.RowKit Go.Proofs.YteilnbnnhocciaaW.PrintWords
def Opens (P : Program) (t : TypeId) {α : Type} (d : Kd α) (G : α → Prop) : Prop :=
  ∀ {H : Type} (enc : TypeId × Value → H) (w : World) (base : Nat) (spare : Nat → Bool) (held : Bool) (n : Nat) (cs : List Value) (x : DataW H × List MemPlace), DataW.trod enc P w base spare held n t cs = some x → ∃ a, d.K w a cs ∧ G a
variable {P : Program}
theorem opens_int {t : TypeId} {k : IntKind} (ht : P.underlying t = some (.int k)) : Opens P t (Kd.int k) (fun n => (Lit.int k n).wf = true) := by
  intro H enc w base spare held n cs x h
  obtain ⟨m, rfl, _, hw⟩ := DataW.trod_int ht h
  exact ⟨m, rfl, hw⟩
theorem opens_string {t : TypeId} (ht : P.underlying t = some .string) : Opens P t Kd.string (fun s => s.size ≤ maxLen) := by
  intro H enc w base spare held n cs x h
  obtain ⟨s, rfl, _, hs⟩ := DataW.trod_string ht h
  exact ⟨s, rfl, hs⟩
theorem Opens.good {t : TypeId} {α : Type} {d : Kd α} {G G' : α → Prop} (h : Opens P t d G) (hg : ∀ a, G a → G' a) : Opens P t d G' := by
  intro H enc w base spare held n cs x hx
  obtain ⟨a, hK, hG⟩ := h enc w base spare held n cs x hx
  exact ⟨a, hK, hg a hG⟩
def OpensF (P : Program) (fs : List Field) (off : Nat) {α : Type} (d : Kd α) (G : α → Prop) : Prop :=
  ∀ {H : Type} (enc : TypeId × Value → H) (w : World) (base : Nat) (spare : Nat → Bool) (held : Bool) (n : Nat) (cs : List Value), cs.length = off + d.sz →
    (∀ f ∈ fs, ∃ y, DataW.trod enc P w base spare held n f.type ((cs.drop f.offset).take (P.cellsOf f.type)) = some y) → ∃ a, d.K w a (cs.drop off) ∧ G a
theorem opensF_one {f : Field} {off : Nat} {α : Type} {d : Kd α} {G : α → Prop} (h : Opens P f.type d G) (ho : f.offset = off) (hs : P.cellsOf f.type = d.sz) : OpensF P [f] off d G := by
  intro H enc w base spare held n cs hl hf
  obtain ⟨y, hy⟩ := hf f (by simp)
  rw [ho, List.take_of_length_le (by rw [List.length_drop]; omega)] at hy
  exact h enc w base spare held n _ _ hy
theorem opensF_cons {f : Field} {fs : List Field} {off : Nat} {α β : Type} {d : Kd α} {G : α → Prop} {d' : Kd β} {G' : β → Prop} (h : Opens P f.type d G) (ho : f.offset = off) (hs : P.cellsOf f.type = d.sz)
    (hr : OpensF P fs (off + d.sz) d' G') : OpensF P (f :: fs) off (Kd.pair d d') (fun x => G x.1 ∧ G' x.2) := by
  intro H enc w base spare held n cs hl hf
  obtain ⟨y, hy⟩ := hf f (by simp)
  rw [ho, hs] at hy
  obtain ⟨a, hK, hG⟩ := h enc w base spare held n _ _ hy
  obtain ⟨b, hK', hG'⟩ := hr enc w base spare held n cs (by rw [hl]; show off + (d.sz + d'.sz) = _; omega) (fun g hg => hf g (by simp [hg]))
  refine ⟨(a, b), ⟨_, _, ?_, hK, hK'⟩, hG, hG'⟩
  rw [← List.drop_drop, List.take_append_drop]
theorem opens_struct {t : TypeId} {fs : List Field} {α : Type} {d : Kd α} {G : α → Prop} (ht : P.underlying t = some (.struct fs.toArray)) (hs : P.cellsOf t = d.sz) (h : OpensF P fs 0 d G) : Opens P t d G := by
  intro H enc w base spare held n cs x hx
  obtain ⟨xs, m, _, _, hl, hlen, hf⟩ := DataW.trod_struct ht hx
  obtain ⟨a, hK, hG⟩ := h enc w base spare held m cs (by rw [hl, hs]; omega) (fun f hm => by
    obtain ⟨i, hi, hfi⟩ := List.getElem_of_mem hm
    have h1 := hf i f (by simp [hi, hfi])
    rw [h1]
    have hlt : i < xs.length := by rw [hlen]; simpa using hi
    exact ⟨xs[i], List.getElem?_eq_getElem hlt⟩)
  exact ⟨a, by simpa using hK, hG⟩
theorem add_of_add' (a : Addr) (i j : Nat) : (a.add i).add j = a.add (i + j) := by
  unfold Addr.add
  by_cases hi : i = 0 <;> by_cases hj : j = 0 <;> simp [hi, hj, Nat.add_assoc]
theorem list_of {α : Type} {n : Nat} {p : Nat → α → Prop} (h : ∀ i, i < n → ∃ x, p i x) : ∃ l : List α, l.length = n ∧ ∀ i (hi : i < l.length), p i l[i] := by
  induction n with
  | zero => exact ⟨[], rfl, fun i hi => absurd hi (Nat.not_lt_zero _)⟩
  | succ n ih =>
    obtain ⟨l, hl, hp⟩ := ih (fun i hi => h i (by omega))
    obtain ⟨x, hx⟩ := h n (by omega)
    refine ⟨l ++ [x], by simp [hl], fun i hi => ?_⟩
    by_cases hi' : i < l.length
    · rw [List.getElem_append_left hi']; exact hp i hi'
    · have hn : i = n := by simp [hl] at hi; omega
      subst hn
      rw [List.getElem_append_right (by omega)]
      simpa [hl] using hx
theorem opens_slice {t e : TypeId} {α : Type} {d : Kd α} {G : α → Prop} (ht : P.underlying t = some (.slice e)) (hs : P.cellsOf e = d.sz) (h : Opens P e d G) : Opens P t (Kd.slice e d) (fun l => ∀ x ∈ l, G x) := by
  intro H enc w base spare held n cs x hx
  rcases DataW.trod_slice ht hx with ⟨rfl, _⟩ | ⟨a, len, cap, elems, rest, m, _, rfl, _, hb, hl, hm, hlen, hel, _, _⟩
  · exact ⟨[], ⟨none, 0, rfl, Nat.le_refl _, Kd.C_nil _ _⟩, fun x hx => by cases hx⟩
  · obtain ⟨l, hll, hp⟩ := list_of (n := len) (p := fun i a' => ∃ c, w.cells? base (a.add (i * P.cellsOf e)) (P.cellsOf e) = some c ∧ d.K w a' c ∧ G a') (fun i hi => by
      have h1 := hel i hi
      rw [List.getElem?_eq_getElem (by omega)] at h1
      obtain ⟨c, hc, hy⟩ := Option.bind_eq_some_iff.mp h1
      obtain ⟨a', hK, hG⟩ := h enc w base spare held m c _ hy
      exact ⟨a', c, hc, hK, hG⟩)
    refine ⟨l, ⟨some a, cap, by rw [hll], by omega, rfl, by unfold maxLen at hm; omega, fun _ => ⟨a, rfl, fun j p hj => ?_⟩⟩, fun x hx => ?_⟩
    · have hjl : j < l.length := (List.getElem?_eq_some_iff.1 hj).1
      obtain ⟨c, hc, hK, _⟩ := hp j hjl
      obtain rfl : l[j] = p := by rw [List.getElem?_eq_getElem hjl] at hj; exact Option.some.inj hj
      obtain ⟨_, hcl, hcell⟩ := World.cells?_some hc
      refine ⟨c, by rw [hcl, hs], hK, fun i u hu => ?_⟩
      have hi : i < P.cellsOf e := by rw [← hcl]; exact (List.getElem?_eq_some_iff.1 hu).1
      rw [← hs, ← add_of_add', hcell i hi, hu]
    · obtain ⟨i, hi, rfl⟩ := List.getElem_of_mem hx
      obtain ⟨c, _, _, hG⟩ := hp i hi
      exact hG
end Go.Proofs.YteilnbnnhocciaaM

/-! D61 -/
set_option linter.constructorNameAsVariable false
set_option linter.unusedVariables false
set_option linter.unusedSimpArgs false
namespace Go.Proofs.Yteilnbnnhocciaa.D
open Go.RowKit Go.ChangeShapes Go.WideShapes Go.ChangeAt Go.Proofs.YteilnbnnhocciaaM Go.Proofs.YteilnbnnhocciaaW.PrintWords
theorem cell_spot {w : World} {a : Addr} {v : Value} (h : w.cell? a = some v) : a.spot = none := by
  unfold World.cell? at h
  split at h
  · split at h
    · cases h
    · rename_i h2; simpa using h2
  · cases h
theorem add_none (b o n : Nat) : Addr.add ⟨b, o, none⟩ n = ⟨b, o + n, none⟩ := by
  unfold Addr.add
  by_cases h : n = 0 <;> simp [h]
theorem add_zero' (a : Addr) : a.add 0 = a := by simp [Addr.add]
def k34 : Kd (Int × Int × Int) := Kd.pair (Kd.int .i64) (Kd.pair (Kd.int .i64) (Kd.int .u8))
def g34 (x : Int × Int × Int) : Prop := 0 ≤ x.2.2 ∧ x.2.2 < 256
def k48 : Kd (Int × ByteArray × ByteArray × ByteArray × Int × List (Int × Int × Int)) := Kd.pair (Kd.int .i64) (Kd.pair Kd.string (Kd.pair Kd.string (Kd.pair Kd.string (Kd.pair (Kd.int .i64) (Kd.slice 34 k34)))))
def g48 (x : Int × ByteArray × ByteArray × ByteArray × Int × List (Int × Int × Int)) : Prop := x.2.1.size ≤ maxLen ∧ x.2.2.1.size ≤ maxLen ∧ x.2.2.2.1.size ≤ maxLen ∧ x.2.2.2.2.1 ≤ 9223372036854775807 ∧ ∀ f ∈ x.2.2.2.2.2, g34 f
section
attribute [local irreducible] Opens OpensF
set_option maxRecDepth 10000
theorem opens34 : Opens Try.prog 34 k34 g34 := by
  unfold k34
  refine (opens_struct Try.underlying34 (by kernel_rfl) (opensF_cons (opens_int Try.underlying3) rfl (by kernel_rfl) (opensF_cons (opens_int Try.underlying3) rfl (by kernel_rfl) (opensF_one (opens_int Try.underlying5) rfl (by kernel_rfl))))).good ?_
  rintro ⟨a, b, c⟩ ⟨_, _, h⟩
  simp [Lit.wf, IntKind.min, IntKind.max, IntKind.signed, IntKind.bits] at h
  exact ⟨by simp only; omega, by simp only; omega⟩
theorem opens48 : Opens Try.prog 48 k48 g48 := by
  unfold k48
  refine (opens_struct Try.underlying48 (by kernel_rfl) (opensF_cons (opens_int Try.underlying3) rfl (by kernel_rfl) (opensF_cons (opens_string Try.underlying9) rfl (by kernel_rfl) (opensF_cons (opens_string Try.underlying9) rfl (by kernel_rfl) (opensF_cons (opens_string Try.underlying9) rfl (by kernel_rfl) (opensF_cons (opens_int Try.underlying3) rfl (by kernel_rfl) (opensF_one (opens_slice Try.underlying38 (by kernel_rfl) opens34) rfl (by kernel_rfl)))))))).good ?_
  rintro ⟨a, b, c, d, e, f⟩ ⟨_, h1, h2, h3, h4, h5⟩
  simp [Lit.wf, IntKind.min, IntKind.max, IntKind.signed, IntKind.bits] at h4
  exact ⟨h1, h2, h3, by simp only; omega, h5⟩
theorem opens44 : Opens Try.prog 44 (Kd.slice 48 k48) (fun l => ∀ x ∈ l, g48 x) := opens_slice Try.underlying44 (by kernel_rfl) opens48
end
def toFate (x : Int × Int × Int) : FateV := ⟨x.1, x.2.1, x.2.2.toNat⟩
theorem fates_of {w : World} {A : Option Addr} {fl : List (Int × Int × Int)} (hC : Kd.C k34 w A fl.length fl) (hg : ∀ f ∈ fl, g34 f) :
    0 < (fl.map toFate).length → ∃ fb fo, A = some ⟨fb, fo, none⟩ ∧ ∀ j, j < (fl.map toFate).length → w.cell? ⟨fb, fo + j * 3, none⟩ = some (.int .i64 ((fl.map toFate).getD j zeroFate).keep) ∧ w.cell? ⟨fb, fo + j * 3 + 1, none⟩ = some (.int .i64 ((fl.map toFate).getD j zeroFate).at_) ∧ w.cell? ⟨fb, fo + j * 3 + 2, none⟩ = some (.int .u8 (((fl.map toFate).getD j zeroFate).turn : Nat)) := by
  intro h0
  rw [List.length_map] at h0
  obtain ⟨⟨fb, fo, sp⟩, rfl, hc⟩ := hC.2.2 h0
  have hsp : sp = none := by
    obtain ⟨c, hcl, hK, hcell⟩ := hc 0 fl[0] (List.getElem?_eq_getElem h0)
    obtain ⟨_, _, rfl, rfl, _, _, rfl, rfl, rfl⟩ := hK
    have h := hcell 0 _ rfl
    rw [Nat.zero_mul, Nat.zero_add, add_zero'] at h
    exact cell_spot h
  subst hsp
  refine ⟨fb, fo, rfl, fun j hj => ?_⟩
  rw [List.length_map] at hj
  obtain ⟨c, hcl, hK, hcell⟩ := hc j fl[j] (List.getElem?_eq_getElem hj)
  have hgj := hg fl[j] (List.getElem_mem hj)
  have he : (fl.map toFate).getD j zeroFate = toFate fl[j] := by
    rw [List.getD_eq_getElem?_getD, List.getElem?_map, List.getElem?_eq_getElem hj]
    rfl
  rw [he]
  generalize fl[j] = x at hK hgj
  obtain ⟨a, b, t⟩ := x
  obtain ⟨_, _, rfl, rfl, _, _, rfl, rfl, rfl⟩ := hK
  have e0 := hcell 0 _ rfl
  have e1 := hcell 1 _ rfl
  have e2 := hcell 2 _ rfl
  rw [add_none] at e0 e1 e2
  obtain ⟨g0, g1⟩ := hgj
  simp only at g0 g1
  refine ⟨e0, e1, e2.trans ?_⟩
  show _ = some (Value.int .u8 ((t.toNat : Nat) : Int))
  rw [Int.toNat_of_nonneg g0]
theorem script_of {w : World} {A : Option Addr} {l : List (Int × ByteArray × ByteArray × ByteArray × Int × List (Int × Int × Int))} (hC : Kd.C k48 w A l.length l) (hG : ∀ x ∈ l, g48 x) : ∃ acts : List ActV, acts.length = l.length ∧ ScriptAt w A acts := by
  by_cases h0 : l.length = 0
  · exact ⟨[], h0.symm, fun h => absurd h (Nat.lt_irrefl 0)⟩
  · obtain ⟨⟨sb, so, sp⟩, rfl, hc⟩ := hC.2.2 (by omega)
    have hsp : sp = none := by
      obtain ⟨c, hcl, hK, hcell⟩ := hc 0 l[0] (List.getElem?_eq_getElem (by omega))
      obtain ⟨_, _, rfl, rfl, _⟩ := hK
      have h := hcell 0 _ rfl
      rw [Nat.zero_mul, Nat.zero_add, add_zero'] at h
      exact cell_spot h
    subst hsp
    obtain ⟨acts, hl, hp⟩ := list_of (α := ActV) (n := l.length) (p := fun i x =>
      (w.cell? ⟨sb, so + i * 6, none⟩ = some (.int .i64 x.do_) ∧ w.cell? ⟨sb, so + i * 6 + 1, none⟩ = some (.string x.a) ∧ w.cell? ⟨sb, so + i * 6 + 2, none⟩ = some (.string x.b) ∧ w.cell? ⟨sb, so + i * 6 + 3, none⟩ = some (.string x.data) ∧ w.cell? ⟨sb, so + i * 6 + 4, none⟩ = some (.int .i64 x.n) ∧ w.cell? ⟨sb, so + i * 6 + 5, none⟩ = some (.slice x.A x.fs.length x.cf)) ∧
      (0 < x.fs.length → ∃ fb fo, x.A = some ⟨fb, fo, none⟩ ∧ ∀ j, j < x.fs.length → w.cell? ⟨fb, fo + j * 3, none⟩ = some (.int .i64 (x.fs.getD j zeroFate).keep) ∧ w.cell? ⟨fb, fo + j * 3 + 1, none⟩ = some (.int .i64 (x.fs.getD j zeroFate).at_) ∧ w.cell? ⟨fb, fo + j * 3 + 2, none⟩ = some (.int .u8 ((x.fs.getD j zeroFate).turn : Nat))) ∧
      (∀ f ∈ x.fs, f.turn < 256) ∧ x.n ≤ 9223372036854775807 ∧ x.a.size ≤ 9223372036854775807 ∧ x.b.size ≤ 9223372036854775807 ∧ x.data.size ≤ 9223372036854775807 ∧ x.fs.length ≤ 9223372036854775807) (fun i hi => by
        obtain ⟨c, hcl, hK, hcell⟩ := hc i l[i] (List.getElem?_eq_getElem hi)
        have hg := hG l[i] (List.getElem_mem hi)
        generalize l[i] = x at hK hg
        obtain ⟨d, a, b, dt, n, fl⟩ := x
        obtain ⟨_, _, rfl, rfl, _, _, rfl, rfl, _, _, rfl, rfl, _, _, rfl, rfl, _, _, rfl, rfl, Af, cf, rfl, hlf, hCf⟩ := hK
        obtain ⟨g1, g2, g3, g4, g5⟩ := hg
        have e0 := hcell 0 _ rfl
        have e1 := hcell 1 _ rfl
        have e2 := hcell 2 _ rfl
        have e3 := hcell 3 _ rfl
        have e4 := hcell 4 _ rfl
        have e5 := hcell 5 _ rfl
        rw [add_none] at e0 e1 e2 e3 e4 e5
        refine ⟨⟨d, a, b, dt, n, Af, fl.map toFate, cf⟩, ⟨e0, e1, e2, e3, e4, ?_⟩, fates_of hCf g5, ?_, g4, g1, g2, g3, ?_⟩
        · simp only [List.length_map]
          exact e5
        · intro f hf
          obtain ⟨y, hy, rfl⟩ := List.mem_map.1 hf
          have := g5 y hy
          unfold g34 at this
          show y.2.2.toNat < 256
          omega
        · simp only [List.length_map]
          exact hCf.2.1)
    refine ⟨acts, hl, fun _ => ⟨sb, so, rfl, fun i x hx => ?_⟩⟩
    have hi : i < acts.length := (List.getElem?_eq_some_iff.1 hx).1
    have := hp i hi
    rw [List.getElem?_eq_getElem hi] at hx
    obtain rfl := Option.some.inj hx
    exact this
set_option maxRecDepth 100000 in
theorem open44 {H : Type} {enc : TypeId × Value → H} {W : World} {base base' : Nat} {sp : Nat → Bool} {held : Bool} {v : Value} {d : DataW H} {p : List MemPlace}
    (hv : Value.okWide Try.prog W .any base 44 v) (h : DataW.Trod enc Try.prog W base' sp held 44 v d p) :
    ∃ (A : Option Addr) (acts : List ActV) (cap : Nat), v = .slice A acts.length cap ∧ acts.length ≤ 9223372036854775807 ∧ ScriptAt W A acts := by
  obtain ⟨m, hm⟩ := h
  obtain ⟨l, hK, hG⟩ := opens44 enc W base' sp held m _ _ hm
  obtain ⟨A, c, hcs, hl, hC⟩ := hK
  obtain ⟨acts, hlen, hS⟩ := script_of hC hG
  obtain ⟨A', len', c', rfl⟩ := okWide_slice Try.underlying44 hv
  simp [Value.cells] at hcs
  obtain ⟨rfl, rfl, rfl⟩ := hcs
  have hle : acts.length ≤ 9223372036854775807 := hlen ▸ hC.2.1
  clear hC hm hG hv
  rw [← hlen]
  exact ⟨_, acts, c', rfl, hle, hS⟩
end Go.Proofs.Yteilnbnnhocciaa.D

/-! R4 -/
set_option linter.unusedVariables false
namespace Go.Proofs.Yteilnbnnhocciaa.R4
open Go.ChangeShapes Go.WideShapes Go.ChangeAt Go.RowKit Go.Joins
open Go.ChangeMaps (open_string shut_string)
theorem laidOut : laidOutB Try.prog = true := by kernel_rfl
theorem own : ownKnob Try.prog.godebug = none := by kernel_rfl
set_option maxRecDepth 100000 in
theorem lifted (os : Os) (started : os.Started) (H : Type) (enc : TypeId × Value → H) :
    ReturnsInHanded {} Try.checked os 6 .any (Rows.diskPlaysSpec.pre6 enc Try.prog Try.f6 Rows.diskPlaysRow.domain false) (Rows.diskPlaysSpec.post enc Try.prog Try.f6 false true false false) := by
  refine returnsInHanded_of_change_sized (C := Try.checked) own started (by kernel_rfl) Try.func6
    (ChangeSpec.witness6 (enc := enc) (C := Try.checked) false ⟨#[], #[.int .i64 0, .slice none 0 0], []⟩ 8 (by kernel_rfl) (by kernel_rfl) (by kernel_rfl) (by kernel_rfl)) ?_
  intro W base args ds gs before hval0 hW hcnd hsz0 _
  have hW' := hW
  obtain ⟨p, q, hA0, hV, rfl, hfz, hnd⟩ := hW
  have hA : DataW.TrodAll enc Try.prog W 0 (fun _ => true) true Try.f6.params.toList args.toList ds p := hA0
  have hval : ∀ (j : Nat) t v, Try.f6.params[j]? = some t → args[j]? = some v → Value.okWide Try.prog W .any base t v := hval0
  rw [Try.params6] at hA hval
  obtain ⟨v0, v1, d0, d1, p0, p1, rfl, rfl, rfl, h0, h1⟩ := trodAll_two hA
  obtain ⟨rfl, rfl⟩ := trodVars_none hV
  have hk0 := h0
  have hk1 := h1
  have lt0 : ∀ x ∈ p0, x.block < W.heap.size := by obtain ⟨m, hm⟩ := hk0; exact DataW.trod_lt m _ _ _ hm
  have lt1 : ∀ x ∈ p1, x.block < W.heap.size := by obtain ⟨m, hm⟩ := hk1; exact DataW.trod_lt m _ _ _ hm
  obtain ⟨room, rfl⟩ := okWide_int Try.underlying3 (hval 0 3 v0 rfl rfl)
  obtain ⟨A, acts, cap, rfl, hl, hS⟩ := D.open44 (hval 1 44 v1 rfl rfl) h1
  refine Calls.mono (P := Try.prog) (D.plays_calls room A acts cap W hS hl) fun e W' ⟨he, bel⟩ => ?_
  subst he
  exact ⟨_, rfl, _, _, _, [], _, [], hW', trodAll_mk1 (shut_bool Try.underlying4 _), (trodAll_cons_mk (Below.trod laidOut (by kernel_rfl) (of_decide_eq_true (by kernel_rfl)) hk0 bel lt0) (trodAll_cons_mk (Below.trod laidOut (by kernel_rfl) (of_decide_eq_true (by kernel_rfl)) hk1 bel lt1) trodAll_mk0)), rfl, bel.frame _, fun h => by cases h⟩
theorem over : Rows.diskPlaysRow.holds Try.pinned (OpenSpec.ofChange Rows.diskPlaysSpec) :=
  OpenClaim.holds_of_wide 6 Try.f6 rfl rfl rfl rfl rfl rfl rfl ⟨rfl, rfl, rfl, rfl, rfl⟩ rfl rfl rfl rfl rfl (by kernel_rfl) Try.func6 (by kernel_rfl) (of_decide_eq_true (by kernel_rfl))
    (by unfold Func.isWrapper; first | (rw [if_pos (by decide +kernel)]; kernel_rfl) | (rw [if_neg (by decide +kernel)]; exact ⟨rfl, rfl⟩))
    (fun os started H enc _ => lifted os started H enc)
end Go.Proofs.Yteilnbnnhocciaa.R4
namespace Go.Proofs.Yteilnbnnhocciaa
theorem diskPlays_holds : Rows.DiskPlaysSaid := R4.over
#print axioms diskPlays_holds
end Go.Proofs.Yteilnbnnhocciaa
