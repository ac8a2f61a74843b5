/- DiskPlays: the disk and the document's disk do a script and are of one mind after each act (part 5 of 10; packed by program out of the texts named below) -/
import Derived.Test.YteilnbnnhocciaaXD3

/-! D51 -/
set_option linter.unusedVariables false
set_option linter.unusedSimpArgs false
namespace Go.Proofs.Yteilnbnnhocciaa.D
open Go.RowKit Go.Maps Go.ChangeMaps Go.MapKept Go.WideMaps Go.Sort Go.Proofs.YteilnbnnhocciaaW.PrintWords Go.Proofs.YteilnbnnhocciaaW.PrintLast Go.Proofs.YteilnbnnhocciaaW.PrintMore
attribute [local go_sem] max2_int min2_int max_two min_two max_three min_three max_four min_four
set_option maxRecDepth 100000 in
set_option maxHeartbeats 2000000 in
theorem do_2 {w : World} {base p m q : Nat} {k : Dk} (h : Pair w base p m q k) (x : ActV) (hx : ActOk w base p m x) (hj : x.do_.tmod 10 = 2 ∨ x.do_.tmod 10 = -2) : Calls Try.prog 27 #[dp p, dp q, actVal x] w (DoPost base p m q w) := by
  have hbx := World.alloc_heap_new w (.cells (actCells x) 48)
  obtain ⟨v, hv⟩ := h.ref
  have HD := Hush.mk (h.disk.alloc (.cells (actCells x) 48))
  have HR := Hush.mk (hv.alloc (.cells (actCells x) 48))
  have HG := Hush.mk h.good
  have HL := Hush.mk h.low
  have HX := Hush.mk hx
  have HBX := Hush.mk hbx
  have HSZ : Hush (base ≤ w.heap.size) := ⟨Nat.le_trans hv.ge (Nat.le_of_lt hv.lt)⟩
  have HT0 : Hush (Touch (zone base p m) w (w.alloc (.cells (actCells x) 48))) := ⟨Touch.alloc _ _⟩
  obtain ⟨do_, a, b, data, n, A, fs, cf⟩ := x
  obtain ⟨x0, x1, x2, x3, x4, x5⟩ := act_cells (w := w.alloc (.cells (actCells ⟨do_, a, b, data, n, A, fs, cf⟩) 48)) hbx
  simp only [actVal, actCells] at x0 x1 x2 x3 x4 x5 hj HD HR HBX HT0 ⊢
  clear h hv hx hbx
  rcases hj with hj | hj
  all_goals
    go_enter Try.func27, Try.ntmps27
    go_wp2_with fail
    obtain ⟨nb, hnb⟩ : ∃ nb, nb = w.heap.size := ⟨_, rfl⟩
    have HNB : Hush (base ≤ nb ∧ ¬ own2 p m nb) := ⟨by have := HSZ.out; have := HL.out; exact ⟨by omega, by rintro (e | e) <;> omega⟩⟩
    rw [← hnb] at HBX x0 x1 x2 x3 x4 x5 ⊢
    clear hnb
    generalize w.alloc (.cells #[.int .i64 do_, .string a, .string b, .string data, .int .i64 n, .slice A fs.length cf] 48) = w0 at HD HR HBX HT0 x0 x1 x2 x3 x4 x5 ⊢
    have y1 : w0.drew.cell? ⟨nb, 1, none⟩ = some (.string a) := x1
    have y2 : w0.drew.cell? ⟨nb, 2, none⟩ = some (.string b) := x2
    have y3 : w0.drew.cell? ⟨nb, 3, none⟩ = some (.string data) := x3
    go_region_with ((first | (go_at_call 14; refine (dsync_on HD.out.drew HG.out a (by have := HX.out.a; unfold maxLen; simp only at this; omega)).mono ?_; rintro e w1 ⟨rfl, hd1, ht1⟩; have z1 : w1.cell? ⟨nb, 1, none⟩ = _ := ht1.cell HNB.out.2 y1; have HD1 := Hush.mk hd1; have HT1 := Hush.mk ht1; clear hd1 ht1) | (go_at_call 37; refine (rsync_on (HR.out.drew.own2 HT1.out HL.out) HG.out a).mono ?_; rintro e w2 ⟨rfl, hr2, hb2⟩; have HR2 := Hush.mk hr2; have HB2 := Hush.mk hb2; clear hr2 hb2)))
    all_goals
      have HP : Hush ((∃ k, Pair w2 base p m q k) ∧ Touch (zone base p m) w w2) := ⟨⟨_, HD1.out.base HB2.out HL.out, HR2.out, sync_good HG.out a, HL.out⟩, ((HT0.out.trans (Touch.drew _)).trans (zone_own HT1.out)).trans (zone_base HB2.out)⟩
      clear x0 x1 x2 x3 x4 x5 y1 y2 y3 hj
      go_wp2
      go_ret
      exact ⟨rfl, HP.out⟩
end Go.Proofs.Yteilnbnnhocciaa.D
