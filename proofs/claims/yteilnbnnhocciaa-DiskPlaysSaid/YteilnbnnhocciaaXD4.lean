/- DiskPlays: the disk and the document's disk do a script and are of one mind after each act (part 4 of 10; packed by program out of the texts named below) -/
import Derived.Test.YteilnbnnhocciaaXD3

/-! D56 -/
set_option linter.unusedVariables false
set_option linter.unusedSimpArgs false
namespace Go.Proofs.Yteilnbnnhocciaa.D
open Go.RowKit Go.Maps Go.ChangeMaps Go.MapKept Go.WideMaps Go.Sort Go.Proofs.YteilnbnnhocciaaW.PrintWords Go.Proofs.YteilnbnnhocciaaW.PrintLast Go.Proofs.YteilnbnnhocciaaW.PrintMore
attribute [local go_sem] max2_int min2_int max_two min_two max_three min_three max_four min_four
def readS' (k : Dk) (n : ByteArray) : ByteArray := if k.down then ⟨#[]⟩ else readS k n
def thereE' (k : Dk) (n : ByteArray) : Int := if k.down then 13 else thereE k n
theorem read_any {w : World} {p m : Nat} {k : Dk} (h : IsDisk w p m k) (n : ByteArray) (hn : n.size ≤ maxLen) : Calls Try.prog 17 #[dp p, .string n] w fun e w' => e = .returned (.tuple #[.string (readS' k n), .int .i64 (thereE' k n)]) ∧ Below w.heap.size w w' := by
  unfold readS' thereE'
  cases hd : k.down with
  | true => exact (read_off h n hd).mono fun e w' ⟨h1, h2⟩ => ⟨h1, by subst h2; exact Below.refl _ _⟩
  | false => exact read_on h n hn hd
theorem rread_any {w : World} {base q : Nat} {v : Value} {k : Dk} (h : IsRef w base q v k) (hl : k.files.length ≤ 1000) (n : ByteArray) : Calls Try.prog 40 #[dp q, .string n] w fun e w' => e = .returned (.tuple #[.string (readS' k n), .int .i64 (thereE' k n)]) ∧ Below w.heap.size w w' := by
  unfold readS' thereE'
  cases hd : k.down with
  | true => exact (rread_off h n hd).mono fun e w' ⟨h1, h2⟩ => ⟨h1, by subst h2; exact Below.refl _ _⟩
  | false => exact rread_on h hl n hd
set_option maxRecDepth 100000 in
set_option maxHeartbeats 2000000 in
theorem do_5 {w : World} {base p m q : Nat} {k : Dk} (h : Pair w base p m q k) (x : ActV) (hx : ActOk w base p m x) (hj : x.do_.tmod 10 = 5 ∨ x.do_.tmod 10 = -5) : Calls Try.prog 27 #[dp p, dp q, actVal x] w (DoPost base p m q w) := by
  have hbx := World.alloc_heap_new w (.cells (actCells x) 48)
  obtain ⟨v, hv⟩ := h.ref
  have HD := Hush.mk (h.disk.alloc (.cells (actCells x) 48))
  have HR := Hush.mk (hv.alloc (.cells (actCells x) 48))
  have HG := Hush.mk h.good
  have HL := Hush.mk h.low
  have HX := Hush.mk hx
  have HBX := Hush.mk hbx
  have HSZ : Hush (base ≤ w.heap.size) := ⟨Nat.le_trans hv.ge (Nat.le_of_lt hv.lt)⟩
  have HT0 : Hush (Touch (zone base p m) w (w.alloc (.cells (actCells x) 48))) := ⟨Touch.alloc _ _⟩
  obtain ⟨do_, a, b, data, n, A, fs, cf⟩ := x
  obtain ⟨x0, x1, x2, x3, x4, x5⟩ := act_cells (w := w.alloc (.cells (actCells ⟨do_, a, b, data, n, A, fs, cf⟩) 48)) hbx
  simp only [actVal, actCells] at x0 x1 x2 x3 x4 x5 hj HD HR HBX HT0 ⊢
  clear h hv hx hbx
  rcases hj with hj | hj
  all_goals
    go_enter Try.func27, Try.ntmps27
    go_wp2_with fail
    obtain ⟨nb, hnb⟩ : ∃ nb, nb = w.heap.size := ⟨_, rfl⟩
    have HNB : Hush (base ≤ nb ∧ ¬ own2 p m nb) := ⟨by have := HSZ.out; have := HL.out; exact ⟨by omega, by rintro (e | e) <;> omega⟩⟩
    rw [← hnb] at HBX x0 x1 x2 x3 x4 x5 ⊢
    clear hnb
    generalize w.alloc (.cells #[.int .i64 do_, .string a, .string b, .string data, .int .i64 n, .slice A fs.length cf] 48) = w0 at HD HR HBX HT0 x0 x1 x2 x3 x4 x5 ⊢
    have y1 : w0.drew.cell? ⟨nb, 1, none⟩ = some (.string a) := x1
    have y2 : w0.drew.cell? ⟨nb, 2, none⟩ = some (.string b) := x2
    have y3 : w0.drew.cell? ⟨nb, 3, none⟩ = some (.string data) := x3
    refine (read_any HD.out a (by have := HX.out.a; unfold maxLen; simp only at this; omega)).mono ?_
    rintro e w1 ⟨rfl, hb1⟩
    have z1 : w1.cell? ⟨nb, 1, none⟩ = some (.string a) := (hb1.cell (p := ⟨nb, 1, none⟩) (World.block_lt_of_cell? w0 _ x1)).trans x1
    have HR1 := Hush.mk (HR.out.below hb1)
    have HD1 := Hush.mk (HD.out.below hb1)
    have HT1 := Hush.mk (HT0.out.trans (zone_new (base := base) (p := p) (m := m) hb1))
    clear hb1 x0 x1 x2 x3 x4 x5 y1 y2 y3
    go_wp2_with fail
    refine (rread_any HR1.out (by have := HG.out.few; omega) a).mono ?_
    rintro e w2 ⟨rfl, hb2⟩
    have HP : Hush ((∃ k, Pair w2 base p m q k) ∧ Touch (zone base p m) w w2) := ⟨⟨_, HD1.out.below hb2, ⟨_, HR1.out.below hb2⟩, HG.out, HL.out⟩, HT1.out.trans (zone_new hb2)⟩
    generalize readS' k a = rs
    generalize thereE' k a = re
    clear hb2 z1 hj
    go_wp2
    go_ret
    exact ⟨rfl, HP.out⟩
set_option maxRecDepth 100000 in
set_option maxHeartbeats 2000000 in
theorem do_6 {w : World} {base p m q : Nat} {k : Dk} (h : Pair w base p m q k) (x : ActV) (hx : ActOk w base p m x) (hn : x.n ≤ 9223372036854775807) (hj : x.do_.tmod 10 = 6 ∨ x.do_.tmod 10 = -6) : Calls Try.prog 27 #[dp p, dp q, actVal x] w (DoPost base p m q w) := by
  have hbx := World.alloc_heap_new w (.cells (actCells x) 48)
  obtain ⟨v, hv⟩ := h.ref
  have HD := Hush.mk (h.disk.alloc (.cells (actCells x) 48))
  have HR := Hush.mk (hv.alloc (.cells (actCells x) 48))
  have HG := Hush.mk h.good
  have HL := Hush.mk h.low
  have HX := Hush.mk hx
  have HBX := Hush.mk hbx
  have HSZ : Hush (base ≤ w.heap.size) := ⟨Nat.le_trans hv.ge (Nat.le_of_lt hv.lt)⟩
  have HT0 : Hush (Touch (zone base p m) w (w.alloc (.cells (actCells x) 48))) := ⟨Touch.alloc _ _⟩
  obtain ⟨do_, a, b, data, n, A, fs, cf⟩ := x
  obtain ⟨x0, x1, x2, x3, x4, x5⟩ := act_cells (w := w.alloc (.cells (actCells ⟨do_, a, b, data, n, A, fs, cf⟩) 48)) hbx
  simp only [actVal, actCells] at x0 x1 x2 x3 x4 x5 hj HD HR HBX HT0 ⊢
  clear h hv hx hbx
  rcases hj with hj | hj
  all_goals
    go_enter Try.func27, Try.ntmps27
    go_wp2_with fail
    obtain ⟨nb, hnb⟩ : ∃ nb, nb = w.heap.size := ⟨_, rfl⟩
    have HNB : Hush (base ≤ nb ∧ ¬ own2 p m nb) := ⟨by have := HSZ.out; have := HL.out; exact ⟨by omega, by rintro (e | e) <;> omega⟩⟩
    rw [← hnb] at HBX x0 x1 x2 x3 x4 x5 ⊢
    clear hnb
    generalize w.alloc (.cells #[.int .i64 do_, .string a, .string b, .string data, .int .i64 n, .slice A fs.length cf] 48) = w0 at HD HR HBX HT0 x0 x1 x2 x3 x4 x5 ⊢
    have y1 : w0.drew.cell? ⟨nb, 1, none⟩ = some (.string a) := x1
    have y2 : w0.drew.cell? ⟨nb, 2, none⟩ = some (.string b) := x2
    have y3 : w0.drew.cell? ⟨nb, 3, none⟩ = some (.string data) := x3
    refine (fuse_on HD.out n).mono ?_
    rintro e w1 ⟨rfl, hd1, ht1⟩
    have z4 : w1.cell? ⟨nb, 4, none⟩ = some (.int .i64 n) := ht1.cell HNB.out.2 x4
    have HR1 := Hush.mk (HR.out.own2 ht1 HL.out)
    have HD1 := Hush.mk hd1
    have HT1 := Hush.mk (HT0.out.trans (zone_own (base := base) ht1))
    have hqb : base ≤ q := HR1.out.ge
    have cq := HR1.out.c3
    have fq := HR1.out.fr 3
    have HGD : Hush (Good { k with fuse := atLeast n }) := ⟨⟨HG.out.nodup, HG.out.few, HG.out.names, HG.out.used, HG.out.sure, (by show fuseOk (atLeast n); unfold fuseOk atLeast; split <;> omega), HG.out.fault, HG.out.room⟩⟩
    have hpq : p ≠ q := by have := HL.out; omega
    have hmq : m ≠ q := by have := HL.out; omega
    have HP : Hush ((∃ k, Pair (w1.setCell ⟨q, 3, none⟩ (.int .i64 (atLeast n))) base p m q k) ∧ Touch (zone base p m) w (w1.setCell ⟨q, 3, none⟩ (.int .i64 (atLeast n)))) := ⟨⟨{ k with fuse := atLeast n }, HD1.out.keep (Touch.setCell (S := (· = q)) w1 ⟨q, 3, none⟩ _ rfl) hpq hmq, ⟨_, HR1.out.put 3 _ (by simp [rcells]) rfl⟩, HGD.out, HL.out⟩, HT1.out.trans (Touch.setCell _ _ _ (.inr (.inr hqb)))⟩
    clear hd1 ht1 x0 x1 x2 x3 x4 x5 y1 y2 y3 hj hpq hmq hqb
    unfold atLeast at HP
    by_cases hc : -1 ≤ n
    · rw [if_pos hc] at HP
      go_wp2
      all_goals first | (exfalso; omega) | (go_ret; exact ⟨rfl, HP.out⟩)
    · rw [if_neg hc] at HP
      go_wp2
      all_goals first | (exfalso; omega) | (go_ret; exact ⟨rfl, HP.out⟩)
set_option maxRecDepth 100000 in
set_option maxHeartbeats 2000000 in
theorem do_7 {w : World} {base p m q : Nat} {k : Dk} (h : Pair w base p m q k) (x : ActV) (hx : ActOk w base p m x) (hn : x.n ≤ 9223372036854775807) (hj : x.do_.tmod 10 = 7 ∨ x.do_.tmod 10 = -7) : Calls Try.prog 27 #[dp p, dp q, actVal x] w (DoPost base p m q w) := by
  have hbx := World.alloc_heap_new w (.cells (actCells x) 48)
  obtain ⟨v, hv⟩ := h.ref
  have HD := Hush.mk (h.disk.alloc (.cells (actCells x) 48))
  have HR := Hush.mk (hv.alloc (.cells (actCells x) 48))
  have HG := Hush.mk h.good
  have HL := Hush.mk h.low
  have HX := Hush.mk hx
  have HBX := Hush.mk hbx
  have HSZ : Hush (base ≤ w.heap.size) := ⟨Nat.le_trans hv.ge (Nat.le_of_lt hv.lt)⟩
  have HT0 : Hush (Touch (zone base p m) w (w.alloc (.cells (actCells x) 48))) := ⟨Touch.alloc _ _⟩
  obtain ⟨do_, a, b, data, n, A, fs, cf⟩ := x
  obtain ⟨x0, x1, x2, x3, x4, x5⟩ := act_cells (w := w.alloc (.cells (actCells ⟨do_, a, b, data, n, A, fs, cf⟩) 48)) hbx
  simp only [actVal, actCells] at x0 x1 x2 x3 x4 x5 hj HD HR HBX HT0 ⊢
  clear h hv hx hbx
  rcases hj with hj | hj
  all_goals
    go_enter Try.func27, Try.ntmps27
    go_wp2_with fail
    obtain ⟨nb, hnb⟩ : ∃ nb, nb = w.heap.size := ⟨_, rfl⟩
    have HNB : Hush (base ≤ nb ∧ ¬ own2 p m nb) := ⟨by have := HSZ.out; have := HL.out; exact ⟨by omega, by rintro (e | e) <;> omega⟩⟩
    rw [← hnb] at HBX x0 x1 x2 x3 x4 x5 ⊢
    clear hnb
    generalize w.alloc (.cells #[.int .i64 do_, .string a, .string b, .string data, .int .i64 n, .slice A fs.length cf] 48) = w0 at HD HR HBX HT0 x0 x1 x2 x3 x4 x5 ⊢
    have y1 : w0.drew.cell? ⟨nb, 1, none⟩ = some (.string a) := x1
    have y2 : w0.drew.cell? ⟨nb, 2, none⟩ = some (.string b) := x2
    have y3 : w0.drew.cell? ⟨nb, 3, none⟩ = some (.string data) := x3
    refine (fault_on HD.out n).mono ?_
    rintro e w1 ⟨rfl, hd1, ht1⟩
    have z4 : w1.cell? ⟨nb, 4, none⟩ = some (.int .i64 n) := ht1.cell HNB.out.2 x4
    have HR1 := Hush.mk (HR.out.own2 ht1 HL.out)
    have HD1 := Hush.mk hd1
    have HT1 := Hush.mk (HT0.out.trans (zone_own (base := base) ht1))
    have hqb : base ≤ q := HR1.out.ge
    have cq := HR1.out.c4
    have fq := HR1.out.fr 4
    have HGD : Hush (Good { k with fault := atLeast n }) := ⟨⟨HG.out.nodup, HG.out.few, HG.out.names, HG.out.used, HG.out.sure, HG.out.fuse, (by show fuseOk (atLeast n); unfold fuseOk atLeast; split <;> omega), HG.out.room⟩⟩
    have hpq : p ≠ q := by have := HL.out; omega
    have hmq : m ≠ q := by have := HL.out; omega
    have HP : Hush ((∃ k, Pair (w1.setCell ⟨q, 4, none⟩ (.int .i64 (atLeast n))) base p m q k) ∧ Touch (zone base p m) w (w1.setCell ⟨q, 4, none⟩ (.int .i64 (atLeast n)))) := ⟨⟨{ k with fault := atLeast n }, HD1.out.keep (Touch.setCell (S := (· = q)) w1 ⟨q, 4, none⟩ _ rfl) hpq hmq, ⟨_, HR1.out.put 4 _ (by simp [rcells]) rfl⟩, HGD.out, HL.out⟩, HT1.out.trans (Touch.setCell _ _ _ (.inr (.inr hqb)))⟩
    clear hd1 ht1 x0 x1 x2 x3 x4 x5 y1 y2 y3 hj hpq hmq hqb
    unfold atLeast at HP
    by_cases hc : -1 ≤ n
    · rw [if_pos hc] at HP
      go_wp2
      all_goals first | (exfalso; omega) | (go_ret; exact ⟨rfl, HP.out⟩)
    · rw [if_neg hc] at HP
      go_wp2
      all_goals first | (exfalso; omega) | (go_ret; exact ⟨rfl, HP.out⟩)
set_option maxRecDepth 100000 in
set_option maxHeartbeats 2000000 in
theorem do_8 {w : World} {base p m q : Nat} {k : Dk} (h : Pair w base p m q k) (x : ActV) (hx : ActOk w base p m x) (hj : x.do_.tmod 10 = 8 ∨ x.do_.tmod 10 = -8) : Calls Try.prog 27 #[dp p, dp q, actVal x] w (DoPost base p m q w) := by
  have hbx := World.alloc_heap_new w (.cells (actCells x) 48)
  obtain ⟨v, hv⟩ := h.ref
  have HD := Hush.mk (h.disk.alloc (.cells (actCells x) 48))
  have HR := Hush.mk (hv.alloc (.cells (actCells x) 48))
  have HG := Hush.mk h.good
  have HL := Hush.mk h.low
  have HX := Hush.mk hx
  have HBX := Hush.mk hbx
  have HSZ : Hush (base ≤ w.heap.size) := ⟨Nat.le_trans hv.ge (Nat.le_of_lt hv.lt)⟩
  have HT0 : Hush (Touch (zone base p m) w (w.alloc (.cells (actCells x) 48))) := ⟨Touch.alloc _ _⟩
  obtain ⟨do_, a, b, data, n, A, fs, cf⟩ := x
  obtain ⟨x0, x1, x2, x3, x4, x5⟩ := act_cells (w := w.alloc (.cells (actCells ⟨do_, a, b, data, n, A, fs, cf⟩) 48)) hbx
  simp only [actVal, actCells] at x0 x1 x2 x3 x4 x5 hj HD HR HBX HT0 ⊢
  clear h hv hx hbx
  rcases hj with hj | hj
  all_goals
    go_enter Try.func27, Try.ntmps27
    go_wp2_with fail
    obtain ⟨nb, hnb⟩ : ∃ nb, nb = w.heap.size := ⟨_, rfl⟩
    have HNB : Hush (base ≤ nb ∧ ¬ own2 p m nb) := ⟨by have := HSZ.out; have := HL.out; exact ⟨by omega, by rintro (e | e) <;> omega⟩⟩
    rw [← hnb] at HBX x0 x1 x2 x3 x4 x5 ⊢
    clear hnb
    generalize w.alloc (.cells #[.int .i64 do_, .string a, .string b, .string data, .int .i64 n, .slice A fs.length cf] 48) = w0 at HD HR HBX HT0 x0 x1 x2 x3 x4 x5 ⊢
    have y1 : w0.drew.cell? ⟨nb, 1, none⟩ = some (.string a) := x1
    have y2 : w0.drew.cell? ⟨nb, 2, none⟩ = some (.string b) := x2
    have y3 : w0.drew.cell? ⟨nb, 3, none⟩ = some (.string data) := x3
    refine (room_on HD.out n).mono ?_
    rintro e w1 ⟨rfl, hd1, ht1⟩
    have z4 : w1.cell? ⟨nb, 4, none⟩ = some (.int .i64 n) := ht1.cell HNB.out.2 x4
    have HR1 := Hush.mk (HR.out.own2 ht1 HL.out)
    have HD1 := Hush.mk hd1
    have HT1 := Hush.mk (HT0.out.trans (zone_own (base := base) ht1))
    have hqb : base ≤ q := HR1.out.ge
    have cq := HR1.out.c1
    have fq := HR1.out.fr 1
    have HGD : Hush (Good { k with room := inRoom n }) := ⟨⟨HG.out.nodup, HG.out.few, HG.out.names, HG.out.used, HG.out.sure, HG.out.fuse, HG.out.fault, (by show 0 ≤ inRoom n ∧ inRoom n ≤ 16777216; unfold inRoom; split; omega; split <;> omega)⟩⟩
    have hpq : p ≠ q := by have := HL.out; omega
    have hmq : m ≠ q := by have := HL.out; omega
    have HP : Hush ((∃ k, Pair (w1.setCell ⟨q, 1, none⟩ (.int .i64 (inRoom n))) base p m q k) ∧ Touch (zone base p m) w (w1.setCell ⟨q, 1, none⟩ (.int .i64 (inRoom n)))) := ⟨⟨{ k with room := inRoom n }, HD1.out.keep (Touch.setCell (S := (· = q)) w1 ⟨q, 1, none⟩ _ rfl) hpq hmq, ⟨_, HR1.out.put 1 _ (by simp [rcells]) rfl⟩, HGD.out, HL.out⟩, HT1.out.trans (Touch.setCell _ _ _ (.inr (.inr hqb)))⟩
    clear hd1 ht1 x0 x1 x2 x3 x4 x5 y1 y2 y3 hj hpq hmq hqb
    unfold inRoom at HP
    by_cases hc : n < 0
    · rw [if_pos hc] at HP
      go_wp2
      all_goals first | (exfalso; omega) | (go_ret; exact ⟨rfl, HP.out⟩)
    · rw [if_neg hc] at HP
      by_cases hc2 : 16777216 < n
      · rw [if_pos hc2] at HP
        go_wp2
        all_goals first | (exfalso; omega) | (go_ret; exact ⟨rfl, HP.out⟩)
      · rw [if_neg hc2] at HP
        go_wp2
        all_goals first | (exfalso; omega) | (go_ret; exact ⟨rfl, HP.out⟩)
set_option maxRecDepth 100000 in
set_option maxHeartbeats 2000000 in
theorem do_9 {w : World} {base p m q : Nat} {k : Dk} (h : Pair w base p m q k) (x : ActV) (hx : ActOk w base p m x) (hj : x.do_.tmod 10 = 9 ∨ x.do_.tmod 10 = -9) : Calls Try.prog 27 #[dp p, dp q, actVal x] w (DoPost base p m q w) := by
  have hbx := World.alloc_heap_new w (.cells (actCells x) 48)
  obtain ⟨v, hv⟩ := h.ref
  have HD := Hush.mk (h.disk.alloc (.cells (actCells x) 48))
  have HR := Hush.mk (hv.alloc (.cells (actCells x) 48))
  have HG := Hush.mk h.good
  have HL := Hush.mk h.low
  have HX := Hush.mk hx
  have HBX := Hush.mk hbx
  have HSZ : Hush (base ≤ w.heap.size) := ⟨Nat.le_trans hv.ge (Nat.le_of_lt hv.lt)⟩
  have HT0 : Hush (Touch (zone base p m) w (w.alloc (.cells (actCells x) 48))) := ⟨Touch.alloc _ _⟩
  obtain ⟨do_, a, b, data, n, A, fs, cf⟩ := x
  obtain ⟨x0, x1, x2, x3, x4, x5⟩ := act_cells (w := w.alloc (.cells (actCells ⟨do_, a, b, data, n, A, fs, cf⟩) 48)) hbx
  simp only [actVal, actCells] at x0 x1 x2 x3 x4 x5 hj HD HR HBX HT0 ⊢
  clear h hv hx hbx
  rcases hj with hj | hj
  all_goals
    go_enter Try.func27, Try.ntmps27
    go_wp2_with fail
    obtain ⟨nb, hnb⟩ : ∃ nb, nb = w.heap.size := ⟨_, rfl⟩
    have HNB : Hush (base ≤ nb ∧ ¬ own2 p m nb) := ⟨by have := HSZ.out; have := HL.out; exact ⟨by omega, by rintro (e | e) <;> omega⟩⟩
    rw [← hnb] at HBX x0 x1 x2 x3 x4 x5 ⊢
    clear hnb
    generalize w.alloc (.cells #[.int .i64 do_, .string a, .string b, .string data, .int .i64 n, .slice A fs.length cf] 48) = w0 at HD HR HBX HT0 x0 x1 x2 x3 x4 x5 ⊢
    have y1 : w0.drew.cell? ⟨nb, 1, none⟩ = some (.string a) := x1
    have y2 : w0.drew.cell? ⟨nb, 2, none⟩ = some (.string b) := x2
    have y3 : w0.drew.cell? ⟨nb, 3, none⟩ = some (.string data) := x3
    have HF0 := Hush.mk (FatesLow.touch HX.out.fates HT0.out)
    refine (crash_on HD.out HG.out A fs cf HF0.out.at1 HX.out.most HX.out.turn).mono ?_
    rintro e w1 ⟨rfl, hd1, ht1⟩
    have z5 : w1.cell? ⟨nb, 5, none⟩ = some (.slice A fs.length cf) := ht1.cell HNB.out.2 x5
    have HR1 := Hush.mk (HR.out.own2 ht1 HL.out)
    have HD1 := Hush.mk hd1
    have HT1 := Hush.mk (HT0.out.trans (zone_own (base := base) ht1))
    have HF1 := Hush.mk (FatesLow.touch HF0.out (zone_own (base := base) ht1))
    clear hd1 ht1 x0 x1 x2 x3 x4 x5 y1 y2 y3
    go_wp2_with fail
    refine (rcrash_on HR1.out HG.out A fs cf (fun gv hgv => HF1.out.at2 HR1.out.ge (HR1.out.own.lt gv hgv).1) HX.out.most HX.out.turn).mono ?_
    rintro e w2 ⟨rfl, hr2, hb2⟩
    have HP : Hush ((∃ k, Pair w2 base p m q k) ∧ Touch (zone base p m) w w2) := ⟨⟨_, HD1.out.base hb2 HL.out, hr2, crash_good HG.out fs, HL.out⟩, HT1.out.trans (zone_base hb2)⟩
    clear hr2 hb2 z5 hj
    go_wp2
    go_ret
    exact ⟨rfl, HP.out⟩
end Go.Proofs.Yteilnbnnhocciaa.D
