/- FrameTurns answers true for every row of texts, every place and every turn handed in: behind a byte of the last record's turned, that isn't one of its lengths, all records ahead of it are told, and it isn't; no condition beyond the card's own. (part 3 of 5; packed by program out of the texts named below) -/
import Derived.Test.YteilnbnnhocciaaDoorXF2

/-! KF13 -/
namespace Go.Proofs.YteilnbnnhocciaaDoor.KF
open Go.RowKit Go.Proofs.YteilnbnnhocciaaDoorW.PrintWords Go.Proofs.YteilnbnnhocciaaDoorW.PrintLast Go.Proofs.YteilnbnnhocciaaDoorW.PrintMore Go.Proofs.YteilnbnnhocciaaDoorM
attribute [local go_sem] max2_int min2_int max_two min_two max_three min_three max_four min_four
set_option linter.unusedVariables false
set_option linter.unusedSimpArgs false
def frame_Lay.zeros (p : Int) : ByteArray := ⟨(Lib.repeatL (⟨#[0]⟩ : ByteArray).data.toList p.toNat).toArray⟩
def frame_Lay.n (lf : Int) (rc : ByteArray) : Int := mn (wrap64 (lf - 7)) (rc.size : Int)
def frame_Lay.l : Nat → Int → ByteArray → Bool → ByteArray → Option ByteArray
  | 0, _, _, _, _ => none
  | k + 1, at_, rc, bg, acc =>
    (frame_pad.f at_).bind fun p => (frame_left.f (wrap64 (at_ + p))).bind fun lf =>
      if 0 ≤ p ∧ p ≤ 1000 ∧ 0 ≤ frame_Lay.n lf rc ∧ frame_Lay.n lf rc ≤ (rc.size : Int) then
        (frame_kind.f 5 bg (frame_Lay.n lf rc == (rc.size : Int))).bind fun kd => (frame_piece.f 9 kd (rc.extract 0 (frame_Lay.n lf rc).toNat)).bind fun pc =>
          if acc.size + (frame_Lay.zeros p).size ≤ 140737488355328 ∧ (acc ++ frame_Lay.zeros p).size + pc.size ≤ 140737488355328 then
            if (rc.extract (frame_Lay.n lf rc).toNat rc.size).toList = [] then some ((acc ++ frame_Lay.zeros p) ++ pc)
            else frame_Lay.l k (wrap64 (wrap64 (at_ + p) + wrap64 (7 + frame_Lay.n lf rc))) (rc.extract (frame_Lay.n lf rc).toNat rc.size) false ((acc ++ frame_Lay.zeros p) ++ pc)
          else none
      else none
def frame_Lay.f (k : Nat) (a0 : Int) (a1 : ByteArray) : Option ByteArray := frame_Lay.l k (mx a0 0) a1 true ⟨#[]⟩
structure frame_Lay.Step (k : Nat) (at_ : Int) (rc : ByteArray) (bg : Bool) (acc r : ByteArray) (p lf n kd : Int) (pc : ByteArray) : Prop where
  h1 : frame_pad.f at_ = some p
  h2 : frame_left.f (wrap64 (at_ + p)) = some lf
  hn : mn (wrap64 (lf - 7)) (rc.size : Int) = n
  p0 : 0 ≤ p
  p1 : p ≤ 1000
  n0 : 0 ≤ n
  n1 : n ≤ (rc.size : Int)
  h3 : frame_kind.f 5 bg (n == (rc.size : Int)) = some kd
  h4 : frame_piece.f 9 kd (rc.extract 0 n.toNat) = some pc
  z1 : acc.size + (frame_Lay.zeros p).size ≤ 140737488355328
  z2 : (acc ++ frame_Lay.zeros p).size + pc.size ≤ 140737488355328
  h5 : (if (rc.extract n.toNat rc.size).toList = [] then some ((acc ++ frame_Lay.zeros p) ++ pc) else frame_Lay.l k (wrap64 (wrap64 (at_ + p) + wrap64 (7 + n))) (rc.extract n.toNat rc.size) false ((acc ++ frame_Lay.zeros p) ++ pc)) = some r
theorem frame_Lay.step {k : Nat} {at_ : Int} {rc : ByteArray} {bg : Bool} {acc r : ByteArray} (h : frame_Lay.l (k + 1) at_ rc bg acc = some r) : ∃ p lf n kd pc, frame_Lay.Step k at_ rc bg acc r p lf n kd pc := by
  rw [frame_Lay.l] at h
  obtain ⟨p, h1, h⟩ := Option.bind_eq_some_iff.mp h
  obtain ⟨lf, h2, h⟩ := Option.bind_eq_some_iff.mp h
  by_cases hc : 0 ≤ p ∧ p ≤ 1000 ∧ 0 ≤ frame_Lay.n lf rc ∧ frame_Lay.n lf rc ≤ (rc.size : Int)
  · rw [if_pos hc] at h
    obtain ⟨kd, h3, h⟩ := Option.bind_eq_some_iff.mp h
    obtain ⟨pc, h4, h⟩ := Option.bind_eq_some_iff.mp h
    by_cases hz : acc.size + (frame_Lay.zeros p).size ≤ 140737488355328 ∧ (acc ++ frame_Lay.zeros p).size + pc.size ≤ 140737488355328
    · rw [if_pos hz] at h
      exact ⟨p, lf, frame_Lay.n lf rc, kd, pc, h1, h2, rfl, hc.1, hc.2.1, hc.2.2.1, hc.2.2.2, h3, h4, hz.1, hz.2, h⟩
    · rw [if_neg hz] at h; cases h
  · rw [if_neg hc] at h; cases h
def frame_Lay.Post (w : World) (r : ByteArray) (e : Ending) (w' : World) : Prop := e = .returned (.string r) ∧ Below w.heap.size w w'
def frame_Lay.J (w : World) (r : ByteArray) (k : Nat) (a' : Act) (w' : World) : Prop := Below w.heap.size w w' ∧ ∃ (at_ : Int) (rc : ByteArray) (bg : Bool) (acc : ByteArray) (u7 u8 u9 u10 u11 u12 u13 u14 u15 u16 u17 u18 u19 u20 u21 u22 u23 u24 u25 u26 u27 u28 u29 u30 u31 u32 u33 u34 u35 u36 u37 u38 u39 u40 u41 u42 u43 : Value),
  a' = { tmps := #[.int .i64 at_, .string rc, undef, undef, .string ⟨#[]⟩, .pointer (some ⟨w.heap.size, 0, none⟩), .bool bg, u7, u8, u9, u10, u11, u12, u13, u14, u15, u16, u17, u18, u19, u20, u21, u22, u23, u24, u25, u26, u27, u28, u29, u30, u31, u32, u33, u34, u35, u36, u37, u38, u39, u40, u41, u42, u43, undef], defers := [] } ∧ Lib.IsBuilder 140 5 w.heap.size w.heap.size (Lib.strCells acc) w' ∧ frame_Lay.l k at_ rc bg acc = some r
set_option maxHeartbeats 1000000 in
set_option maxRecDepth 100000 in
theorem frame_Lay.walk (k : Nat) (a0 : Int) (a1 : ByteArray) (r : ByteArray) (w : World) (h : frame_Lay.f k a0 a1 = some r) : Calls Tryd.prog 30 #[.int .i64 a0, .string a1] w (frame_Lay.Post w r) := by
  have H := Hush.mk h
  clear h
  go_enter Tryd.func30, Tryd.ntmps30
  go_wp2
  refine wp_scope_ghost 0 (frame_Lay.J w r) rfl ?pass ?first
  case first =>
    intro hq
    have HI := Hush.mk (Lib.fresh_isBuilder 140 5 w)
    have HB : Hush (Below w.heap.size w (w.alloc (.cells #[.pointer none, .slice none 0 0] 140))) := ⟨below_alloc (Below.refl _ _) _⟩
    have hm : frame_Lay.l k (mx a0 0) a1 true ⟨#[]⟩ = some r := H.out
    have HM := Hush.mk hm
    clear hm H
    by_cases ha : a0 < 0
    · have hx : mx a0 0 = 0 := by unfold mx; omega
      have HM2 := Hush.mk (hx ▸ HM.out)
      clear HM hx
      go_wp2
      go_step3
      have hj : ∃ k, frame_Lay.J w r k { tmps := #[.int .i64 0, .string a1, undef, undef, .string ⟨#[]⟩, .pointer (some ⟨w.heap.size, 0, none⟩), .bool true, undef, .int .i64 a0, .int .i64 0, undef, undef, undef, undef, undef, undef, undef, undef, undef, undef, undef, undef, undef, undef, undef, undef, undef, undef, undef, undef, undef, undef, undef, undef, undef, undef, undef, undef, undef, undef, undef, undef, undef, undef, undef], defers := [] } (w.alloc (.cells #[.pointer none, .slice none 0 0] 140)) :=
        ⟨k, HB.out, 0, a1, true, ⟨#[]⟩, _, _, _, _, _, _, _, _, _, _, _, _, _, _, _, _, _, _, _, _, _, _, _, _, _, _, _, _, _, _, _, _, _, _, _, _, _, rfl, HI.out, HM2.out⟩
      exact (by assumption : ∀ a w, Code.wp _ _ _ a w → _) _ _ (hq.out _ _ hj)
    · have hx : mx a0 0 = a0 := by unfold mx; omega
      have HM2 := Hush.mk (hx ▸ HM.out)
      clear HM hx
      go_wp2
      go_step3
      have hj : ∃ k, frame_Lay.J w r k { tmps := #[.int .i64 a0, .string a1, undef, undef, .string ⟨#[]⟩, .pointer (some ⟨w.heap.size, 0, none⟩), .bool true, undef, .int .i64 a0, .int .i64 a0, undef, undef, undef, undef, undef, undef, undef, undef, undef, undef, undef, undef, undef, undef, undef, undef, undef, undef, undef, undef, undef, undef, undef, undef, undef, undef, undef, undef, undef, undef, undef, undef, undef, undef, undef], defers := [] } (w.alloc (.cells #[.pointer none, .slice none 0 0] 140)) :=
        ⟨k, HB.out, a0, a1, true, ⟨#[]⟩, _, _, _, _, _, _, _, _, _, _, _, _, _, _, _, _, _, _, _, _, _, _, _, _, _, _, _, _, _, _, _, _, _, _, _, _, _, rfl, HI.out, HM2.out⟩
      exact (by assumption : ∀ a w, Code.wp _ _ _ a w → _) _ _ (hq.out _ _ hj)
  case pass =>
    rintro k a' w' ⟨hb, at_, rc, bg, acc, u7, u8, u9, u10, u11, u12, u13, u14, u15, u16, u17, u18, u19, u20, u21, u22, u23, u24, u25, u26, u27, u28, u29, u30, u31, u32, u33, u34, u35, u36, u37, u38, u39, u40, u41, u42, u43, rfl, hB, hl⟩
    cases k with
    | zero => exact absurd hl (by simp [frame_Lay.l])
    | succ k =>
      obtain ⟨p, lf, n, kd, pc, S⟩ := frame_Lay.step hl
      obtain ⟨p, rfl⟩ := Int.eq_ofNat_of_zero_le S.p0
      have HB := Hush.mk hB
      have HL := Hush.mk hb
      have HF := Hush.mk S
      clear hl hB hb S
      go_wp2_with fail
      refine (frame_pad.calls at_ _ _ HF.out.h1).mono ?_
      rintro e w1 ⟨rfl, hd⟩
      have hb1 : Below w'.heap.size w' w1 := by obtain ⟨nd, rfl⟩ := hd.out; exact pw_below_drewN (Below.refl _ _) nd
      have HB1 := Hush.mk (builder_below HB.out hb1)
      have HL1 := Hush.mk (HL.out.trans (hb1.mono HL.out.size))
      clear hd hb1 HB HL
      go_wp2_with fail
      refine (Tryd.strings_Repeat ⟨#[0]⟩ p _ (by have := HF.out.p1; omega) (by have := HF.out.p1; show 1 * p ≤ _; omega)).mono ?_
      rintro e w2 ⟨rfl, hb2⟩
      have HB2 := Hush.mk (builder_below HB1.out hb2)
      have HL2 := Hush.mk (HL1.out.trans (hb2.mono HL1.out.size))
      clear hb2 HB1 HL1
      have hz : (⟨(Lib.repeatL (⟨#[0]⟩ : ByteArray).data.toList p).toArray⟩ : ByteArray) = frame_Lay.zeros (p : Int) := rfl
      rw [hz]
      obtain ⟨Z, hZ⟩ : ∃ Z, Z = frame_Lay.zeros (p : Int) := ⟨_, rfl⟩
      rw [← hZ]
      have HZ := Hush.mk hZ
      clear hz hZ
      go_wp2_with fail
      refine (writeString w.heap.size w.heap.size (Lib.strCells acc) Z _ HB2.out (by rw [Lib.strCells_length, HZ.out]; exact HF.out.z1) HL2.out.size).mono ?_
      rintro e w3 ⟨rfl, hB3, hb3⟩
      have HB3 : Hush (Lib.IsBuilder 140 5 w.heap.size w.heap.size (Lib.strCells (acc ++ Z)) w3) := ⟨.inr (by simpa [Lib.strCells] using hB3)⟩
      have HL3 := Hush.mk (HL2.out.trans hb3)
      clear hB3 hb3 HB2 HL2
      go_wp2_with fail
      refine (frame_left.calls _ lf _ HF.out.h2).mono ?_
      rintro e w4 ⟨rfl, hd⟩
      have hb4 : Below w3.heap.size w3 w4 := by obtain ⟨nd, rfl⟩ := hd.out; exact pw_below_drewN (Below.refl _ _) nd
      have HB4 := Hush.mk (builder_below HB3.out hb4)
      have HL4 := Hush.mk (HL3.out.trans (hb4.mono HL3.out.size))
      clear hd hb4 HB3 HL3
      have HD := Hush.mk (builder_below HB4.out (below_drew1 (Below.refl _ w4)))
      have HE := Hush.mk (below_drew1 HL4.out)
      have hn := HF.out.hn
      have n0 : decide (0 ≤ n) = true := decide_eq_true HF.out.n0
      have n1 : decide (n ≤ (rc.size : Int)) = true := decide_eq_true HF.out.n1
      have n2 : (0 ≤ n) = True := eq_true HF.out.n0
      have n3 : (n ≤ (rc.size : Int)) = True := eq_true HF.out.n1
      by_cases hle : wrap64 (lf - 7) ≤ (rc.size : Int)
      case' pos =>
        have e1 : wrap64 (lf - 7) = n := by rw [← hn]; unfold mn; first | (rw [if_pos hle]) | omega
        have E1 := Hush.mk e1
        clear e1 hn
        go_wp2_with fail
        rw [E1.out]
        clear E1 hle
      case' neg =>
        have e1 : (rc.size : Int) = n := by rw [← hn]; unfold mn; first | (rw [if_neg hle]) | omega
        have E1 := Hush.mk e1
        clear e1 hn
        go_wp2_with fail
        rw [E1.out]
        clear E1 hle
      all_goals
        go_region_law (first | (go_simp; go_at_call 82; refine (frame_kind.calls 5 bg (n == (rc.size : Int)) kd _ HF.out.h3).mono ?_; rintro e_ w5 ⟨rfl, hd⟩; have hb5 : Below w4.drew.heap.size w4.drew w5 := (by obtain ⟨nd, rfl⟩ := hd.out; exact pw_below_drewN (Below.refl _ _) nd); have HD5 := Hush.mk (builder_below HD.out hb5); have HE5 := Hush.mk (HE.out.trans (hb5.mono HE.out.size)); clear hd hb5) | (go_simp; go_at_call 81; refine (frame_piece.calls 9 kd (rc.extract 0 n.toNat) pc _ HF.out.h4).mono ?_; rintro e_ w6 ⟨rfl, hb6⟩; have HD6 := Hush.mk (builder_below HD5.out hb6); have HE6 := Hush.mk (HE5.out.trans (hb6.mono HE5.out.size)); clear hb6) | (go_simp; go_at_call 78; refine (writeString w.heap.size w.heap.size (Lib.strCells (acc ++ Z)) pc _ HD6.out (by rw [Lib.strCells_length, HZ.out]; exact HF.out.z2) HE6.out.size).mono ?_; rintro e_ w7 ⟨rfl, hB7, hb7⟩; have HD7 : Hush (Lib.IsBuilder 140 5 w.heap.size w.heap.size (Lib.strCells ((acc ++ Z) ++ pc)) w7) := (⟨.inr (by simpa [Lib.strCells] using hB7)⟩); have HE7 := Hush.mk (HE6.out.trans hb7); clear hB7 hb7))
        all_goals
          clear HD HE HB4 HL4 HD5 HE5 HD6 HE6
          by_cases hend : (rc.extract n.toNat rc.size).toList = []
          · have hr : Hush ((acc ++ Z) ++ pc = r) := ⟨by have h := HF.out.h5; rw [if_pos hend] at h; rw [HZ.out]; exact Option.some.inj h⟩
            have hq1 : ((rc.extract n.toNat rc.size).toList == []) = true := by rw [hend]; rfl
            have hq2 : ((rc.extract n.toNat rc.size).toList != []) = false := by rw [hend]; rfl
            have hq3 : (rc.extract n.toNat rc.size).toList.isEmpty = true := by rw [hend]; rfl
            obtain ⟨V, hV⟩ : ∃ V, V = (acc ++ Z) ++ pc := ⟨_, rfl⟩
            have HDV : Hush (Lib.IsBuilder 140 5 w.heap.size w.heap.size (Lib.strCells V) w7) := ⟨by rw [hV]; exact HD7.out⟩
            have HV : Hush (V = r) := ⟨by rw [hV]; exact hr.out⟩
            clear hend hV hr
            go_wp2_with fail
            refine (Tryd.Builder_String_any w.heap.size w.heap.size V.data.toList _ HDV.out HE7.out.size).mono ?_
            rintro e_ w8 ⟨rfl, hb8⟩
            have HE8 := Hush.mk (HE7.out.trans hb8)
            clear hb8
            go_wp2
            go_ret
            exact ⟨by rw [← HV.out]; rfl, HE8.out⟩
          · have hl : Hush (frame_Lay.l k (wrap64 (wrap64 (at_ + (p : Int)) + wrap64 (7 + n))) (rc.extract n.toNat rc.size) false ((acc ++ Z) ++ pc) = some r) := ⟨by have h := HF.out.h5; rw [if_neg hend] at h; rw [HZ.out]; exact h⟩
            have hq1 : ((rc.extract n.toNat rc.size).toList == []) = false := by simpa using hend
            have hq2 : ((rc.extract n.toNat rc.size).toList != []) = true := by simpa using hend
            have hq3 : (rc.extract n.toNat rc.size).toList.isEmpty = false := by simpa using hend
            clear hend
            go_wp2
            go_step3
            exact ⟨rfl, k, Nat.lt_succ_self k, HE7.out, _, _, false, _, _, _, _, _, _, _, _, _, _, _, _, _, _, _, _, _, _, _, _, _, _, _, _, _, _, _, _, _, _, _, _, _, _, _, _, _, _, rfl, HD7.out, hl.out⟩
theorem frame_Lay.calls (k : Nat) (a0 : Int) (a1 : ByteArray) (r : ByteArray) (w : World) (h : frame_Lay.f k a0 a1 = some r) :
    Calls Tryd.prog 30 #[.int .i64 a0, .string a1] w fun e w' => e = .returned (.string r) ∧ Below w.heap.size w w' := frame_Lay.walk k a0 a1 r w h
end Go.Proofs.YteilnbnnhocciaaDoor.KF

/-! KF15 -/
namespace Go.Proofs.YteilnbnnhocciaaDoor.KF
open Go.RowKit Go.Proofs.YteilnbnnhocciaaDoorW.PrintWords Go.Proofs.YteilnbnnhocciaaDoorW.PrintLast Go.Proofs.YteilnbnnhocciaaDoorW.PrintMore Go.Proofs.YteilnbnnhocciaaDoorM
attribute [local go_sem] max2_int min2_int max_two min_two max_three min_three max_four min_four
set_option linter.unusedVariables false
set_option linter.unusedSimpArgs false
def bourseref05_room.f (a0 : Int) : Option (Int) := some (wrap64 (512 - (Int.tmod a0 512)))
set_option maxHeartbeats 8000000 in
set_option maxRecDepth 100000 in
theorem bourseref05_room.calls (a0 : Int) (r : Int) (w : World) (h : bourseref05_room.f a0 = some r) :
    Calls Tryd.prog 73 #[.int .i64 a0] w fun e w' => e = .returned (.int .i64 r) ∧ Drawn0 w w' := by
  have H : (some (wrap64 (512 - (Int.tmod a0 512)))) = some r := h
  clear h
  obtain rfl := Option.some.inj H
  go_enter Tryd.func73, Tryd.ntmps73
  go_wp2
  go_ret
  exact ⟨by first | rfl | (simp; done) | (simp [*]; done), by repeat (first | exact Drawn0.refl _ | apply Drawn0.step)⟩
end Go.Proofs.YteilnbnnhocciaaDoor.KF

/-! KF16 -/
namespace Go.Proofs.YteilnbnnhocciaaDoor.KF
open Go.RowKit Go.Proofs.YteilnbnnhocciaaDoorW.PrintWords Go.Proofs.YteilnbnnhocciaaDoorW.PrintLast Go.Proofs.YteilnbnnhocciaaDoorW.PrintMore Go.Proofs.YteilnbnnhocciaaDoorM
attribute [local go_sem] max2_int min2_int max_two min_two max_three min_three max_four min_four
set_option linter.unusedVariables false
set_option linter.unusedSimpArgs false
def bourseref03_Little.l0 : Nat → Int → Int → ByteArray → Int → Option (ByteArray)
  | 0, _, _, _, _ => none
  | k + 1, x0, x1, x5, x6 => if x6 < x1 then ((some (([(Int.tmod x0 256) % 256] : List Int) : List Int)).bind fun y119 => (if x5.size + (strOfNums y119).size ≤ 9223372036854775807 then (bourseref03_Little.l0 k (IntKind.u64.wrap (Int.tdiv x0 256)) x1 (x5 ++ (strOfNums y119)) (wrap64 (x6 + 1))) else (none))) else (some x5)
def bourseref03_Little.f (k : Nat) (a0 : Int) (a1 : Int) : Option (ByteArray) := bourseref03_Little.l0 k a0 a1 (⟨#[]⟩ : ByteArray) 0
set_option maxHeartbeats 8000000 in
set_option maxRecDepth 100000 in
theorem bourseref03_Little.calls (k : Nat) (a0 : Int) (a1 : Int) (r : ByteArray) (w : World) (h : bourseref03_Little.f k a0 a1 = some r) :
    Calls Tryd.prog 84 #[.int .u64 a0, .int .i64 a1] w fun e w' => e = .returned (.string r) ∧ Below w.heap.size w w' := by
  have HB := Aside0.mk (Below.refl w.heap.size w)
  have H : (bourseref03_Little.l0 k a0 a1 (⟨#[]⟩ : ByteArray) 0) = some r := h
  clear h
  have H' := Aside0.mk H
  clear H
  go_enter Tryd.func84, Tryd.ntmps84
  go_wp2
  go_loopg [0, 5, 6] k (fun kq v0 v5 v6 w' => ∃ (x0_1 : Int) (x5_1 : ByteArray) (x6_1 : Int), v0 = .int .u64 x0_1 ∧ v5 = .string x5_1 ∧ v6 = .int .i64 x6_1 ∧ Aside0 (bourseref03_Little.l0 kq x0_1 a1 x5_1 x6_1 = some r) ∧ Aside0 (kq ≤ k) ∧ Aside0 (Below w.heap.size w w'))
  case atStart => exact ⟨(a0), ((⟨#[]⟩ : ByteArray)), (0), (by first | rfl | (simp; done) | (simp [*]; done)), (by first | rfl | (simp; done) | (simp [*]; done)), (by first | rfl | (simp; done) | (simp [*]; done)), H', ⟨Nat.le_refl _⟩, ⟨by repeat (first | (with_reducible first | exact HB.out | apply below_alloc | apply pw_below_drewN | apply below_drew1) | exact HB.out)⟩⟩
  case round =>
    clear H'
    try clear p2
    obtain ⟨x0_1, x5_1, x6_1, rfl, rfl, rfl, HA, HK1, HB⟩ := hrel
    cases gk with
    | zero => exact absurd HA.out (by simp [bourseref03_Little.l0])
    | succ k1 =>
      have H := HA.out
      clear HA
      simp only [bourseref03_Little.l0] at H
      by_cases c3 : x6_1 < a1
      · rw [if_pos c3] at H
        have c3b0 : decide (x6_1 < a1) = true := decide_eq_true c3
        clear c3
        obtain ⟨y119, hy119⟩ : ∃ y_ : List Int, y_ = (([(Int.tmod x0_1 256) % 256] : List Int)) := ⟨_, rfl⟩
        replace H : (if x5_1.size + (strOfNums y119).size ≤ 9223372036854775807 then (bourseref03_Little.l0 k1 (IntKind.u64.wrap (Int.tdiv x0_1 256)) a1 (x5_1 ++ (strOfNums y119)) (wrap64 (x6_1 + 1))) else (none)) = some r := by first | (rw [hy119]; with_reducible exact H) | (have H2_ := (Option.bind_some _ _).symm.trans H; rw [hy119]; with_reducible exact H2_) | (have H2_ := (Option.bind_some _ _).symm.trans H; with_reducible exact H2_) | with_reducible exact H | (rw [hy119]; exact H) | exact H
        have Ny119 := Aside0.mk hy119
        clear hy119
        by_cases c4 : x5_1.size + (strOfNums y119).size ≤ 9223372036854775807
        · rw [if_pos c4] at H
          have c4b0 := eq_true c4
          have c4b1 : decide (x5_1.size + (strOfNums y119).size ≤ 9223372036854775807) = true := decide_eq_true c4
          try have c4b2 : (9223372036854775807 < x5_1.size + (strOfNums y119).size) = False := eq_false (Nat.not_lt.2 c4)
          have H' := Aside0.mk H
          clear H
          go_wp2_with (first | ((with_reducible refine gate_dst (N := 16) rfl ?_); refine Kd.R_lit (Kd.int .u8) _ 5 ?hg (N := 16) ?hd (xs := ([(Int.tmod x0_1 256) % 256] : List Int)) (inner := [.int .u8 ((Int.tmod x0_1 256) % 256)]) (ok := fun _ => True) (okp := fun _ => True) ?hr ?hp (fun _ hk => hk) trivial (Below.refl _ _) (Nat.le_refl _) (by simp) ?_; (case hd => rfl); (case hg => rfl); (case hr => first | (go_simp; done) | (go_simp; rfl)); (case hp => exact (Reps.one (show Kd.M (Kd.int .u8) _ _ _ ((Int.tmod x0_1 256) % 256) [.int .u8 ((Int.tmod x0_1 256) % 256)] from rfl) (Reps.none _ _))); intro v120 w5 ho6 hb hg_ hnew_; clear hg_ hnew_; (first | rw [← Ny119.out] at ho6 | (simp only [Int.reduceToNat] at ho6; rw [← Ny119.out] at ho6)); have n0_ := Aside0.mk (Kd.R_lower ho6 (below_size (by repeat (first | (with_reducible first | exact HB.out | apply below_alloc | apply pw_below_drewN | apply below_drew1) | exact HB.out)))); have n1_ := Aside0.mk (below_step (by repeat (first | (with_reducible first | exact HB.out | apply below_alloc | apply pw_below_drewN | apply below_drew1) | exact HB.out)) hb); clear HB; have HO121 := n0_; have HB := n1_; clear n0_ n1_; clear hb ho6; have hcv7 := own_string (P := Tryd.prog) Tryd.underlying64 Tryd.underlying5 Tryd.underlying9 (Kd.own_of_R HO121.out)))
          go_roundg k1
          case measure => have := HK1.out; omega
          case rel => exact ⟨(IntKind.u64.wrap (Int.tdiv x0_1 256)), (x5_1 ++ (strOfNums y119)), (wrap64 (x6_1 + 1)), (by first | rfl | (simp; done) | (simp [*]; done)), (by first | rfl | (simp; done) | (simp [*]; done)), (by first | rfl | (simp; done) | (simp [*]; done)), H', ⟨by have := HK1.out; omega⟩, ⟨by repeat (first | (with_reducible first | exact HB.out | apply below_alloc | apply pw_below_drewN | apply below_drew1) | exact HB.out)⟩⟩
        · rw [if_neg c4] at H
          exact absurd H (by simp)
      · rw [if_neg c3] at H
        have c3b0 : decide (x6_1 < a1) = false := decide_eq_false c3
        clear c3
        obtain rfl := Option.some.inj H
        go_wp2
        go_ret
        exact ⟨by first | rfl | (simp [errW_none, errW_some] <;> rfl) | (simp [*, errW_none, errW_some] <;> rfl), by repeat (first | (with_reducible first | exact HB.out | apply below_alloc | apply pw_below_drewN | apply below_drew1) | exact HB.out)⟩
end Go.Proofs.YteilnbnnhocciaaDoor.KF

/-! KF17 -/
namespace Go.Proofs.YteilnbnnhocciaaDoor.KF
open Go.RowKit Go.Proofs.YteilnbnnhocciaaDoorW.PrintWords Go.Proofs.YteilnbnnhocciaaDoorW.PrintLast Go.Proofs.YteilnbnnhocciaaDoorW.PrintMore Go.Proofs.YteilnbnnhocciaaDoorM
attribute [local go_sem] max2_int min2_int max_two min_two max_three min_three max_four min_four
set_option linter.unusedVariables false
set_option linter.unusedSimpArgs false
def bourseref01_Mask.f (a0 : Int) : Option (Int) := some ((Int.tmod (IntKind.u64.wrap ((IntKind.u64.wrap (((Int.tdiv a0 32768) % 4294967296) + (IntKind.u64.wrap ((IntKind.u64.wrap (Int.tmod a0 32768)) * 131072)))) + 2726488792)) 4294967296) % 4294967296)
set_option maxHeartbeats 8000000 in
set_option maxRecDepth 100000 in
theorem bourseref01_Mask.calls (a0 : Int) (r : Int) (w : World) (h : bourseref01_Mask.f a0 = some r) :
    Calls Tryd.prog 115 #[.int .u32 a0] w fun e w' => e = .returned (.int .u32 r) ∧ Drawn0 w w' := by
  have H : (some ((Int.tmod (IntKind.u64.wrap ((IntKind.u64.wrap (((Int.tdiv a0 32768) % 4294967296) + (IntKind.u64.wrap ((IntKind.u64.wrap (Int.tmod a0 32768)) * 131072)))) + 2726488792)) 4294967296) % 4294967296)) = some r := h
  clear h
  obtain rfl := Option.some.inj H
  go_enter Tryd.func115, Tryd.ntmps115
  go_wp2
  go_ret
  exact ⟨by first | rfl | (simp; done) | (simp [*]; done), by repeat (first | exact Drawn0.refl _ | apply Drawn0.step)⟩
end Go.Proofs.YteilnbnnhocciaaDoor.KF

/-! KF18 -/
namespace Go.Proofs.YteilnbnnhocciaaDoor.KF
open Go.RowKit Go.Proofs.YteilnbnnhocciaaDoorW.PrintWords Go.Proofs.YteilnbnnhocciaaDoorW.PrintLast Go.Proofs.YteilnbnnhocciaaDoorW.PrintMore Go.Proofs.YteilnbnnhocciaaDoorM
attribute [local go_sem] max2_int min2_int max_two min_two max_three min_three max_four min_four
set_option linter.unusedVariables false
set_option linter.unusedSimpArgs false
def bourseref01_Byte.l0 : Nat → Int → Int → Option (Int)
  | 0, _, _ => none
  | k + 1, x0, x3 => if x3 < 8 then (if (Int.tmod x0 2) = 1 then (bourseref01_Byte.l0 k (Go.bits .xor .u32 ((Int.tdiv x0 2) % 4294967296) 2197175160) (wrap64 (x3 + 1))) else (bourseref01_Byte.l0 k ((Int.tdiv x0 2) % 4294967296) (wrap64 (x3 + 1)))) else (some x0)
def bourseref01_Byte.f (k : Nat) (a0 : Int) : Option (Int) := bourseref01_Byte.l0 k a0 0
set_option maxHeartbeats 8000000 in
set_option maxRecDepth 100000 in
theorem bourseref01_Byte.calls (k : Nat) (a0 : Int) (r : Int) (w : World) (h : bourseref01_Byte.f k a0 = some r) :
    Calls Tryd.prog 165 #[.int .u32 a0] w fun e w' => e = .returned (.int .u32 r) ∧ Drawn0 w w' := by
  have H : (bourseref01_Byte.l0 k a0 0) = some r := h
  clear h
  have H' := Aside0.mk H
  clear H
  go_enter Tryd.func165, Tryd.ntmps165
  go_wp2
  go_loopg [0, 3] k (fun kq v0 v3 w' => ∃ (x0_1 : Int) (x3_1 : Int), v0 = .int .u32 x0_1 ∧ v3 = .int .i64 x3_1 ∧ Aside0 (bourseref01_Byte.l0 kq x0_1 x3_1 = some r) ∧ Aside0 (kq ≤ k) ∧ Drawn0 w w')
  case atStart => exact ⟨(a0), (0), (by first | rfl | (simp; done) | (simp [*]; done)), (by first | rfl | (simp; done) | (simp [*]; done)), H', ⟨Nat.le_refl _⟩, by repeat (first | exact Drawn0.refl _ | apply Drawn0.step)⟩
  case round =>
    clear H'
    try clear c1
    obtain ⟨x0_1, x3_1, rfl, rfl, HA, HK1, ⟨m1, rfl⟩⟩ := hrel
    cases gk with
    | zero => exact absurd HA.out (by simp [bourseref01_Byte.l0])
    | succ k1 =>
      have H := HA.out
      clear HA
      simp only [bourseref01_Byte.l0] at H
      by_cases c2 : x3_1 < 8
      · rw [if_pos c2] at H
        have c2b0 : decide (x3_1 < 8) = true := decide_eq_true c2
        clear c2
        by_cases c3 : (Int.tmod x0_1 2) = 1
        · rw [if_pos c3] at H
          have c3b0 : ((Int.tmod x0_1 2) == 1) = true := beq_iff_eq.mpr c3
          have c3b1 : ((Int.tmod x0_1 2) != 1) = false := bne_eq_false_iff_eq.mpr c3
          clear c3
          have H' := Aside0.mk H
          clear H
          go_wp2
          go_roundg k1
          case measure => have := HK1.out; omega
          case rel => exact ⟨(Go.bits .xor .u32 ((Int.tdiv x0_1 2) % 4294967296) 2197175160), (wrap64 (x3_1 + 1)), (by first | rfl | (simp; done) | (simp [*]; done)), (by first | rfl | (simp; done) | (simp [*]; done)), H', ⟨by have := HK1.out; omega⟩, by repeat (first | exact Drawn0.refl _ | apply Drawn0.step)⟩
        · rw [if_neg c3] at H
          have c3b0 : ((Int.tmod x0_1 2) == 1) = false := beq_eq_false_iff_ne.mpr c3
          have c3b1 : ((Int.tmod x0_1 2) != 1) = true := bne_iff_ne.mpr c3
          have H' := Aside0.mk H
          clear H
          go_wp2
          go_roundg k1
          case measure => have := HK1.out; omega
          case rel => exact ⟨((Int.tdiv x0_1 2) % 4294967296), (wrap64 (x3_1 + 1)), (by first | rfl | (simp; done) | (simp [*]; done)), (by first | rfl | (simp; done) | (simp [*]; done)), H', ⟨by have := HK1.out; omega⟩, by repeat (first | exact Drawn0.refl _ | apply Drawn0.step)⟩
      · rw [if_neg c2] at H
        have c2b0 : decide (x3_1 < 8) = false := decide_eq_false c2
        clear c2
        obtain rfl := Option.some.inj H
        go_wp2
        go_ret
        exact ⟨by first | rfl | (simp; done) | (simp [*]; done), by repeat (first | exact Drawn0.refl _ | apply Drawn0.step)⟩
end Go.Proofs.YteilnbnnhocciaaDoor.KF

/-! KF19 -/
namespace Go.Proofs.YteilnbnnhocciaaDoor.KF
open Go.RowKit Go.Proofs.YteilnbnnhocciaaDoorW.PrintWords Go.Proofs.YteilnbnnhocciaaDoorW.PrintLast Go.Proofs.YteilnbnnhocciaaDoorW.PrintMore Go.Proofs.YteilnbnnhocciaaDoorM
attribute [local go_sem] max2_int min2_int max_two min_two max_three min_three max_four min_four
set_option linter.unusedVariables false
set_option linter.unusedSimpArgs false
def bourseref01_Add.l0 : Nat → Int → ByteArray → Int → Option (Int)
  | 0, _, _, _ => none
  | k + 1, x0, x1, x5 => if x5 < (x1.size : Int) then (if 0 ≤ x5 then ((bourseref01_Byte.f k (Go.bits .xor .u32 (Int.tmod x0 256) ((bt x1 x5) % 4294967296))).bind fun t122 => (bourseref01_Add.l0 k (Go.bits .xor .u32 t122 ((Int.tdiv x0 256) % 4294967296)) x1 (wrap64 (x5 + 1)))) else (none)) else (some ((4294967295 - x0) % 4294967296))
def bourseref01_Add.f (k : Nat) (a0 : Int) (a1 : ByteArray) : Option (Int) := bourseref01_Add.l0 k ((4294967295 - a0) % 4294967296) a1 0
set_option maxHeartbeats 8000000 in
set_option maxRecDepth 100000 in
theorem bourseref01_Add.calls (k : Nat) (a0 : Int) (a1 : ByteArray) (r : Int) (w : World) (h : bourseref01_Add.f k a0 a1 = some r) :
    Calls Tryd.prog 140 #[.int .u32 a0, .string a1] w fun e w' => e = .returned (.int .u32 r) ∧ Drawn0 w w' := by
  have H : (bourseref01_Add.l0 k ((4294967295 - a0) % 4294967296) a1 0) = some r := h
  clear h
  have H' := Aside0.mk H
  clear H
  go_enter Tryd.func140, Tryd.ntmps140
  go_wp2
  go_loopg [0, 5] k (fun kq v0 v5 w' => ∃ (x0_1 : Int) (x5_1 : Int), v0 = .int .u32 x0_1 ∧ v5 = .int .i64 x5_1 ∧ Aside0 (bourseref01_Add.l0 kq x0_1 a1 x5_1 = some r) ∧ Aside0 (kq ≤ k) ∧ Drawn0 w w')
  case atStart => exact ⟨((4294967295 - a0) % 4294967296), (0), (by first | rfl | (simp; done) | (simp [*]; done)), (by first | rfl | (simp; done) | (simp [*]; done)), H', ⟨Nat.le_refl _⟩, by repeat (first | exact Drawn0.refl _ | apply Drawn0.step)⟩
  case round =>
    clear H'
    try clear c1
    try clear p2
    obtain ⟨x0_1, x5_1, rfl, rfl, HA, HK1, ⟨m1, rfl⟩⟩ := hrel
    cases gk with
    | zero => exact absurd HA.out (by simp [bourseref01_Add.l0])
    | succ k1 =>
      have H := HA.out
      clear HA
      simp only [bourseref01_Add.l0] at H
      by_cases c3 : x5_1 < (a1.size : Int)
      · rw [if_pos c3] at H
        have c3b0 : decide (x5_1 < (a1.size : Int)) = true := decide_eq_true c3
        clear c3
        by_cases c4 : 0 ≤ x5_1
        · rw [if_pos c4] at H
          have c4b0 : decide (0 ≤ x5_1) = true := decide_eq_true c4
          clear c4
          replace H := Option.bind_eq_some_iff.mp H
          obtain ⟨t122, A60, H⟩ := H
          replace H : (bourseref01_Add.l0 k1 (Go.bits .xor .u32 t122 ((Int.tdiv x0_1 256) % 4294967296)) a1 (wrap64 (x5_1 + 1))) = some r := H
          have A6 := Aside0.mk A60
          clear A60
          have H' := Aside0.mk H
          clear H
          have p5 : 0 ≤ (x5_1 : Int) := of_decide_eq_true (by first | (with_reducible assumption) | assumption)
          have q5 : x5_1 < (a1.size : Int) := of_decide_eq_true (by first | (with_reducible assumption) | assumption)
          have hx5 := bt_at a1 x5_1
          replace p5 := eq_true p5
          replace q5 := eq_true q5
          go_wp2_with (first | ((with_reducible refine gate_callee (f := 165) rfl ?_); refine goesL_ (some 21) rfl rfl Tryd.func165 (by kernel_rfl) rfl #[.int .u32 (Go.bits .xor .u32 (Int.tmod x0_1 256) ((bt a1 x5_1) % 4294967296))] rfl (by (try simp only [List.map_toArray, List.map_cons, List.map_nil]); first | done | rfl | (simp only [List.length_drop, List.length_take]; rfl)) ?_; (with_reducible refine (bourseref01_Byte.calls k1 (Go.bits .xor .u32 (Int.tmod x0_1 256) ((bt a1 x5_1) % 4294967296)) t122 _ A6.out).mono ?_); rintro e w' ⟨rfl, ⟨nd, rfl⟩⟩; refine ⟨_, rfl, ?_⟩))
          go_roundg k1
          case measure => have := HK1.out; omega
          case rel => exact ⟨(Go.bits .xor .u32 t122 ((Int.tdiv x0_1 256) % 4294967296)), (wrap64 (x5_1 + 1)), (by first | rfl | (simp; done) | (simp [*]; done)), (by first | rfl | (simp; done) | (simp [*]; done)), H', ⟨by have := HK1.out; omega⟩, by repeat (first | exact Drawn0.refl _ | apply Drawn0.step)⟩
        · rw [if_neg c4] at H
          exact absurd H (by simp)
      · rw [if_neg c3] at H
        have c3b0 : decide (x5_1 < (a1.size : Int)) = false := decide_eq_false c3
        clear c3
        obtain rfl := Option.some.inj H
        go_wp2
        go_ret
        exact ⟨by first | rfl | (simp; done) | (simp [*]; done), by repeat (first | exact Drawn0.refl _ | apply Drawn0.step)⟩
end Go.Proofs.YteilnbnnhocciaaDoor.KF

/-! KF20 -/
namespace Go.Proofs.YteilnbnnhocciaaDoor.KF
open Go.RowKit Go.Proofs.YteilnbnnhocciaaDoorW.PrintWords Go.Proofs.YteilnbnnhocciaaDoorW.PrintLast Go.Proofs.YteilnbnnhocciaaDoorW.PrintMore Go.Proofs.YteilnbnnhocciaaDoorM
attribute [local go_sem] max2_int min2_int max_two min_two max_three min_three max_four min_four
set_option linter.unusedVariables false
set_option linter.unusedSimpArgs false
def bourseref01_Of.f (k : Nat) (a0 : ByteArray) : Option (Int) := (bourseref01_Add.f k 0 a0).bind fun t123 => (some t123)
set_option maxHeartbeats 8000000 in
set_option maxRecDepth 100000 in
theorem bourseref01_Of.calls (k : Nat) (a0 : ByteArray) (r : Int) (w : World) (h : bourseref01_Of.f k a0 = some r) :
    Calls Tryd.prog 116 #[.string a0] w fun e w' => e = .returned (.int .u32 r) ∧ Drawn0 w w' := by
  have H : ((bourseref01_Add.f k 0 a0).bind fun t123 => (some t123)) = some r := h
  clear h
  replace H := Option.bind_eq_some_iff.mp H
  obtain ⟨t123, A20, H⟩ := H
  replace H : (some t123) = some r := H
  have A2 := Aside0.mk A20
  clear A20
  obtain rfl := Option.some.inj H
  go_enter Tryd.func116, Tryd.ntmps116
  go_wp2_with (first | ((with_reducible refine gate_callee (f := 140) rfl ?_); refine goesL_ (some 4) rfl rfl Tryd.func140 (by kernel_rfl) rfl #[.int .u32 0, .string a0] rfl (by (try simp only [List.map_toArray, List.map_cons, List.map_nil]); first | done | rfl | (simp only [List.length_drop, List.length_take]; rfl)) ?_; (with_reducible refine (bourseref01_Add.calls k 0 a0 t123 _ A2.out).mono ?_); rintro e w' ⟨rfl, ⟨nd, rfl⟩⟩; refine ⟨_, rfl, ?_⟩))
  go_ret
  exact ⟨by first | rfl | (simp; done) | (simp [*]; done), by repeat (first | exact Drawn0.refl _ | apply Drawn0.step)⟩
end Go.Proofs.YteilnbnnhocciaaDoor.KF

/-! KF21 -/
namespace Go.Proofs.YteilnbnnhocciaaDoor.KF
open Go.RowKit Go.Proofs.YteilnbnnhocciaaDoorW.PrintWords Go.Proofs.YteilnbnnhocciaaDoorW.PrintLast Go.Proofs.YteilnbnnhocciaaDoorW.PrintMore Go.Proofs.YteilnbnnhocciaaDoorM
attribute [local go_sem] max2_int min2_int max_two min_two max_three min_three max_four min_four
set_option linter.unusedVariables false
set_option linter.unusedSimpArgs false
def bourseref05_sum.f (k : Nat) (a0 : Int) (a1 : ByteArray) : Option (ByteArray) := (some (([a0] : List Int) : List Int)).bind fun y124 => (if (strOfNums y124).size + a1.size ≤ 9223372036854775807 then ((bourseref01_Of.f k ((strOfNums y124) ++ a1)).bind fun t127 => ((bourseref01_Mask.f t127).bind fun t128 => ((bourseref03_Little.f k (IntKind.u64.wrap (t128)) 4).bind fun t129 => (some t129)))) else (none))
set_option maxHeartbeats 8000000 in
set_option maxRecDepth 100000 in
theorem bourseref05_sum.calls (k : Nat) (a0 : Int) (a1 : ByteArray) (r : ByteArray) (w : World) (h : bourseref05_sum.f k a0 a1 = some r) :
    Calls Tryd.prog 74 #[.int .u8 a0, .string a1] w fun e w' => e = .returned (.string r) ∧ Below w.heap.size w w' := by
  have HB := Aside0.mk (Below.refl w.heap.size w)
  have H : ((some (([a0] : List Int) : List Int)).bind fun y124 => (if (strOfNums y124).size + a1.size ≤ 9223372036854775807 then ((bourseref01_Of.f k ((strOfNums y124) ++ a1)).bind fun t127 => ((bourseref01_Mask.f t127).bind fun t128 => ((bourseref03_Little.f k (IntKind.u64.wrap (t128)) 4).bind fun t129 => (some t129)))) else (none))) = some r := h
  clear h
  obtain ⟨y124, hy124⟩ : ∃ y_ : List Int, y_ = (([a0] : List Int)) := ⟨_, rfl⟩
  replace H : (if (strOfNums y124).size + a1.size ≤ 9223372036854775807 then ((bourseref01_Of.f k ((strOfNums y124) ++ a1)).bind fun t127 => ((bourseref01_Mask.f t127).bind fun t128 => ((bourseref03_Little.f k (IntKind.u64.wrap (t128)) 4).bind fun t129 => (some t129)))) else (none)) = some r := by first | (rw [hy124]; with_reducible exact H) | (have H2_ := (Option.bind_some _ _).symm.trans H; rw [hy124]; with_reducible exact H2_) | (have H2_ := (Option.bind_some _ _).symm.trans H; with_reducible exact H2_) | with_reducible exact H | (rw [hy124]; exact H) | exact H
  have Ny124 := Aside0.mk hy124
  clear hy124
  by_cases c3 : (strOfNums y124).size + a1.size ≤ 9223372036854775807
  · rw [if_pos c3] at H
    have c3b0 := eq_true c3
    have c3b1 : decide ((strOfNums y124).size + a1.size ≤ 9223372036854775807) = true := decide_eq_true c3
    try have c3b2 : (9223372036854775807 < (strOfNums y124).size + a1.size) = False := eq_false (Nat.not_lt.2 c3)
    replace H := Option.bind_eq_some_iff.mp H
    obtain ⟨t127, A40, H⟩ := H
    replace H : ((bourseref01_Mask.f t127).bind fun t128 => ((bourseref03_Little.f k (IntKind.u64.wrap (t128)) 4).bind fun t129 => (some t129))) = some r := H
    have A4 := Aside0.mk A40
    clear A40
    replace H := Option.bind_eq_some_iff.mp H
    obtain ⟨t128, A50, H⟩ := H
    replace H : ((bourseref03_Little.f k (IntKind.u64.wrap (t128)) 4).bind fun t129 => (some t129)) = some r := H
    have A5 := Aside0.mk A50
    clear A50
    replace H := Option.bind_eq_some_iff.mp H
    obtain ⟨t129, A60, H⟩ := H
    replace H : (some t129) = some r := H
    have A6 := Aside0.mk A60
    clear A60
    obtain rfl := Option.some.inj H
    go_enter Tryd.func74, Tryd.ntmps74
    go_wp2_with (first | ((with_reducible refine gate_dst (N := 6) rfl ?_); refine Kd.R_lit (Kd.int .u8) _ 5 ?hg (N := 6) ?hd (xs := ([a0] : List Int)) (inner := [.int .u8 a0]) (ok := fun _ => True) (okp := fun _ => True) ?hr ?hp (fun _ hk => hk) trivial (Below.refl _ _) (Nat.le_refl _) (by simp) ?_; (case hd => rfl); (case hg => rfl); (case hr => first | (go_simp; done) | (go_simp; rfl)); (case hp => exact (Reps.one (show Kd.M (Kd.int .u8) _ _ _ a0 [.int .u8 a0] from rfl) (Reps.none _ _))); intro v125 w7 ho8 hb hg_ hnew_; clear hg_ hnew_; (first | rw [← Ny124.out] at ho8 | (simp only [Int.reduceToNat] at ho8; rw [← Ny124.out] at ho8)); have n0_ := Aside0.mk (Kd.R_lower ho8 (below_size (by repeat (first | (with_reducible first | exact HB.out | apply below_alloc | apply pw_below_drewN | apply below_drew1) | exact HB.out)))); have n1_ := Aside0.mk (below_step (by repeat (first | (with_reducible first | exact HB.out | apply below_alloc | apply pw_below_drewN | apply below_drew1) | exact HB.out)) hb); clear HB; have HO126 := n0_; have HB := n1_; clear n0_ n1_; clear hb ho8; have hcv9 := own_string (P := Tryd.prog) Tryd.underlying64 Tryd.underlying5 Tryd.underlying9 (Kd.own_of_R HO126.out)) | ((with_reducible refine gate_callee (f := 116) rfl ?_); refine goesL_ (some 10) rfl rfl Tryd.func116 (by kernel_rfl) rfl #[.string ((strOfNums y124) ++ a1)] rfl (by (try simp only [List.map_toArray, List.map_cons, List.map_nil]); first | done | rfl | (simp only [List.length_drop, List.length_take]; rfl)) ?_; (with_reducible refine (bourseref01_Of.calls k ((strOfNums y124) ++ a1) t127 _ A4.out).mono ?_); rintro e w' ⟨rfl, ⟨nd, rfl⟩⟩; refine ⟨_, rfl, ?_⟩) | ((with_reducible refine gate_callee (f := 115) rfl ?_); refine goesL_ (some 11) rfl rfl Tryd.func115 (by kernel_rfl) rfl #[.int .u32 t127] rfl (by (try simp only [List.map_toArray, List.map_cons, List.map_nil]); first | done | rfl | (simp only [List.length_drop, List.length_take]; rfl)) ?_; (with_reducible refine (bourseref01_Mask.calls t127 t128 _ A5.out).mono ?_); rintro e w' ⟨rfl, ⟨nd, rfl⟩⟩; refine ⟨_, rfl, ?_⟩) | ((with_reducible refine gate_callee (f := 84) rfl ?_); refine goesL_ (some 13) rfl rfl Tryd.func84 (by kernel_rfl) rfl #[.int .u64 (IntKind.u64.wrap (t128)), .int .i64 4] rfl (by (try simp only [List.map_toArray, List.map_cons, List.map_nil]); first | done | rfl | (simp only [List.length_drop, List.length_take]; rfl)) ?_; (with_reducible refine (bourseref03_Little.calls k (IntKind.u64.wrap (t128)) 4 t129 _ A6.out).mono ?_); rintro e w10 ⟨rfl, hb⟩; refine ⟨_, rfl, ?_⟩; have n0_ := Aside0.mk (Kd.R_below (by (with_reducible repeat (first | apply Kd.R_alloc | apply Kd.R_drewN | apply Kd.R_drew)); exact HO126.out) hb); have n1_ := Aside0.mk (below_step (by repeat (first | (with_reducible first | exact HB.out | apply below_alloc | apply pw_below_drewN | apply below_drew1) | exact HB.out)) hb); clear HO126; clear HB; have HO126 := n0_; have HB := n1_; clear n0_ n1_; (try clear hb); (try clear hb2); (try clear hk); (try clear hi)))
    go_ret
    exact ⟨by first | rfl | (simp [errW_none, errW_some] <;> rfl) | (simp [*, errW_none, errW_some] <;> rfl), by repeat (first | (with_reducible first | exact HB.out | apply below_alloc | apply pw_below_drewN | apply below_drew1) | exact HB.out)⟩
  · rw [if_neg c3] at H
    exact absurd H (by simp)
end Go.Proofs.YteilnbnnhocciaaDoor.KF
