/- FrameReads answers true for every log and every number handed in: the records that the program tells of any bytes, and where they end, are the document's, left off anywhere; no condition beyond the card's own. (part 5 of 5; packed by program out of the texts named below) -/
import Derived.Test.YteilnbnnhocciaaDoorXD4
import Derived.Test.YteilnbnnhocciaaDoorRows
import Derived.Lib.LaidIn
import Derived.ChangeArms
import Derived.ChangeSame
import Derived.ChangeVars
import Derived.JoinedOf
import Derived.RowKit
import Derived.WalkKit
import Derived.ProofKit
import Derived.OpenShut
import Derived.ShutString
import Derived.ChangeOld
import Derived.Below
import Derived.SizedLaws
import Derived.DataReads
import Derived.WideShapes
import Derived.Test.YteilnbnnhocciaaDoorTie
import Derived.Test.YteilnbnnhocciaaDoorCards
import Derived.SevenTiedAt

/-! KF23 -/
namespace Go.Proofs.YteilnbnnhocciaaDoor.KF
open Go.RowKit Go.Proofs.YteilnbnnhocciaaDoorW.PrintWords Go.Proofs.YteilnbnnhocciaaDoorW.PrintLast Go.Proofs.YteilnbnnhocciaaDoorW.PrintMore Go.Proofs.YteilnbnnhocciaaDoorM
attribute [local go_sem] max2_int min2_int max_two min_two max_three min_three max_four min_four
set_option linter.unusedVariables false
set_option linter.unusedSimpArgs false
def frame_Len.l0 : Nat → Int → Int → Int → Option (Int)
  | 0, _, _, _ => none
  | k + 1, x0, x1, x5 => (frame_pad.f x0).bind fun t137 => ((frame_left.f (wrap64 (x0 + t137))).bind fun t138 => (if (wrap64 (x1 - (mn (wrap64 (t138 - 7)) x1))) = 0 then (some (wrap64 ((wrap64 ((wrap64 (x0 + t137)) + (wrap64 (7 + (mn (wrap64 (t138 - 7)) x1))))) - x5))) else (frame_Len.l0 k (wrap64 ((wrap64 (x0 + t137)) + (wrap64 (7 + (mn (wrap64 (t138 - 7)) x1))))) (wrap64 (x1 - (mn (wrap64 (t138 - 7)) x1))) x5)))
def frame_Len.f (k : Nat) (a0 : Int) (a1 : Int) : Option (Int) := frame_Len.l0 k (mx a0 0) (mx a1 0) (mx a0 0)
set_option maxHeartbeats 8000000 in
set_option maxRecDepth 100000 in
theorem frame_Len.calls (k : Nat) (a0 : Int) (a1 : Int) (r : Int) (w : World) (h : frame_Len.f k a0 a1 = some r) :
    Calls Tryd.prog 32 #[.int .i64 a0, .int .i64 a1] w fun e w' => e = .returned (.int .i64 r) ∧ Below w.heap.size w w' := by
  have HB := Aside0.mk (Below.refl w.heap.size w)
  have H : (frame_Len.l0 k (mx a0 0) (mx a1 0) (mx a0 0)) = some r := h
  clear h
  obtain ⟨ji3, hji3⟩ : ∃ j_ : Int, (mx a0 0) = j_ := ⟨_, rfl⟩
  replace H : (frame_Len.l0 k ji3 (mx a1 0) ji3) = some r := by first | (rw [hji3] at H; exact H) | (simp only [hji3] at H ⊢; exact H)
  (try (have hji3l : 0 ≤ ji3 := by (rw [← hji3]; unfold mx; (repeat' split) <;> omega)))
  (try (have hji3m : 0 ≤ ji3 := by omega))
  have hji3_ : (if a0 < 0 then 0 else a0) = ji3 := hji3
  obtain ⟨ji4, hji4⟩ : ∃ j_ : Int, (mx a1 0) = j_ := ⟨_, rfl⟩
  replace H : (frame_Len.l0 k ji3 ji4 ji3) = some r := by first | (rw [hji4] at H; exact H) | (simp only [hji4] at H ⊢; exact H)
  (try (have hji4l : 0 ≤ ji4 := by (rw [← hji4]; unfold mx; (repeat' split) <;> omega)))
  (try (have hji4m : 0 ≤ ji4 := by omega))
  have hji4_ : (if a1 < 0 then 0 else a1) = ji4 := hji4
  have H' := Aside0.mk H
  clear H
  go_enter Tryd.func32, Tryd.ntmps32
  go_wp2
  go_loopg [0, 1] k (fun kq v0 v1 w' => ∃ (x0_1 : Int) (x1_1 : Int), v0 = .int .i64 x0_1 ∧ v1 = .int .i64 x1_1 ∧ Aside0 (frame_Len.l0 kq x0_1 x1_1 ji3 = some r) ∧ Aside0 (kq ≤ k) ∧ Aside0 (Below w.heap.size w w'))
  case atStart => exact ⟨(ji3), (ji4), (by first | rfl | (simp; done) | (simp only [← hji3] <;> (first | rfl | simp)) | (simp [*]; done)), (by first | rfl | (simp; done) | (simp only [← hji4] <;> (first | rfl | simp)) | (simp [*]; done)), (by first | exact H' | (rw [hji4]; exact H')), ⟨Nat.le_refl _⟩, ⟨by repeat (first | (with_reducible first | exact HB.out | apply below_alloc | apply pw_below_drewN | apply below_drew1) | exact HB.out)⟩⟩
  case round =>
    clear H'
    try clear p2
    try clear c3
    obtain ⟨x0_1, x1_1, rfl, rfl, HA, HK1, HB⟩ := hrel
    cases gk with
    | zero => exact absurd HA.out (by simp [frame_Len.l0])
    | succ k1 =>
      have H := HA.out
      clear HA
      simp only [frame_Len.l0] at H
      replace H := Option.bind_eq_some_iff.mp H
      obtain ⟨t137, A50, H⟩ := H
      replace H : ((frame_left.f (wrap64 (x0_1 + t137))).bind fun t138 => (if (wrap64 (x1_1 - (mn (wrap64 (t138 - 7)) x1_1))) = 0 then (some (wrap64 ((wrap64 ((wrap64 (x0_1 + t137)) + (wrap64 (7 + (mn (wrap64 (t138 - 7)) x1_1))))) - ji3))) else (frame_Len.l0 k1 (wrap64 ((wrap64 (x0_1 + t137)) + (wrap64 (7 + (mn (wrap64 (t138 - 7)) x1_1))))) (wrap64 (x1_1 - (mn (wrap64 (t138 - 7)) x1_1))) ji3))) = some r := H
      have A5 := Aside0.mk A50
      clear A50
      replace H := Option.bind_eq_some_iff.mp H
      obtain ⟨t138, A60, H⟩ := H
      replace H : (if (wrap64 (x1_1 - (mn (wrap64 (t138 - 7)) x1_1))) = 0 then (some (wrap64 ((wrap64 ((wrap64 (x0_1 + t137)) + (wrap64 (7 + (mn (wrap64 (t138 - 7)) x1_1))))) - ji3))) else (frame_Len.l0 k1 (wrap64 ((wrap64 (x0_1 + t137)) + (wrap64 (7 + (mn (wrap64 (t138 - 7)) x1_1))))) (wrap64 (x1_1 - (mn (wrap64 (t138 - 7)) x1_1))) ji3)) = some r := H
      have A6 := Aside0.mk A60
      clear A60
      obtain ⟨ji7, hji7⟩ : ∃ j_ : Int, (mn (wrap64 (t138 - 7)) x1_1) = j_ := ⟨_, rfl⟩
      replace H : (if (wrap64 (x1_1 - (ji7))) = 0 then (some (wrap64 ((wrap64 ((wrap64 (x0_1 + t137)) + (wrap64 (7 + (ji7))))) - ji3))) else (frame_Len.l0 k1 (wrap64 ((wrap64 (x0_1 + t137)) + (wrap64 (7 + (ji7))))) (wrap64 (x1_1 - (ji7))) ji3)) = some r := by first | (rw [hji7] at H; exact H) | (simp only [hji7] at H ⊢; exact H)
      (try rw [hji7] at A5)
      (try rw [hji7] at A6)
      have hji7_ : (if x1_1 < (wrap64 (t138 - 7)) then x1_1 else (wrap64 (t138 - 7))) = ji7 := hji7
      by_cases c8 : (wrap64 (x1_1 - (ji7))) = 0
      · rw [if_pos c8] at H
        have c8b0 : ((wrap64 (x1_1 - (ji7))) == 0) = true := beq_iff_eq.mpr c8
        have c8b1 : ((wrap64 (x1_1 - (ji7))) != 0) = false := bne_eq_false_iff_eq.mpr c8
        clear c8
        obtain rfl := Option.some.inj H
        go_wp2_with (first | ((with_reducible refine gate_callee (f := 77) rfl ?_); refine goesL_ (some 14) rfl rfl Tryd.func77 (by kernel_rfl) rfl #[.int .i64 x0_1] rfl (by (try simp only [List.map_toArray, List.map_cons, List.map_nil]); first | done | rfl | (simp only [List.length_drop, List.length_take]; rfl)) ?_; (with_reducible refine (frame_pad.calls x0_1 t137 _ A5.out).mono ?_); rintro e w' ⟨rfl, ⟨nd, rfl⟩⟩; refine ⟨_, rfl, ?_⟩) | ((with_reducible refine gate_callee (f := 80) rfl ?_); refine goesL_ (some 17) rfl rfl Tryd.func80 (by kernel_rfl) rfl #[.int .i64 (wrap64 (x0_1 + t137))] rfl (by (try simp only [List.map_toArray, List.map_cons, List.map_nil]); first | done | rfl | (simp only [List.length_drop, List.length_take]; rfl)) ?_; (with_reducible refine (frame_left.calls (wrap64 (x0_1 + t137)) t138 _ A6.out).mono ?_); rintro e w' ⟨rfl, ⟨nd, rfl⟩⟩; refine ⟨_, rfl, ?_⟩))
        go_ret
        exact ⟨by first | rfl | (simp [errW_none, errW_some] <;> rfl) | (simp only [← hji3, ← hji4, ← hji7]; first | rfl | (simp [errW_none, errW_some] <;> rfl)) | (simp [*, errW_none, errW_some] <;> rfl), by repeat (first | (with_reducible first | exact HB.out | apply below_alloc | apply pw_below_drewN | apply below_drew1) | exact HB.out)⟩
      · rw [if_neg c8] at H
        have c8b0 : ((wrap64 (x1_1 - (ji7))) == 0) = false := beq_eq_false_iff_ne.mpr c8
        have c8b1 : ((wrap64 (x1_1 - (ji7))) != 0) = true := bne_iff_ne.mpr c8
        have H' := Aside0.mk H
        clear H
        go_wp2_with (first | ((with_reducible refine gate_callee (f := 77) rfl ?_); refine goesL_ (some 14) rfl rfl Tryd.func77 (by kernel_rfl) rfl #[.int .i64 x0_1] rfl (by (try simp only [List.map_toArray, List.map_cons, List.map_nil]); first | done | rfl | (simp only [List.length_drop, List.length_take]; rfl)) ?_; (with_reducible refine (frame_pad.calls x0_1 t137 _ A5.out).mono ?_); rintro e w' ⟨rfl, ⟨nd, rfl⟩⟩; refine ⟨_, rfl, ?_⟩) | ((with_reducible refine gate_callee (f := 80) rfl ?_); refine goesL_ (some 17) rfl rfl Tryd.func80 (by kernel_rfl) rfl #[.int .i64 (wrap64 (x0_1 + t137))] rfl (by (try simp only [List.map_toArray, List.map_cons, List.map_nil]); first | done | rfl | (simp only [List.length_drop, List.length_take]; rfl)) ?_; (with_reducible refine (frame_left.calls (wrap64 (x0_1 + t137)) t138 _ A6.out).mono ?_); rintro e w' ⟨rfl, ⟨nd, rfl⟩⟩; refine ⟨_, rfl, ?_⟩))
        go_roundg k1
        case measure => have := HK1.out; omega
        case rel => exact ⟨(wrap64 ((wrap64 (x0_1 + t137)) + (wrap64 (7 + (ji7))))), (wrap64 (x1_1 - (ji7))), (by first | rfl | (simp; done) | (simp only [← hji7] <;> (first | rfl | simp)) | (simp [*]; done)), (by first | rfl | (simp; done) | (simp only [← hji7] <;> (first | rfl | simp)) | (simp [*]; done)), (by first | exact H' | (rw [hji7]; exact H')), ⟨by have := HK1.out; omega⟩, ⟨by repeat (first | (with_reducible first | exact HB.out | apply below_alloc | apply pw_below_drewN | apply below_drew1) | exact HB.out)⟩⟩
end Go.Proofs.YteilnbnnhocciaaDoor.KF

/-! KG2 -/
namespace Go.Proofs.YteilnbnnhocciaaDoor.KF
open Go.RowKit Go.Proofs.YteilnbnnhocciaaDoorW.PrintWords Go.Proofs.YteilnbnnhocciaaDoorW.PrintLast Go.Proofs.YteilnbnnhocciaaDoorW.PrintMore Go.Proofs.YteilnbnnhocciaaDoorM
set_option linter.unusedVariables false
set_option linter.unusedSimpArgs false
def hiS : ByteArray := ⟨#[104, 105]⟩
theorem awake_lay : frame_Lay.f 3 0 hiS = some ⟨#[139, 110, 172, 224, 2, 0, 1, 104, 105]⟩ := by decide +kernel
theorem awake_recs : recs 5 ⟨#[139, 110, 172, 224, 2, 0, 1, 104, 105]⟩ 5 0 = some [(hiS, 9)] := by decide +kernel
set_option maxHeartbeats 2000000 in
set_option maxRecDepth 100000 in
theorem bourselaw05_awake.calls (w : World) : Calls Tryd.prog 24 #[] w fun e w' => e = .returned (.bool true) ∧ Below w.heap.size w w' := by
  have H1 := Hush.mk awake_lay
  have H2 := Hush.mk awake_recs
  go_enter Tryd.func24, Tryd.ntmps24
  go_wp2_with fail
  refine (frame_Lay.calls 3 _ _ _ _ H1.out).mono ?_
  rintro e w1 ⟨rfl, hb1⟩
  have he : ((⟨#[139, 110, 172, 224, 2, 0, 1, 104, 105]⟩ : ByteArray).extract 4 9).toList = [2, 0, 1, 104, 105] := by decide +kernel
  go_wp2_with fail
  refine (frame_Whole.calls 5 5 _ _ _ H2.out).mono ?_
  rintro e w2 ⟨rfl, hb2⟩
  go_wp2
  go_ret
  exact ⟨rfl, hb1.trans (hb2.mono hb1.size)⟩
def bourselaw05_FrameLays.f (k : Nat) (a0 : Int) (a1 : ByteArray) : Option Bool :=
  if (a1.size : Int) > 3000 then some true else if a0 > 1073741824 then some true else
  (frame_Lay.f k a0 a1).bind fun x => (bourseref05_Lay.f k a0 a1).bind fun y =>
    if x.toList = y.toList then (frame_Len.f k a0 (a1.size : Int)).bind fun n => some (n == (y.size : Int)) else some false
set_option maxHeartbeats 2000000 in
set_option maxRecDepth 100000 in
theorem bourselaw05_FrameLays.calls (k : Nat) (a0 : Int) (a1 : ByteArray) (r : Bool) (w : World) (h : bourselaw05_FrameLays.f k a0 a1 = some r) :
    Calls Tryd.prog 8 #[.int .i64 a0, .string a1] w fun e w' => e = .returned (.bool r) ∧ Below w.heap.size w w' := by
  unfold bourselaw05_FrameLays.f at h
  by_cases c1 : (a1.size : Int) > 3000
  · rw [if_pos c1] at h
    obtain rfl := Option.some.inj h
    have c1' := decide_eq_true c1
    go_enter Tryd.func8, Tryd.ntmps8
    go_wp2_with fail
    refine (bourselaw05_awake.calls _).mono ?_
    rintro e w1 ⟨rfl, hb1⟩
    go_wp2_with fail
    go_ret
    exact ⟨rfl, hb1⟩
  rw [if_neg c1] at h
  by_cases c2 : a0 > 1073741824
  · rw [if_pos c2] at h
    obtain rfl := Option.some.inj h
    have c1' := decide_eq_false c1
    have c2' := decide_eq_true c2
    go_enter Tryd.func8, Tryd.ntmps8
    go_wp2_with fail
    refine (bourselaw05_awake.calls _).mono ?_
    rintro e w1 ⟨rfl, hb1⟩
    go_wp2_with fail
    go_ret
    exact ⟨rfl, hb1⟩
  rw [if_neg c2] at h
  obtain ⟨x, hx, h⟩ := Option.bind_eq_some_iff.mp h
  obtain ⟨y, hy, h⟩ := Option.bind_eq_some_iff.mp h
  have H1 := Hush.mk hx
  have H2 := Hush.mk hy
  clear hx hy
  have c1' := decide_eq_false c1
  have c2' := decide_eq_false c2
  by_cases c3 : x.toList = y.toList
  · rw [if_pos c3] at h
    obtain ⟨n, hn, h⟩ := Option.bind_eq_some_iff.mp h
    obtain rfl := Option.some.inj h
    have H3 := Hush.mk hn
    clear hn h
    go_enter Tryd.func8, Tryd.ntmps8
    go_wp2_with fail
    refine (bourselaw05_awake.calls _).mono ?_
    rintro e w1 ⟨rfl, hb1⟩
    go_wp2_with fail
    refine (frame_Lay.calls k _ _ _ _ H1.out).mono ?_
    rintro e w2 ⟨rfl, hb2⟩
    go_wp2_with fail
    refine (bourseref05_Lay.calls k _ _ _ _ H2.out).mono ?_
    rintro e w3 ⟨rfl, hb3⟩
    have c4 : (x.toList == y.toList) = true := by simpa using c3
    go_wp2_with fail
    refine (frame_Len.calls k _ _ _ _ H3.out).mono ?_
    rintro e w4 ⟨rfl, hb4⟩
    go_wp2_with fail
    refine (bourseref05_Lay.calls k _ _ _ _ H2.out).mono ?_
    rintro e w5 ⟨rfl, hb5⟩
    go_wp2
    go_ret
    have h3 := hb1.trans (hb2.mono hb1.size)
    have h4 := h3.trans (hb3.mono h3.size)
    have h5 := h4.trans (hb4.mono h4.size)
    exact ⟨rfl, h5.trans (hb5.mono h5.size)⟩
  · rw [if_neg c3] at h
    obtain rfl := Option.some.inj h
    clear h
    go_enter Tryd.func8, Tryd.ntmps8
    go_wp2_with fail
    refine (bourselaw05_awake.calls _).mono ?_
    rintro e w1 ⟨rfl, hb1⟩
    go_wp2_with fail
    refine (frame_Lay.calls k _ _ _ _ H1.out).mono ?_
    rintro e w2 ⟨rfl, hb2⟩
    go_wp2_with fail
    refine (bourseref05_Lay.calls k _ _ _ _ H2.out).mono ?_
    rintro e w3 ⟨rfl, hb3⟩
    have c4 : (x.toList == y.toList) = false := by simpa using c3
    go_wp2
    go_ret
    have h3 := hb1.trans (hb2.mono hb1.size)
    exact ⟨rfl, h3.trans (hb3.mono h3.size)⟩
end Go.Proofs.YteilnbnnhocciaaDoor.KF

/-! KP1 -/
set_option linter.unusedVariables false
namespace Go.Proofs.YteilnbnnhocciaaDoor.P
open Go.RowKit Go.Proofs.YteilnbnnhocciaaDoorW.PrintWords Go.Proofs.YteilnbnnhocciaaDoorW.PrintLast Go.Proofs.YteilnbnnhocciaaDoorW.PrintMore Go.Proofs.YteilnbnnhocciaaDoorM Go.Proofs.YteilnbnnhocciaaDoor.KF
def B (l : List UInt8) : ByteArray := ⟨l.toArray⟩
theorem B_app (l m : List UInt8) : B l ++ B m = B (l ++ m) := ByteArray.mk_append_mk l m
theorem B_size (l : List UInt8) : (B l).size = l.length := by simp [B, ByteArray.size]
theorem B_data (l : List UInt8) : (B l).data.toList = l := rfl
theorem list_ext {s t : ByteArray} (h : s.data.toList = t.data.toList) : s = t := by
  cases s with | mk a => cases t with | mk b => congr 1; exact Array.toList_inj.1 h
theorem B_of (s : ByteArray) : s = B s.data.toList := list_ext rfl
theorem B_ext (l : List UInt8) (i j : Nat) (h : j ≤ l.length) : (B l).extract i j = B ((l.take j).drop i) := by
  apply list_ext
  rw [ByteArray.data_extract, Array.toList_extract, B_data, B_data]
  simp only [List.extract, List.drop_take]
theorem tl (s : ByteArray) : s.toList = s.data.toList := by rw [ByteArray.toList_eq]
theorem wrap_in {n : Int} (h1 : -9223372036854775808 ≤ n) (h2 : n ≤ 9223372036854775807) : wrap64 n = n := IntWalk.wrap64_in n ⟨by omega, by omega⟩
theorem toNat_of {n : Nat} (h : n < 256) : (UInt8.ofNat n).toNat = n := by simp [UInt8.toNat_ofNat']; omega
theorem ofNat_mod (n : Nat) : UInt8.ofNat (n % 256) = UInt8.ofNat n := by
  apply UInt8.toNat_inj.1
  simp [UInt8.toNat_ofNat']
theorem ofNat_toNat (c : UInt8) : UInt8.ofNat c.toNat = c := by simp
def crcL (l : List UInt8) : Nat := 4294967295 - crc_go 4294967295 l
def maskN (n : Nat) : Nat := ((n / 32768 ||| (n * 131072) % 4294967296) + 2726488792) % 4294967296
def le : Nat → Nat → List UInt8
  | 0, _ => []
  | m + 1, n => UInt8.ofNat n :: le m (n / 256)
theorem le_len (m n : Nat) : (le m n).length = m := by
  induction m generalizing n with
  | zero => rfl
  | succ m ih => simp [le, ih]
def sumL (kd : Nat) (s : List UInt8) : List UInt8 := le 4 (maskN (crcL (UInt8.ofNat kd :: s)))
def pieceL (kd : Nat) (s : List UInt8) : List UInt8 := sumL kd s ++ (le 2 s.length ++ (UInt8.ofNat kd :: s))
theorem sumL_len (kd : Nat) (s : List UInt8) : (sumL kd s).length = 4 := le_len _ _
theorem pieceL_len (kd : Nat) (s : List UInt8) : (pieceL kd s).length = 7 + s.length := by simp [pieceL, sumL_len, le_len]; omega
theorem maskN_lt (n : Nat) : maskN n < 4294967296 := Nat.mod_lt _ (by decide)
theorem crcL_lt (l : List UInt8) : crcL l < 4294967296 := by unfold crcL; omega
theorem one_B (kd : Nat) : strOfNums [(kd : Int)] = B [UInt8.ofNat kd] := list_ext (by rw [strOfNums_data]; simp [B])
theorem mask_f (n : Nat) (h : n < 4294967296) : crc_Mask.f (n : Int) = some (maskN n : Int) := by
  unfold crc_Mask.f
  have e1 : (n : Int) / 32768 = ((n / 32768 : Nat) : Int) := by omega
  have e2 : (n : Int) * 131072 % 4294967296 = ((n * 131072 % 4294967296 : Nat) : Int) := by omega
  rw [e1, e2, u32_or_nat _ _ (by omega) (by omega)]
  unfold maskN
  congr 1
theorem sum_f (kd : Nat) (hk : kd < 256) (s : List UInt8) (hs : s.length ≤ 1000000000) : frame_sum.f (kd : Int) (B s) = some (maskN (crcL (UInt8.ofNat kd :: s)) : Int) := by
  unfold frame_sum.f
  simp only [Option.bind_some]
  rw [one_B, B_app, B_size, B_size, if_pos (by simp; omega)]
  unfold crc_Of.f crc_Add.f
  rw [if_pos ⟨by omega, by omega, by rw [B_size]; simp; omega⟩]
  simp only [Option.bind_some]
  exact congrArg (fun x => Option.bind x fun t => some t) (mask_f _ (crcL_lt _))
theorem u64w (n : Nat) (h : n < 18446744073709551616) : IntKind.u64.wrap (n : Int) = (n : Int) := by show (n : Int) % 18446744073709551616 = _; omega
theorem fixed_f (n : Nat) (h : n < 4294967296) : varint_Fixed.f 9 (n : Int) = some (B (le 4 n)) := by
  unfold varint_Fixed.f varint_little.f
  have e0 : IntKind.u64.wrap (n : Int) = (n : Int) := u64w n (by omega)
  rw [e0]
  simp [varint_little.l0, wrap64, shr, IntKind.bits]
  apply list_ext
  rw [strOfNums_data, B_data]
  simp [le]
  refine ⟨?_, ?_, ?_, ?_⟩ <;> (apply UInt8.toNat_inj.1; simp [UInt8.toNat_ofNat']; omega)
theorem le2_ofNat (n : Nat) : le 2 n = [UInt8.ofNat n, UInt8.ofNat (n / 256)] := rfl
theorem piece_f (kd : Nat) (hk : kd < 256) (s : List UInt8) (hs : s.length ≤ 65535) : frame_piece.f 9 (kd : Int) (B s) = some (B (pieceL kd s)) := by
  unfold frame_piece.f
  rw [sum_f kd hk s (by omega)]
  simp only [Option.bind_some]
  rw [fixed_f _ (maskN_lt _)]
  simp only [Option.bind_some]
  have e : strOfNums [((B s).size : Int) % 256, ((B s).size : Int) / 256 % 256, (kd : Int)] = B (le 2 s.length ++ [UInt8.ofNat kd]) := by
    apply list_ext
    rw [strOfNums_data, B_data, B_size, le2_ofNat]
    simp
    refine ⟨?_, ?_⟩ <;> (apply UInt8.toNat_inj.1; simp [UInt8.toNat_ofNat']; omega)
  rw [e, B_app, B_app, B_size, B_size, B_size, B_size]
  rw [if_pos (by simp [le_len]), if_pos (by simp [le_len]; omega)]
  refine congrArg some (congrArg B ?_)
  simp [pieceL, sumL]
def kindN (bg en : Bool) : Nat := if bg then (if en then 1 else 2) else if en then 4 else 3
theorem kind_f (bg en : Bool) : frame_kind.f 5 bg en = some (kindN bg en : Int) := by cases bg <;> cases en <;> rfl
theorem kindN_lt (bg en : Bool) : kindN bg en < 256 := by cases bg <;> cases en <;> decide
def steps : Nat → Nat → Nat
  | 0, n => n
  | d + 1, n => steps d (crc_step n)
theorem byte_l : ∀ (d k i n : Nat), i + d = 8 → d < k → n < 4294967296 → bourseref01_Byte.l0 k (n : Int) (i : Int) = some (steps d n : Int)
  | 0, k + 1, i, n, hi, hk, hn => by
    unfold bourseref01_Byte.l0
    rw [if_neg (by omega)]
    rfl
  | d + 1, k + 1, i, n, hi, hk, hn => by
    unfold bourseref01_Byte.l0
    rw [if_pos (by omega)]
    have e1 : Int.tmod (n : Int) 2 = ((n % 2 : Nat) : Int) := by rw [Int.tmod_eq_emod_of_nonneg (by omega)]; omega
    have e2 : Int.tdiv (n : Int) 2 % 4294967296 = ((n / 2 : Nat) : Int) := by rw [Int.tdiv_eq_ediv_of_nonneg (by omega)]; omega
    rw [e1, e2, wrap_in (by omega) (by omega)]
    have hu : Go.bits .xor .u32 ((n / 2 : Nat) : Int) 2197175160 = ((n / 2 ^^^ 2197175160 : Nat) : Int) := u32_xor_nat (n / 2) 2197175160 (by omega) (by decide)
    have e3 : (i : Int) + 1 = ((i + 1 : Nat) : Int) := by omega
    have hst := crc_step_lt hn
    rw [hu, e3]
    by_cases h : n % 2 = 1
    · have hs : crc_step n = n / 2 ^^^ 2197175160 := by unfold crc_step; rw [if_pos h]
      rw [if_pos (by omega), ← hs, byte_l d k (i + 1) _ (by omega) (by omega) hst]
      rfl
    · have hs : crc_step n = n / 2 := by unfold crc_step; rw [if_neg h]
      rw [if_neg (by omega), ← hs, byte_l d k (i + 1) _ (by omega) (by omega) hst]
      rfl
theorem byte_f (k n : Nat) (hk : 9 ≤ k) (hn : n < 4294967296) : bourseref01_Byte.f k (n : Int) = some (crc_byte n : Int) := by
  unfold bourseref01_Byte.f
  exact byte_l 8 k 0 n rfl (by omega) hn
theorem bt_of (s : List UInt8) (i : Nat) (h : i < s.length) : bt (B s) (i : Int) = (s[i].toNat : Int) := by
  unfold bt
  rw [dif_pos (by rw [B_size]; exact h)]
  simp [B, ByteArray.getElem_eq_getElem_data]
theorem add_l : ∀ (d k i n : Nat) (s : List UInt8), i + d = s.length → d + 10 ≤ k → n < 4294967296 → s.length ≤ 9223372036854775807 → bourseref01_Add.l0 k (n : Int) (B s) (i : Int) = some ((4294967295 - crc_go n (s.drop i) : Nat) : Int)
  | 0, k + 1, i, n, s, hi, hk, hn, hs => by
    unfold bourseref01_Add.l0
    rw [B_size, if_neg (by omega), List.drop_of_length_le (by omega), crc_go]
    have := hn
    congr 1
    omega
  | d + 1, k + 1, i, n, s, hi, hk, hn, hs => by
    unfold bourseref01_Add.l0
    have hlt : i < s.length := by omega
    have hc := UInt8.toNat_lt s[i]
    have e1 : Int.tmod (n : Int) 256 = ((n % 256 : Nat) : Int) := by rw [Int.tmod_eq_emod_of_nonneg (by omega)]; omega
    have e2 : Int.tdiv (n : Int) 256 % 4294967296 = ((n / 256 : Nat) : Int) := by rw [Int.tdiv_eq_ediv_of_nonneg (by omega)]; omega
    have e4 : (s[i].toNat : Int) % 4294967296 = (s[i].toNat : Int) := by omega
    rw [B_size, if_pos (by omega), if_pos (by omega), bt_of s i hlt, e1, e2, e4, u32_xor_nat _ _ (by omega) (by omega)]
    have hx : n % 256 ^^^ s[i].toNat < 4294967296 := Nat.xor_lt_two_pow (n := 32) (by omega) (by omega)
    rw [byte_f k _ (by omega) hx]
    simp only [Option.bind_some]
    rw [u32_xor_nat _ _ (crc_byte_lt hx) (by omega), wrap_in (by omega) (by omega)]
    have e3 : (i : Int) + 1 = ((i + 1 : Nat) : Int) := by omega
    rw [e3, add_l d k (i + 1) _ s (by omega) (by omega) (Nat.xor_lt_two_pow (n := 32) (crc_byte_lt hx) (by omega)) hs]
    rw [List.drop_eq_getElem_cons hlt, crc_go]
theorem of_f (k : Nat) (s : List UInt8) (hk : s.length + 10 ≤ k) (hs : s.length ≤ 9223372036854775807) : bourseref01_Of.f k (B s) = some (crcL s : Int) := by
  unfold bourseref01_Of.f bourseref01_Add.f
  have e := add_l s.length k 0 4294967295 s (by omega) hk (by decide) hs
  rw [show ((4294967295 - 0 : Int) % 4294967296) = ((4294967295 : Nat) : Int) from rfl, show (0 : Int) = ((0 : Nat) : Int) from rfl, e]
  simp [crcL]
theorem or_low (a b : Nat) (ha : a < 131072) : a ||| (b * 131072) = a + b * 131072 := by
  rw [Nat.or_comm, show b * 131072 = 2 ^ 17 * b from by omega, ← Nat.two_pow_add_eq_or_of_lt (i := 17) (by simpa using ha)]
  omega
theorem mask_r (n : Nat) (h : n < 4294967296) : bourseref01_Mask.f (n : Int) = some (maskN n : Int) := by
  unfold bourseref01_Mask.f
  have e1 : Int.tmod (n : Int) 32768 = ((n % 32768 : Nat) : Int) := by rw [Int.tmod_eq_emod_of_nonneg (by omega)]; omega
  have e2 : Int.tdiv (n : Int) 32768 % 4294967296 = ((n / 32768 : Nat) : Int) := by rw [Int.tdiv_eq_ediv_of_nonneg (by omega)]; omega
  have e3 : ((n % 32768 : Nat) : Int) * 131072 = ((n % 32768 * 131072 : Nat) : Int) := by omega
  have e5 : n * 131072 % 4294967296 = n % 32768 * 131072 := by omega
  rw [e1, e2, u64w _ (by omega), e3, u64w _ (by omega)]
  rw [show ((n / 32768 : Nat) : Int) + ((n % 32768 * 131072 : Nat) : Int) = ((n / 32768 + n % 32768 * 131072 : Nat) : Int) from by omega, u64w _ (by omega)]
  rw [show ((n / 32768 + n % 32768 * 131072 : Nat) : Int) + 2726488792 = ((n / 32768 + n % 32768 * 131072 + 2726488792 : Nat) : Int) from by omega, u64w _ (by omega)]
  rw [Int.tmod_eq_emod_of_nonneg (by omega)]
  unfold maskN
  rw [e5, or_low _ _ (by omega)]
  refine congrArg some ?_
  omega
theorem little_l : ∀ (d k i n m : Nat) (acc : List UInt8), i + d = m → d < k → m ≤ 100 → acc.length ≤ i → n < 18446744073709551616 → bourseref03_Little.l0 k (n : Int) (m : Int) (B acc) (i : Int) = some (B (acc ++ le d n))
  | 0, k + 1, i, n, m, acc, hi, hk, hm, ha, hn => by
    unfold bourseref03_Little.l0
    rw [if_neg (by omega)]
    simp [le]
  | d + 1, k + 1, i, n, m, acc, hi, hk, hm, ha, hn => by
    unfold bourseref03_Little.l0
    have e1 : Int.tmod (n : Int) 256 % 256 = ((n % 256 : Nat) : Int) := by rw [Int.tmod_eq_emod_of_nonneg (by omega)]; omega
    have e2 : Int.tdiv (n : Int) 256 = ((n / 256 : Nat) : Int) := by rw [Int.tdiv_eq_ediv_of_nonneg (by omega)]; omega
    rw [if_pos (by omega)]
    simp only [Option.bind_some]
    rw [e1, e2, one_B, B_size, B_size, if_pos (by simp; omega), B_app, u64w _ (by omega), wrap_in (by omega) (by omega)]
    have e3 : (i : Int) + 1 = ((i + 1 : Nat) : Int) := by omega
    rw [e3, little_l d k (i + 1) (n / 256) m _ (by omega) (by omega) hm (by simp; omega) (by omega), ofNat_mod]
    simp [le]
theorem little_f (k m n : Nat) (hk : m < k) (hm : m ≤ 100) (hn : n < 18446744073709551616) : bourseref03_Little.f k (n : Int) (m : Int) = some (B (le m n)) := by
  unfold bourseref03_Little.f
  exact little_l m k 0 n m [] (by omega) hk hm (Nat.le_refl _) hn
theorem sum_r (k kd : Nat) (hd : kd < 256) (s : List UInt8) (hs : s.length ≤ 1000000000) (hk : s.length + 20 ≤ k) : bourseref05_sum.f k (kd : Int) (B s) = some (B (sumL kd s)) := by
  unfold bourseref05_sum.f
  simp only [Option.bind_some]
  rw [one_B, B_app, B_size, B_size, if_pos (by simp; omega), of_f k _ (by simp; omega) (by simp; omega)]
  simp only [Option.bind_some]
  have hm := mask_r (crcL ([UInt8.ofNat kd] ++ s)) (crcL_lt _)
  rw [hm]
  simp only [Option.bind_some]
  have hl := maskN_lt (crcL ([UInt8.ofNat kd] ++ s))
  rw [u64w _ (by omega)]
  have h4 := little_f k 4 (maskN (crcL ([UInt8.ofNat kd] ++ s))) (by omega) (by omega) (by omega)
  exact congrArg (fun x => Option.bind x fun t => some t) h4
end Go.Proofs.YteilnbnnhocciaaDoor.P

/-! KP2 -/
set_option linter.unusedVariables false
namespace Go.Proofs.YteilnbnnhocciaaDoor.P
open Go.RowKit Go.Proofs.YteilnbnnhocciaaDoorW.PrintWords Go.Proofs.YteilnbnnhocciaaDoorW.PrintLast Go.Proofs.YteilnbnnhocciaaDoorW.PrintMore Go.Proofs.YteilnbnnhocciaaDoorM Go.Proofs.YteilnbnnhocciaaDoor.KF
def roomN (a : Nat) : Nat := 512 - a % 512
def padN (a : Nat) : Nat := if roomN a < 7 then roomN a else 0
def spaceN (a : Nat) : Nat := roomN (a + padN a) - 7
theorem room_padded (a : Nat) : 7 ≤ roomN (a + padN a) ∧ roomN (a + padN a) ≤ 512 := by
  unfold padN roomN
  split <;> omega
theorem padN_lt (a : Nat) : padN a < 7 := by unfold padN; split <;> omega
inductive Lays : Nat → List UInt8 → Bool → List UInt8 → Prop
  | last (a : Nat) (rc : List UInt8) (bg : Bool) : rc.length ≤ spaceN a → Lays a rc bg (List.replicate (padN a) 0 ++ pieceL (kindN bg true) rc)
  | more (a : Nat) (rc : List UInt8) (bg : Bool) (out : List UInt8) : spaceN a < rc.length → Lays (a + padN a + (7 + spaceN a)) (rc.drop (spaceN a)) false out →
      Lays a rc bg (List.replicate (padN a) 0 ++ (pieceL (kindN bg false) (rc.take (spaceN a)) ++ out))
theorem lays_ex : ∀ (m a : Nat) (rc : List UInt8) (bg : Bool), 2 * rc.length + (if spaceN a = 0 then 1 else 0) ≤ m → ∃ out, Lays a rc bg out ∧ out.length ≤ rc.length + 13 * (m + 1)
  | m, a, rc, bg, hm => by
    have hp := padN_lt a
    by_cases h : rc.length ≤ spaceN a
    · exact ⟨_, .last a rc bg h, by simp [pieceL_len]; omega⟩
    · have hlt : spaceN a < rc.length := by omega
      cases m with
      | zero => omega
      | succ m =>
        have hr := room_padded a
        obtain ⟨out, ho, hl⟩ := lays_ex m (a + padN a + (7 + spaceN a)) (rc.drop (spaceN a)) false (by
          simp only [List.length_drop]
          by_cases hz : spaceN a = 0
          · have : spaceN (a + padN a + (7 + spaceN a)) ≠ 0 := by
              unfold spaceN at hz ⊢
              rw [hz]
              have e : (a + padN a) % 512 = 505 := by unfold roomN at hz hr; omega
              have e2 : (a + padN a + (7 + 0)) % 512 = 0 := by omega
              generalize a + padN a + (7 + 0) = b at e2
              have e3 : padN b = 0 := by unfold padN roomN; rw [e2]; rfl
              rw [e3]
              unfold roomN
              omega
            rw [if_neg this]
            rw [if_pos hz] at hm
            omega
          · rw [if_neg hz] at hm
            split <;> omega)
        refine ⟨_, .more a rc bg out hlt ho, ?_⟩
        simp only [List.length_append, List.length_replicate, pieceL_len, List.length_take, List.length_drop] at hl ⊢
        omega
theorem left_f (a : Nat) (h : a ≤ 1000000000000) : frame_left.f (a : Int) = some (roomN a : Int) := by
  unfold frame_left.f roomN
  rw [Int.tmod_eq_emod_of_nonneg (by omega), wrap_in (by omega) (by omega)]
  refine congrArg some ?_
  omega
theorem room_f (a : Nat) (h : a ≤ 1000000000000) : bourseref05_room.f (a : Int) = some (roomN a : Int) := left_f a h
theorem pad_f (a : Nat) (h : a ≤ 1000000000000) : frame_pad.f (a : Int) = some (padN a : Int) := by
  unfold frame_pad.f
  rw [left_f a h]
  simp only [Option.bind_some]
  unfold padN
  by_cases h7 : roomN a < 7
  · rw [if_pos (by omega), if_pos h7]
  · rw [if_neg (by omega), if_neg h7]; rfl
theorem zeros_f (p : Nat) : frame_Lay.zeros (p : Int) = B (List.replicate p 0) := by
  apply list_ext
  unfold frame_Lay.zeros
  rw [B_data]
  simp only [Int.toNat_natCast]
  induction p with
  | zero => rfl
  | succ p ih => simp [Lib.repeatL, List.replicate_succ] at ih ⊢; exact ih
theorem step_fits {a : Nat} {rc : List UInt8} : (spaceN a : Int) = wrap64 ((roomN (a + padN a) : Int) - 7) := by
  have hr := room_padded a
  rw [wrap_in (by omega) (by omega)]
  unfold spaceN
  omega
theorem lay_p {a : Nat} {rc : List UInt8} {bg : Bool} {out : List UInt8} (h : Lays a rc bg out) : ∀ acc : List UInt8, a + out.length ≤ 1000000000000 → acc.length + out.length ≤ 100000000000000 →
    ∃ K, ∀ k, K ≤ k → frame_Lay.l k (a : Int) (B rc) bg (B acc) = some (B (acc ++ out)) := by
  induction h with
  | last a rc bg h =>
    intro acc h1 h2
    refine ⟨1, fun k hk => ?_⟩
    obtain ⟨k, rfl⟩ : ∃ k', k = k' + 1 := ⟨k - 1, by omega⟩
    have hp := padN_lt a
    have hr := room_padded a
    simp only [List.length_append, List.length_replicate, pieceL_len] at h1 h2
    have hn : frame_Lay.n (roomN (a + padN a) : Int) (B rc) = (rc.length : Int) := by
      unfold frame_Lay.n mn
      rw [← step_fits (rc := rc), B_size]
      split <;> omega
    unfold frame_Lay.l
    rw [pad_f a (by omega)]
    simp only [Option.bind_some]
    rw [wrap_in (by omega) (by omega), show (a : Int) + (padN a : Int) = ((a + padN a : Nat) : Int) from by omega, left_f _ (by omega)]
    simp only [Option.bind_some, hn, B_size]
    rw [if_pos (by omega), beq_self_eq_true, kind_f]
    simp only [Option.bind_some, Int.toNat_natCast]
    rw [B_ext _ _ _ (Nat.le_refl _), B_ext _ _ _ (Nat.le_refl _), List.take_length, List.drop_length, List.drop_zero, piece_f _ (kindN_lt _ _) _ (by unfold spaceN at h; omega)]
    simp only [Option.bind_some, zeros_f, B_app, B_size]
    rw [if_pos (by simp [pieceL_len]; omega), if_pos (by rw [tl]; rfl)]
    simp
  | more a rc bg out h ho ih =>
    intro acc h1 h2
    have hp := padN_lt a
    have hr := room_padded a
    simp only [List.length_append, List.length_replicate, pieceL_len] at h1 h2
    obtain ⟨K, hK⟩ := ih (acc ++ List.replicate (padN a) 0 ++ pieceL (kindN bg false) (rc.take (spaceN a))) (by simp only [List.length_take] at h1; omega) (by simp only [List.length_append, List.length_replicate, pieceL_len]; omega)
    refine ⟨K + 1, fun k hk => ?_⟩
    obtain ⟨k, rfl⟩ : ∃ k', k = k' + 1 := ⟨k - 1, by omega⟩
    have hn : frame_Lay.n (roomN (a + padN a) : Int) (B rc) = (spaceN a : Int) := by
      unfold frame_Lay.n mn
      rw [← step_fits (rc := rc), B_size]
      split <;> omega
    have hs : spaceN a ≤ 505 := by unfold spaceN; omega
    unfold frame_Lay.l
    rw [pad_f a (by omega)]
    simp only [Option.bind_some]
    rw [wrap_in (by omega) (by omega), show (a : Int) + (padN a : Int) = ((a + padN a : Nat) : Int) from by omega, left_f _ (by omega)]
    simp only [Option.bind_some, hn, B_size]
    rw [if_pos (by omega), show ((spaceN a : Int) == (rc.length : Int)) = false from by simp; omega, kind_f]
    simp only [Option.bind_some, Int.toNat_natCast]
    rw [B_ext _ _ _ (by omega), B_ext _ _ _ (Nat.le_refl _), List.take_length, List.drop_zero, piece_f _ (kindN_lt _ _) _ (by simp only [List.length_take]; omega)]
    simp only [Option.bind_some, zeros_f, B_app, B_size]
    rw [if_pos (by simp [pieceL_len]; simp only [List.length_take] at h2; omega), if_neg (by rw [tl, B_data]; intro e; have := congrArg List.length e; simp at this; omega)]
    rw [wrap_in (n := 7 + (spaceN a : Int)) (by omega) (by omega), wrap_in (by simp only [List.length_take] at h1; omega) (by simp only [List.length_take] at h1; omega),
      show ((a + padN a : Nat) : Int) + (7 + (spaceN a : Int)) = ((a + padN a + (7 + spaceN a) : Nat) : Int) from by omega, hK k (by omega)]
    simp
theorem zero_room (a d : Nat) (h : padN a = d + 1) : padN (a + 1) = d := by
  unfold padN roomN at h ⊢
  split at h
  · by_cases hd : d = 0
    · subst hd
      have : (a + 1) % 512 = 0 := by omega
      rw [this]; rfl
    · rw [if_pos (by omega)]; omega
  · omega
theorem pads_r : ∀ (d k x : Nat) (rc acc : List UInt8) (bg : Bool), padN (x + acc.length) = d → x + acc.length + d ≤ 1000000000000 → acc.length + d ≤ 100000000000000 →
    bourseref05_Lay.l1 (k + d) (x : Int) (B rc) (B acc) bg = bourseref05_Lay.l1 k (x : Int) (B rc) (B (acc ++ List.replicate d 0)) bg
  | 0, k, x, rc, acc, bg, h, h1, h2 => by simp
  | d + 1, k, x, rc, acc, bg, h, h1, h2 => by
    rw [show k + (d + 1) = (k + d) + 1 from by omega, bourseref05_Lay.l1, B_size]
    rw [wrap_in (by omega) (by omega), show (x : Int) + (acc.length : Int) = ((x + acc.length : Nat) : Int) from by omega, room_f _ (by omega)]
    simp only [Option.bind_some]
    have hr : roomN (x + acc.length) < 7 := by unfold padN at h; split at h <;> omega
    rw [if_pos (by omega), if_pos (by omega), show (⟨#[0]⟩ : ByteArray) = B [0] from rfl, B_app, pads_r d k x rc (acc ++ [0]) bg (by
      simp only [List.length_append, List.length_singleton]; rw [← Nat.add_assoc]; exact zero_room _ _ h) (by simp; omega) (by simp; omega)]
    simp [List.replicate_succ]
theorem lay_r {a : Nat} {rc : List UInt8} {bg : Bool} {out : List UInt8} (h : Lays a rc bg out) : ∀ (x : Nat) (acc : List UInt8), a = x + acc.length → a + out.length ≤ 1000000000000 →
    ∃ K, ∀ k, K ≤ k → bourseref05_Lay.l1 k (x : Int) (B rc) (B acc) bg = some (B (acc ++ out)) := by
  induction h with
  | last a rc bg h =>
    rintro x acc rfl h1
    refine ⟨rc.length + 50, fun k hk => ?_⟩
    obtain ⟨k, rfl⟩ : ∃ k', k = k' + 4 + padN (x + acc.length) := ⟨k - 4 - padN (x + acc.length), by have := padN_lt (x + acc.length); omega⟩
    have hp := padN_lt (x + acc.length)
    have hr := room_padded (x + acc.length)
    simp only [List.length_append, List.length_replicate, pieceL_len] at h1
    rw [pads_r _ _ _ _ _ _ rfl (by omega) (by omega)]
    generalize hP : padN (x + acc.length) = P at *
    have hS : spaceN (x + acc.length) = roomN (x + acc.length + P) - 7 := by rw [spaceN, hP]
    have hw : (spaceN (x + acc.length) : Int) = wrap64 ((roomN (x + acc.length + P) : Int) - 7) := by rw [step_fits (rc := rc), hP]
    rw [bourseref05_Lay.l1, B_size]
    simp only [List.length_append, List.length_replicate]
    rw [wrap_in (by omega) (by omega), show (x : Int) + ((acc.length + P : Nat) : Int) = ((x + acc.length + P : Nat) : Int) from by omega, room_f _ (by omega)]
    simp only [Option.bind_some]
    rw [if_neg (by omega), ← hw, B_size]
    have hj : ∀ K, bourseref05_Lay.j3 K x (B rc) (B (acc ++ List.replicate P 0)) bg (rc.length : Int) = (if (spaceN (x + acc.length) : Int) > (rc.length : Int) then bourseref05_Lay.j3 K x (B rc) (B (acc ++ List.replicate P 0)) bg (rc.length : Int) else bourseref05_Lay.j3 K x (B rc) (B (acc ++ List.replicate P 0)) bg (spaceN (x + acc.length) : Int)) := by
      intro K
      split
      · rfl
      · rw [show spaceN (x + acc.length) = rc.length from by omega]
    rw [← hj]
    have h5 : ∀ kd : Nat, kd = 1 ∨ kd = 4 → bourseref05_Lay.j5 (k + 1) x (B rc) (B (acc ++ List.replicate P 0)) (rc.length : Int) (kd : Int) = some (B (acc ++ (List.replicate P 0 ++ pieceL kd rc))) := by
      intro kd hkd
      rw [bourseref05_Lay.j5]
      rw [B_size, if_pos (by omega), if_pos (by omega)]
      simp only [Int.toNat_natCast]
      rw [B_ext _ _ _ (Nat.le_refl _), List.take_length, List.drop_zero, sum_r k kd (by omega) rc (by omega) (by omega)]
      simp only [Option.bind_some, B_app, B_size, one_B]
      rw [if_pos (by simp [sumL_len]; omega), u64w _ (by omega)]
      have h2 := little_f k 2 rc.length (by omega) (by omega) (by omega)
      rw [show ((2 : Nat) : Int) = 2 from rfl] at h2
      rw [h2]
      simp only [Option.bind_some, B_app, B_size, one_B]
      rw [if_pos (by simp [sumL_len, le_len]; omega), if_pos (by simp [sumL_len, le_len]; omega), if_pos (by simp [sumL_len, le_len]; omega)]
      have e : acc ++ List.replicate P 0 ++ sumL kd rc ++ le 2 rc.length ++ [UInt8.ofNat kd] ++ rc = acc ++ (List.replicate P 0 ++ pieceL kd rc) := by simp [pieceL]
      rw [e]
      rcases hkd with rfl | rfl
      · rw [if_pos (show ((1 : Nat) : Int) = 1 from rfl)]
      · rw [if_neg (by decide), if_pos (show ((4 : Nat) : Int) = 4 from rfl)]
    cases bg with
    | true =>
      rw [bourseref05_Lay.j3, if_pos rfl, B_size, beq_self_eq_true, bourseref05_Lay.j4, if_pos rfl]
      exact h5 1 (.inl rfl)
    | false =>
      rw [bourseref05_Lay.j3, if_neg (by decide), bourseref05_Lay.j4, if_neg (by decide), if_neg (by decide), B_size, if_pos rfl]
      exact h5 4 (.inr rfl)
  | more a rc bg out h ho ih =>
    rintro x acc rfl h1
    have hp := padN_lt (x + acc.length)
    have hr := room_padded (x + acc.length)
    generalize hP : padN (x + acc.length) = P at *
    generalize hS : spaceN (x + acc.length) = S at *
    have hS2 : S = roomN (x + acc.length + P) - 7 := by rw [← hS, spaceN, hP]
    simp only [List.length_append, List.length_replicate, pieceL_len, List.length_take] at h1
    obtain ⟨K, hK⟩ := ih x (acc ++ (List.replicate P 0 ++ pieceL (kindN bg false) (rc.take S))) (by simp only [List.length_append, List.length_replicate, pieceL_len, List.length_take]; omega) (by omega)
    refine ⟨K + rc.length + 50, fun k hk => ?_⟩
    obtain ⟨k, rfl⟩ : ∃ k', k = k' + 5 + P := ⟨k - 5 - P, by omega⟩
    rw [pads_r _ _ _ _ _ _ hP (by omega) (by omega)]
    have hw : (S : Int) = wrap64 ((roomN (x + acc.length + P) : Int) - 7) := by rw [← hS, step_fits (rc := rc), hP]
    rw [bourseref05_Lay.l1, B_size]
    simp only [List.length_append, List.length_replicate]
    rw [wrap_in (by omega) (by omega), show (x : Int) + ((acc.length + P : Nat) : Int) = ((x + acc.length + P : Nat) : Int) from by omega, room_f _ (by omega)]
    simp only [Option.bind_some]
    rw [if_neg (by omega), ← hw, B_size, if_neg (by omega)]
    have h5 : ∀ kd : Nat, kd = 2 ∨ kd = 3 → kd = kindN bg false → bourseref05_Lay.j5 (k + 2) x (B rc) (B (acc ++ List.replicate P 0)) (S : Int) (kd : Int) = some (B (acc ++ (List.replicate P 0 ++ (pieceL kd (rc.take S) ++ out)))) := by
      intro kd hkd hkb
      have hTl : (rc.take S).length = S := by rw [List.length_take]; omega
      rw [bourseref05_Lay.j5]
      rw [B_size, if_pos (by omega), if_pos (by omega)]
      simp only [Int.toNat_natCast]
      rw [B_ext _ _ _ (by omega), List.drop_zero, sum_r (k + 1) kd (by omega) (rc.take S) (by omega) (by omega)]
      simp only [Option.bind_some, B_app, B_size, one_B]
      rw [if_pos (by simp [sumL_len]; omega), u64w _ (by omega)]
      have h2 := little_f (k + 1) 2 S (by omega) (by omega) (by omega)
      rw [show ((2 : Nat) : Int) = 2 from rfl] at h2
      rw [h2]
      simp only [Option.bind_some, B_app, B_size, one_B]
      rw [if_pos (by simp [sumL_len, le_len]; omega), if_pos (by simp [sumL_len, le_len]; omega), if_pos (by simp [sumL_len, le_len]; omega)]
      rw [if_neg (by rcases hkd with rfl | rfl <;> decide), if_neg (by rcases hkd with rfl | rfl <;> decide)]
      have e : acc ++ List.replicate P 0 ++ sumL kd (rc.take S) ++ le 2 S ++ [UInt8.ofNat kd] ++ rc.take S = acc ++ (List.replicate P 0 ++ pieceL kd (rc.take S)) := by simp [pieceL, hTl]
      rw [e, B_ext _ _ _ (Nat.le_refl _), List.take_length, bourseref05_Lay.l0, hkb, hK k (by omega)]
      simp
    cases bg with
    | true =>
      rw [bourseref05_Lay.j3, if_pos rfl, B_size, show ((S : Int) == (rc.length : Int)) = false from by simp; omega, bourseref05_Lay.j4, if_neg (by decide), if_pos rfl]
      exact h5 2 (.inl rfl) rfl
    | false =>
      rw [bourseref05_Lay.j3, if_neg (by decide), bourseref05_Lay.j4, if_neg (by decide), if_neg (by decide), B_size, if_neg (by omega)]
      exact h5 3 (.inr rfl) rfl
theorem bind_of {α β : Type} {x : Option α} {f : α → Option β} {a : α} {r : Option β} (h : x = some a) (h2 : f a = r) : x.bind f = r := by rw [h]; exact h2
theorem len_p {a : Nat} {rc : List UInt8} {bg : Bool} {out : List UInt8} (h : Lays a rc bg out) : ∀ f : Nat, f ≤ a → a + out.length ≤ 1000000000000 → rc.length ≤ 1000000000000 →
    ∃ K, ∀ k, K ≤ k → frame_Len.l0 k (a : Int) (rc.length : Int) (f : Int) = some ((a + out.length - f : Nat) : Int) := by
  induction h with
  | last a rc bg h =>
    intro f hf h1 hrc
    refine ⟨1, fun k hk => ?_⟩
    obtain ⟨k, rfl⟩ : ∃ k', k = k' + 1 := ⟨k - 1, by omega⟩
    have hp := padN_lt a
    have hr := room_padded a
    simp only [List.length_append, List.length_replicate, pieceL_len] at h1
    have hn : mn (wrap64 ((roomN (a + padN a) : Int) - 7)) (rc.length : Int) = (rc.length : Int) := by
      unfold mn
      rw [← step_fits (rc := rc)]
      split <;> omega
    rw [frame_Len.l0]
    refine bind_of (pad_f a (by omega)) ?_
    rw [wrap_in (n := (a : Int) + (padN a : Int)) (by omega) (by omega), show (a : Int) + (padN a : Int) = ((a + padN a : Nat) : Int) from by omega]
    refine bind_of (left_f _ (by omega)) ?_
    rw [hn, if_pos (by rw [wrap_in (by omega) (by omega)]; omega), wrap_in (n := 7 + (rc.length : Int)) (by omega) (by omega), wrap_in (n := ((a + padN a : Nat) : Int) + (7 + (rc.length : Int))) (by omega) (by omega), wrap_in (by omega) (by omega)]
    refine congrArg some ?_
    simp only [List.length_append, List.length_replicate, pieceL_len]
    omega
  | more a rc bg out h ho ih =>
    intro f hf h1 hrc
    have hp := padN_lt a
    have hr := room_padded a
    simp only [List.length_append, List.length_replicate, pieceL_len, List.length_take] at h1
    obtain ⟨K, hK⟩ := ih f (by omega) (by omega) (by simp; omega)
    refine ⟨K + 1, fun k hk => ?_⟩
    obtain ⟨k, rfl⟩ : ∃ k', k = k' + 1 := ⟨k - 1, by omega⟩
    have hn : mn (wrap64 ((roomN (a + padN a) : Int) - 7)) (rc.length : Int) = (spaceN a : Int) := by
      unfold mn
      rw [← step_fits (rc := rc)]
      split <;> omega
    rw [frame_Len.l0]
    refine bind_of (pad_f a (by omega)) ?_
    rw [wrap_in (n := (a : Int) + (padN a : Int)) (by omega) (by omega), show (a : Int) + (padN a : Int) = ((a + padN a : Nat) : Int) from by omega]
    refine bind_of (left_f _ (by omega)) ?_
    rw [hn, if_neg (by rw [wrap_in (by omega) (by omega)]; omega), wrap_in (n := 7 + (spaceN a : Int)) (by omega) (by omega), wrap_in (n := ((a + padN a : Nat) : Int) + (7 + (spaceN a : Int))) (by omega) (by omega), wrap_in (by omega) (by omega)]
    rw [show ((a + padN a : Nat) : Int) + (7 + (spaceN a : Int)) = ((a + padN a + (7 + spaceN a) : Nat) : Int) from by omega, show (rc.length : Int) - (spaceN a : Int) = ((rc.drop (spaceN a)).length : Int) from by rw [List.length_drop]; omega, hK k (by omega)]
    refine congrArg some ?_
    simp only [List.length_append, List.length_replicate, pieceL_len, List.length_take, List.length_drop]
    omega
theorem mx0 (a : Int) : mx a 0 = (a.toNat : Int) := by unfold mx; split <;> omega
theorem lays_law (a : Int) (rc : ByteArray) : ∃ k, bourselaw05_FrameLays.f k a rc = some true := by
  unfold bourselaw05_FrameLays.f
  by_cases c1 : (rc.size : Int) > 3000
  · exact ⟨0, by rw [if_pos c1]⟩
  by_cases c2 : a > 1073741824
  · exact ⟨0, by rw [if_neg c1, if_pos c2]⟩
  simp only [if_neg c1, if_neg c2]
  rw [B_of rc] at c1 ⊢
  generalize rc.data.toList = l at c1 ⊢
  rw [B_size] at c1 ⊢
  obtain ⟨out, ho, hl⟩ := lays_ex _ a.toNat l true (Nat.le_refl _)
  have hb : a.toNat + out.length ≤ 1000000000000 := by split at hl <;> omega
  obtain ⟨K1, h1⟩ := lay_p ho [] hb (by simp; omega)
  obtain ⟨K2, h2⟩ := lay_r ho a.toNat [] rfl hb
  obtain ⟨K3, h3⟩ := len_p ho a.toNat (Nat.le_refl _) hb (by omega)
  refine ⟨K1 + K2 + K3 + 2, ?_⟩
  unfold frame_Lay.f
  rw [mx0, show (⟨#[]⟩ : ByteArray) = B [] from rfl, h1 _ (by omega)]
  simp only [Option.bind_some]
  have hr : bourseref05_Lay.f (K1 + K2 + K3 + 2) a (B l) = some (B ([] ++ out)) := by
    unfold bourseref05_Lay.f
    have hj : bourseref05_Lay.j0 (K1 + K2 + K3 + 2) (a.toNat : Int) (B l) = some (B ([] ++ out)) := by
      rw [bourseref05_Lay.j0, bourseref05_Lay.l0]
      exact h2 _ (by omega)
    split
    · rw [show (0 : Int) = (a.toNat : Int) from by omega]; exact hj
    · rw [show bourseref05_Lay.j0 (K1 + K2 + K3 + 2) a (B l) = bourseref05_Lay.j0 (K1 + K2 + K3 + 2) (a.toNat : Int) (B l) from by congr 1; omega]; exact hj
  rw [hr]
  simp only [Option.bind_some]
  rw [if_pos trivial]
  unfold frame_Len.f
  rw [mx0, mx0, Int.toNat_natCast, h3 _ (by omega)]
  simp only [Option.bind_some]
  rw [B_size]
  simp
end Go.Proofs.YteilnbnnhocciaaDoor.P

/-! KP3 -/
set_option linter.unusedVariables false
namespace Go.Proofs.YteilnbnnhocciaaDoor.P
open Go.RowKit Go.Proofs.YteilnbnnhocciaaDoorW.PrintWords Go.Proofs.YteilnbnnhocciaaDoorW.PrintLast Go.Proofs.YteilnbnnhocciaaDoorW.PrintMore Go.Proofs.YteilnbnnhocciaaDoorM Go.Proofs.YteilnbnnhocciaaDoor.KF
theorem le_inj : ∀ (k n m : Nat), n < 256 ^ k → m < 256 ^ k → le k n = le k m → n = m
  | 0, n, m, hn, hm, _ => by simp at hn hm; omega
  | k + 1, n, m, hn, hm, h => by
    rw [le, le, List.cons.injEq] at h
    have h1 := congrArg UInt8.toNat h.1
    simp only [UInt8.toNat_ofNat'] at h1
    rw [Nat.pow_succ] at hn hm
    have h2 := le_inj k (n / 256) (m / 256) (by omega) (by omega) h.2
    omega
def Piece (log : List UInt8) (a kd : Nat) (s : List UInt8) : Prop :=
  1 ≤ kd ∧ kd ≤ 4 ∧ s.length ≤ spaceN a ∧ (List.replicate (padN a) 0 ++ pieceL kd s) <+: log.drop a
def nextN (a : Nat) (s : List UInt8) : Nat := a + padN a + (7 + s.length)
theorem spaceN_le (a : Nat) : spaceN a ≤ 505 := by have := room_padded a; unfold spaceN; omega
theorem le2_len {n m : Nat} (hn : n < 65536) (hm : m < 65536) (h : le 2 n = le 2 m) : n = m := le_inj 2 n m hn hm h
theorem piece_next {log : List UInt8} {a kd : Nat} {s : List UInt8} (h : Piece log a kd s) : nextN a s ≤ log.length := by
  have := h.2.2.2.length_le
  simp only [List.length_append, List.length_replicate, pieceL_len, List.length_drop] at this
  have : padN a + (7 + s.length) ≤ log.length - a := this
  unfold nextN
  omega
theorem app_prefix {α : Type} {p x y l : List α} (h1 : (p ++ x) <+: l) (h2 : (p ++ y) <+: l) (hxy : x.length ≤ y.length) : x <+: y := by
  have h3 : (p ++ x) <+: (p ++ y) := List.prefix_of_prefix_length_le h1 h2 (by simp; omega)
  exact (List.prefix_append_right_inj p).1 h3
theorem piece_det {log : List UInt8} {a kd kd' : Nat} {s s' : List UInt8} (h : Piece log a kd s) (h' : Piece log a kd' s') : kd = kd' ∧ s = s' := by
  have key : ∀ {kd kd' : Nat} {s s' : List UInt8}, Piece log a kd s → Piece log a kd' s' → s.length ≤ s'.length → kd = kd' ∧ s = s' := by
    intro kd kd' s s' h h' hle
    obtain ⟨h1, h2, h3, h4⟩ := h
    obtain ⟨g1, g2, g3, g4⟩ := h'
    have hs := spaceN_le a
    have hp := app_prefix h4 g4 (by simp only [pieceL_len]; omega)
    unfold pieceL at hp
    obtain ⟨t, ht⟩ := hp
    rw [List.append_assoc] at ht
    obtain ⟨e1, e2⟩ := List.append_inj ht (by simp only [sumL_len])
    rw [List.append_assoc] at e2
    obtain ⟨e3, e4⟩ := List.append_inj e2 (by simp only [le_len])
    have hl := le2_len (by omega) (by omega) e3
    rw [List.cons_append, List.cons.injEq] at e4
    have hk : kd = kd' := by
      have := congrArg UInt8.toNat e4.1
      rw [toNat_of (by omega), toNat_of (by omega)] at this
      exact this
    have e5 := List.append_inj (t₁ := t) (t₂ := []) (e4.2.trans (List.append_nil _).symm) hl
    exact ⟨hk, e5.1⟩
  rcases Nat.le_total s.length s'.length with hl | hl
  · exact key h h' hl
  · obtain ⟨e1, e2⟩ := key h' h hl
    exact ⟨e1.symm, e2.symm⟩
inductive Rec (log : List UInt8) : Nat → Bool → List UInt8 → Nat → Prop
  | last (a : Nat) (bg : Bool) (s : List UInt8) : Piece log a (kindN bg true) s → Rec log a bg s (nextN a s)
  | more (a : Nat) (bg : Bool) (s t : List UInt8) (tw : Nat) : Piece log a (kindN bg false) s → Rec log (nextN a s) false t tw → Rec log a bg (s ++ t) tw
theorem rec_next {log : List UInt8} {a : Nat} {bg : Bool} {s : List UInt8} {tw : Nat} (h : Rec log a bg s tw) : a + 7 ≤ tw ∧ tw ≤ log.length := by
  induction h with
  | last a bg s h => exact ⟨by unfold nextN; omega, piece_next h⟩
  | more a bg s t tw h _ ih => exact ⟨by unfold nextN at ih; omega, ih.2⟩
inductive Recs (log : List UInt8) : Nat → List (List UInt8 × Nat) → Prop
  | done (a : Nat) : (∀ s tw, ¬ Rec log a true s tw) → Recs log a []
  | more (a : Nat) (s : List UInt8) (tw : Nat) (l : List (List UInt8 × Nat)) : Rec log a true s tw → Recs log tw l → Recs log a ((s, tw) :: l)
theorem recs_ex (log : List UInt8) : ∀ (m a : Nat), log.length - a ≤ m → ∃ l, Recs log a l
  | m, a, hm => by
    by_cases h : ∃ s tw, Rec log a true s tw
    · obtain ⟨s, tw, h⟩ := h
      have hn := rec_next h
      cases m with
      | zero => omega
      | succ m =>
        obtain ⟨l, hl⟩ := recs_ex log m tw (by omega)
        exact ⟨_, .more a s tw l h hl⟩
    · exact ⟨[], .done a (fun s tw h' => h ⟨s, tw, h'⟩)⟩
end Go.Proofs.YteilnbnnhocciaaDoor.P

/-! KP4 -/
set_option linter.unusedVariables false
namespace Go.Proofs.YteilnbnnhocciaaDoor.P
open Go.RowKit Go.Proofs.YteilnbnnhocciaaDoorW.PrintWords Go.Proofs.YteilnbnnhocciaaDoorW.PrintLast Go.Proofs.YteilnbnnhocciaaDoorW.PrintMore Go.Proofs.YteilnbnnhocciaaDoorM Go.Proofs.YteilnbnnhocciaaDoor.KF
def unle : List UInt8 → Nat
  | [] => 0
  | c :: r => c.toNat + 256 * unle r
theorem unle_lt : ∀ l : List UInt8, unle l < 256 ^ l.length
  | [] => by simp [unle]
  | c :: r => by
    have h := unle_lt r
    have hc := UInt8.toNat_lt c
    rw [unle, List.length_cons, Nat.pow_succ]
    omega
theorem le_unle : ∀ l : List UInt8, le l.length (unle l) = l
  | [] => rfl
  | c :: r => by
    have hc := UInt8.toNat_lt c
    rw [List.length_cons, le, unle, show (c.toNat + 256 * unle r) / 256 = unle r from by omega, le_unle r]
    congr 1
    rw [← ofNat_mod, show (c.toNat + 256 * unle r) % 256 = c.toNat from by omega, ofNat_toNat]
theorem unle_le : ∀ k n : Nat, n < 256 ^ k → unle (le k n) = n
  | 0, n, h => by simp at h; simp [le, unle]; omega
  | k + 1, n, h => by
    rw [Nat.pow_succ] at h
    rw [le, unle, unle_le k (n / 256) (by omega)]
    simp only [UInt8.toNat_ofNat']
    omega
theorem unle_take (l : List UInt8) (i : Nat) (h : i < l.length) : unle (l.take (i + 1)) = unle (l.take i) + 256 ^ i * (l[i]).toNat := by
  induction l generalizing i with
  | nil => simp at h
  | cons c r ih =>
    cases i with
    | zero => simp [unle]
    | succ i =>
      have := ih i (by simpa using h)
      simp only [List.take_succ_cons, unle, List.getElem_cons_succ, this, Nat.pow_succ]
      rw [Nat.mul_add, Nat.add_assoc, Nat.mul_comm (256 ^ i) 256, Nat.mul_assoc]
theorem or_high (a c i : Nat) (ha : a < 256 ^ i) : a ||| (c * 2 ^ (8 * i)) = a + 256 ^ i * c := by
  have e : (256 : Nat) ^ i = 2 ^ (8 * i) := by rw [Nat.pow_mul]
  rw [e] at ha ⊢
  rw [Nat.or_comm, Nat.mul_comm c, ← Nat.two_pow_add_eq_or_of_lt ha]
  omega
theorem big_l : ∀ (d k i : Nat) (l : List UInt8), i + d = l.length → l.length ≤ 4 → d < k → varint_big.l0 k (B l) (unle (l.take i) : Int) (l.length : Int) (i : Int) = some (unle l : Int)
  | 0, k + 1, i, l, hi, hl, hk => by
    unfold varint_big.l0
    rw [if_neg (by omega), List.take_of_length_le (by omega)]
  | d + 1, k + 1, i, l, hi, hl, hk => by
    have hlt : i < l.length := by omega
    have hc := UInt8.toNat_lt l[i]
    have hu := unle_lt (l.take i)
    rw [List.length_take, Nat.min_eq_left (by omega)] at hu
    have hp : (256 : Nat) ^ i ≤ 16777216 := Nat.le_trans (Nat.pow_le_pow_right (by omega) (show i ≤ 3 from by omega)) (by decide)
    have e : (256 : Nat) ^ i = 2 ^ (8 * i) := by rw [Nat.pow_mul]
    unfold varint_big.l0
    rw [if_pos (by omega), if_pos (by omega), B_size, if_pos (by omega), wrap_in (n := 8 * (i : Int)) (by omega) (by omega), if_pos (by omega), bt_of l i hlt, u64w _ (by omega)]
    have hm : (l[i]).toNat * 256 ^ i ≤ 255 * 16777216 := Nat.mul_le_mul (by omega) hp
    have hs : shl .u64 ((l[i]).toNat : Int) (8 * (i : Int)) = (((l[i]).toNat * 2 ^ (8 * i) : Nat) : Int) := by
      unfold shl
      rw [show (8 * (i : Int)).toNat = 8 * i from by omega, Nat.min_eq_left (show 8 * i ≤ IntKind.u64.bits from by show 8 * i ≤ 64; omega)]
      rw [show ((l[i]).toNat : Int) * 2 ^ (8 * i) = (((l[i]).toNat * 2 ^ (8 * i) : Nat) : Int) from by simp, u64w _ (by rw [← e]; omega)]
    rw [hs, u64_or_nat _ _ (by omega) (by rw [← e]; omega), or_high _ _ _ hu, ← unle_take l i hlt, wrap_in (by omega) (by omega), show (i : Int) + 1 = ((i + 1 : Nat) : Int) from by omega]
    exact big_l d k (i + 1) l (by omega) hl (by omega)
theorem big_f (k : Nat) (l : List UInt8) (hl : l.length ≤ 4) (hk : 4 < k) : varint_big.f k (B l) = some (unle l : Int) := by
  unfold varint_big.f
  rw [B_size]
  exact big_l l.length k 0 l (by omega) hl (by omega)
theorem take_any (l : List UInt8) (a b c : Int) (h0 : c = 0) (ha : 0 ≤ a) (hb : 0 ≤ b) (hs : wrap64 (b + a) ≤ ((B l).size : Int)) (hs1 : a ≤ wrap64 (((B l).size : Int) - b)) (h2 : b ≤ wrap64 (b + a)) :
    varint_Reader_Take.f (B l) b c a = some ((B l).extract b.toNat (wrap64 (b + a)).toNat, B l, wrap64 (b + a), c) := by
  unfold varint_Reader_Take.f varint_Reader_ok.f
  simp only [Option.bind_some]
  rw [if_pos (by simpa using h0), if_neg (by omega), if_neg (by omega), if_pos (by omega), if_pos (by omega), if_pos (by omega)]
theorem take_r (l : List UInt8) (hl : 4 ≤ l.length) (hl2 : l.length ≤ 100) (a b c : Int) (h0 : c = 0) (ha : a = 4) (hb : b = 0) : varint_Reader_Take.f (B l) b c a = some (B (l.take 4), B l, 4, 0) := by
  have w : wrap64 (b + a) = 4 := by rw [wrap_in (by omega) (by omega)]; omega
  have w1 : wrap64 (((B l).size : Int) - b) = (l.length : Int) := by rw [B_size, wrap_in (by omega) (by omega)]; omega
  rw [take_any l a b c h0 (by omega) (by omega) (by rw [w, B_size]; omega) (by rw [w1]; omega) (by omega), w, hb, h0]
  rw [show (0 : Int).toNat = 0 from rfl, show (4 : Int).toNat = 4 from rfl, B_ext _ _ _ (by omega), List.drop_zero]
theorem fixed_r (k : Nat) (l : List UInt8) (hl : 4 ≤ l.length) (hl2 : l.length ≤ 100) (hk : 4 < k) : varint_Reader_Fixed.f k (B l) 0 0 = some ((unle (l.take 4) : Int), B l, 4, 0) := by
  have h4 : (l.take 4).length = 4 := by rw [List.length_take]; omega
  have hu := unle_lt (l.take 4)
  rw [h4] at hu
  unfold varint_Reader_Fixed.f
  rw [take_r l hl hl2 _ _ _ rfl rfl rfl]
  simp only [Option.bind_some]
  rw [big_f k _ (by omega) hk]
  simp only [Option.bind_some]
  rw [show (unle (l.take 4) : Int) % 4294967296 = (unle (l.take 4) : Int) from by omega]
theorem i64_or_nat (a b : Nat) (ha : a < 65536) (hb : b < 65536) : Go.bits .or .i64 (a : Int) (b : Int) = ((a ||| b : Nat) : Int) := by
  have hx : a ||| b < 2 ^ 16 := Nat.or_lt_two_pow (by omega) (by omega)
  show IntKind.i64.wrap ((BitVec.ofInt 64 (a : Int) ||| BitVec.ofInt 64 (b : Int)).toNat : Int) = _
  rw [BitVec.toNat_or, show (BitVec.ofInt 64 (a : Int)).toNat = a from by simp; omega, show (BitVec.ofInt 64 (b : Int)).toNat = b from by simp; omega]
  exact IntWalk.i64_in _ ⟨by omega, by omega⟩
theorem dropWhile_nil {α : Type} (p : α → Bool) : ∀ l : List α, l.dropWhile p = [] ↔ ∀ x ∈ l, p x = true
  | [] => by simp
  | x :: r => by
    by_cases h : p x = true
    · rw [List.dropWhile_cons_of_pos h, dropWhile_nil p r]; simp [h]
    · rw [List.dropWhile_cons_of_neg h]; simp [h]
theorem trim_nil (l : List UInt8) : Lib.trimB l 0 = [] ↔ l = List.replicate l.length 0 := by
  have hl : ∀ m : List UInt8, Lib.trimLeftB m 0 = [] ↔ ∀ c ∈ m, c = 0 := by
    intro m
    unfold Lib.trimLeftB
    rw [dropWhile_nil]
    simp
  have hr : (∀ c ∈ Lib.trimRightB l 0, c = 0) ↔ ∀ c ∈ l, c = 0 := by
    constructor
    · intro h
      unfold Lib.trimRightB at h
      have hd : l.reverse.dropWhile (· == 0) = [] := by
        by_cases hn : l.reverse.dropWhile (· == 0) = []
        · exact hn
        · exfalso
          have h1 := List.head_dropWhile_not (· == 0) hn
          have h2 := h ((l.reverse.dropWhile (· == 0)).head hn) (List.mem_reverse.2 (List.head_mem hn))
          rw [h2] at h1
          simp at h1
      rw [dropWhile_nil] at hd
      intro c hc
      simpa using hd c (List.mem_reverse.2 hc)
    · intro h c hc
      unfold Lib.trimRightB at hc
      exact h c (List.mem_reverse.1 ((List.dropWhile_sublist _).subset (List.mem_reverse.1 hc)))
  unfold Lib.trimB
  rw [hl, hr, List.eq_replicate_iff]
  simp
end Go.Proofs.YteilnbnnhocciaaDoor.P

/-! KP5 -/
set_option linter.unusedVariables false
namespace Go.Proofs.YteilnbnnhocciaaDoor.P
open Go.RowKit Go.Proofs.YteilnbnnhocciaaDoorW.PrintWords Go.Proofs.YteilnbnnhocciaaDoorW.PrintLast Go.Proofs.YteilnbnnhocciaaDoorW.PrintMore Go.Proofs.YteilnbnnhocciaaDoorM Go.Proofs.YteilnbnnhocciaaDoor.KF
theorem seven {l : List UInt8} (h : 7 ≤ l.length) : ∃ (s4 : List UInt8) (b4 b5 b6 : UInt8) (r : List UInt8), s4.length = 4 ∧ l = s4 ++ b4 :: b5 :: b6 :: r := by
  match l, h with
  | a :: b :: c :: d :: b4 :: b5 :: b6 :: r, _ => exact ⟨[a, b, c, d], b4, b5, b6, r, rfl, rfl⟩
theorem le2_bytes (b4 b5 : UInt8) : le 2 (b4.toNat + 256 * b5.toNat) = [b4, b5] := by
  have := le_unle [b4, b5]
  simpa [unle] using this
theorem at_app (p q : List UInt8) (i : Nat) (c : UInt8) (h : i = p.length) : bt (B (p ++ c :: q)) (i : Int) = (c.toNat : Int) := by
  subst h
  rw [bt_of _ _ (by simp)]
  simp
theorem piece_iff {log : List UInt8} {a : Nat} {s4 r : List UInt8} {b4 b5 b6 : UInt8} (hs : s4.length = 4) (hd : log.drop a = List.replicate (padN a) 0 ++ (s4 ++ b4 :: b5 :: b6 :: r)) (kd : Nat) (s : List UInt8) :
    Piece log a kd s ↔ (kd = b6.toNat ∧ 1 ≤ kd ∧ kd ≤ 4 ∧ s.length = b4.toNat + 256 * b5.toNat ∧ s.length ≤ spaceN a ∧ s.length ≤ r.length ∧ s = r.take s.length ∧ sumL kd s = s4) := by
  have hsp := spaceN_le a
  unfold Piece
  rw [hd, List.prefix_append_right_inj, pieceL]
  constructor
  · rintro ⟨h1, h2, h3, h4⟩
    obtain ⟨t, ht⟩ := h4
    rw [List.append_assoc] at ht
    obtain ⟨e1, e2⟩ := List.append_inj ht (by rw [sumL_len, hs])
    rw [le2_ofNat] at e2
    simp only [List.cons_append, List.nil_append, List.cons.injEq] at e2
    obtain ⟨g4, g5, g6, g7⟩ := e2
    have n4 := congrArg UInt8.toNat g4
    have n5 := congrArg UInt8.toNat g5
    have n6 := congrArg UInt8.toNat g6
    simp only [UInt8.toNat_ofNat'] at n4 n5 n6
    refine ⟨by omega, h1, h2, by omega, h3, ?_, ?_, e1⟩
    · rw [← g7]; simp
    · rw [← g7]; simp
  · rintro ⟨h1, h2, h3, h4, h5, h6, h7, h8⟩
    refine ⟨h2, h3, h5, ⟨r.drop s.length, ?_⟩⟩
    have hk : UInt8.ofNat kd = b6 := by rw [h1, ofNat_toNat]
    have hl : le 2 s.length = [b4, b5] := by rw [h4]; exact le2_bytes b4 b5
    have hb : s ++ r.drop s.length = r := by
      conv => lhs; lhs; rw [h7]
      exact List.take_append_drop _ _
    rw [h8, hl, hk]
    simp only [List.append_assoc, List.cons_append, List.nil_append, hb]
theorem no_piece_short {log : List UInt8} {a : Nat} (h : log.length < a + padN a + 7) (kd : Nat) (s : List UInt8) : ¬ Piece log a kd s := by
  intro hp
  have := piece_next hp
  unfold nextN at this
  omega
theorem no_piece_pad {log : List UInt8} {a : Nat} (h : (log.drop a).take (padN a) ≠ List.replicate (padN a) 0) (kd : Nat) (s : List UInt8) : ¬ Piece log a kd s := by
  rintro ⟨_, _, _, t, ht⟩
  apply h
  rw [← ht, List.append_assoc, List.take_append_of_le_length (by simp), List.take_of_length_le (by simp)]
theorem drop_left' {α : Type} {l m : List α} {n : Nat} (h : l.length = n) : (l ++ m).drop n = m := by rw [← h]; exact List.drop_left
theorem take_left' {α : Type} {l m : List α} {n : Nat} (h : l.length = n) : (l ++ m).take n = l := by rw [← h]; exact List.take_left
theorem at_of {log : List UInt8} {a P : Nat} {m : List UInt8} (hd : log.drop a = List.replicate P 0 ++ m) : log.drop (a + P) = m := by
  rw [← List.drop_drop, hd, drop_left' (by simp)]
theorem rest_of {log : List UInt8} {a P : Nat} {s4 r : List UInt8} {b4 b5 b6 : UInt8} (hs : s4.length = 4) (hd : log.drop a = List.replicate P 0 ++ (s4 ++ b4 :: b5 :: b6 :: r)) : log.drop (a + P + 7) = r := by
  rw [← List.drop_drop, at_of hd, show s4 ++ b4 :: b5 :: b6 :: r = (s4 ++ [b4, b5, b6]) ++ r from by simp, drop_left' (by simp [hs])]
theorem head_of {log : List UInt8} {a P : Nat} {s4 r : List UInt8} {b4 b5 b6 : UInt8} (hs : s4.length = 4) (hd : log.drop a = List.replicate P 0 ++ (s4 ++ b4 :: b5 :: b6 :: r)) : (log.take (a + P + 7)).drop (a + P) = s4 ++ [b4, b5, b6] := by
  rw [← List.take_drop, at_of hd, show s4 ++ b4 :: b5 :: b6 :: r = (s4 ++ [b4, b5, b6]) ++ r from by simp, take_left' (by simp [hs])]
theorem j0_true (k : Nat) (x : ByteArray) (a p : Int) : frame_take.j0 (k + 1) x a p true = some (0, B [], 0) := by
  rw [frame_take.j0, if_pos rfl]; rfl
theorem j1_true (k : Nat) (x : ByteArray) (a n s kd : Int) : frame_take.j1 (k + 1) x a n s kd true = some (0, B [], 0) := by
  rw [frame_take.j1, if_pos rfl]; rfl
theorem w_at (a p : Nat) (ha : a ≤ 2000000) (hp : p < 1000) : wrap64 ((a : Int) + (p : Int)) = ((a + p : Nat) : Int) := by rw [wrap_in (by omega) (by omega)]; omega
theorem w_lit (a : Nat) (n : Int) (m : Nat) (ha : a ≤ 2000000) (hn : n = (m : Int)) (hm : m < 1000) : wrap64 ((a : Int) + n) = ((a + m : Nat) : Int) := by rw [hn]; exact w_at a m ha hm
theorem w_min7 (a : Nat) : wrap64 ((roomN (a + padN a) : Int) - 7) = (spaceN a : Int) := (step_fits (rc := [])).symm
theorem bind_some_of {α β : Type} {x : Option α} {f : α → Option β} {a : α} (h : x = some a) : x.bind f = f a := by rw [h]; rfl
theorem j0_step (k : Nat) (x q : ByteArray) (x1 x7 y z y4 y5 y6 : Int) (w1 : wrap64 (x1 + x7) = y) (w7 : wrap64 (y + 7) = z) (w4 : wrap64 (y + 4) = y4) (w5 : wrap64 (y + 5) = y5) (w6 : wrap64 (y + 6) = y6)
    (c1 : 0 ≤ y) (c2 : y ≤ z) (c3 : z ≤ (x.size : Int)) (hq : x.extract y.toNat z.toNat = q) (t : Int) (u : ByteArray) (v v2 : Int) (hfix : varint_Reader_Fixed.f k q 0 0 = some (t, u, v, v2))
    (c4 : 0 ≤ y4) (d4 : y4 < (x.size : Int)) (c5 : 0 ≤ y5) (d5 : y5 < (x.size : Int)) (c6 : 0 ≤ y6) (d6 : y6 < (x.size : Int)) (n kd : Int) (hn : Go.bits .or .i64 (wrap64 (bt x y4)) (wrap64 ((wrap64 (bt x y5)) * 256)) = n) (hk : bt x y6 = kd)
    (room sp : Int) (hr : frame_left.f y = some room) (hs : wrap64 (room - 7) = sp) :
    frame_take.j0 (k + 1) x x1 x7 false = (if kd < 1 then frame_take.j1 k x y n t kd true else if kd > 4 then frame_take.j1 k x y n t kd true else if n > sp then frame_take.j1 k x y n t kd true else frame_take.j1 k x y n t kd (decide (wrap64 (z + n) > (x.size : Int)))) := by
  rw [frame_take.j0]
  simp only [w1, w7, w4, w5, w6, if_pos c1, if_pos c2, if_pos c3, hq, Bool.false_eq_true, if_false]
  refine (bind_some_of (a := (q, 0, 0)) rfl).trans ?_
  refine (bind_some_of hfix).trans ?_
  generalize varint_Reader_Fixed.f k q 0 0 = F at *
  simp only [if_pos c4, if_pos d4, if_pos c5, if_pos d5, if_pos c6, if_pos d6, hn, hk, hr, hs, Option.bind_some]
theorem j1_step (k : Nat) (x q : ByteArray) (x1 x7 x9 x10 y z : Int) (w1 : wrap64 (x1 + 7) = y) (w2 : wrap64 (y + x7) = z) (c1 : 0 ≤ y) (c2 : y ≤ z) (c3 : z ≤ (x.size : Int)) (hq : x.extract y.toNat z.toNat = q) (t : Int) (ht : frame_sum.f x10 q = some t) :
    frame_take.j1 (k + 1) x x1 x7 x9 x10 false = if t = x9 then some (x10, q, z) else some (0, B [], 0) := by
  rw [frame_take.j1]
  simp only [w1, w2, if_pos c1, if_pos c2, if_pos c3, hq, ht, Option.bind_some, Bool.false_eq_true, if_false]
  rfl
theorem take_short (K : Nat) (x : ByteArray) (a p y z : Int) (hp : frame_pad.f a = some p) (w1 : wrap64 (a + p) = y) (w2 : wrap64 (y + 7) = z) (h : z > (x.size : Int)) : frame_take.f (K + 1) x a = some (0, B [], 0) := by
  unfold frame_take.f
  simp only [hp, Option.bind_some, w1, w2, if_pos h]
  exact j0_true _ _ _ _
theorem take_long (K : Nat) (x q : ByteArray) (a p y z : Int) (hp : frame_pad.f a = some p) (w1 : wrap64 (a + p) = y) (w2 : wrap64 (y + 7) = z) (h : ¬ z > (x.size : Int)) (c1 : 0 ≤ a) (c2 : a ≤ y) (c3 : y ≤ (x.size : Int)) (ht : strings_Trim.f (x.extract a.toNat y.toNat) (⟨#[0]⟩ : ByteArray) = some q) :
    frame_take.f K x a = frame_take.j0 K x a p (q.toList != ([] : List UInt8)) := by
  unfold frame_take.f
  simp only [hp, Option.bind_some, w1, w2, if_neg h, if_pos c1, if_pos c2, if_pos c3, ht]
theorem pad_text (log : List UInt8) (a p : Nat) (h : a + p ≤ log.length) (hl : log.length ≤ 1000000) : strings_Trim.f ((B log).extract (a : Int).toNat ((a + p : Nat) : Int).toNat) (⟨#[0]⟩ : ByteArray) = some (B (Lib.trimB ((log.drop a).take p) 0)) := by
  rw [Int.toNat_natCast, Int.toNat_natCast, B_ext _ _ _ h, ← List.take_drop]
  unfold strings_Trim.f
  rw [if_pos ⟨rfl, by rw [B_size]; simp; omega⟩, B_data]
  rfl
theorem or_bytes (b4 b5 : UInt8) : Go.bits .or .i64 (wrap64 (b4.toNat : Int)) (wrap64 (wrap64 (b5.toNat : Int) * 256)) = ((b4.toNat + 256 * b5.toNat : Nat) : Int) := by
  have c4 := UInt8.toNat_lt b4
  have c5 := UInt8.toNat_lt b5
  rw [wrap_in (n := (b5.toNat : Int)) (by omega) (by omega), wrap_in (by omega) (by omega), wrap_in (by omega) (by omega), show (b5.toNat : Int) * 256 = ((b5.toNat * 256 : Nat) : Int) from by omega, i64_or_nat _ _ (by omega) (by omega)]
  have := or_high b4.toNat b5.toNat 1 (by omega)
  rw [show b5.toNat * 2 ^ (8 * 1) = b5.toNat * 256 from by omega, show (256 : Nat) ^ 1 = 256 from rfl] at this
  rw [this]
theorem bytes_at {log : List UInt8} {a P : Nat} {s4 r : List UInt8} {b4 b5 b6 : UInt8} (hs : s4.length = 4) (ha : a ≤ log.length) (hd : log.drop a = List.replicate P 0 ++ (s4 ++ b4 :: b5 :: b6 :: r)) :
    bt (B log) ((a + P + 4 : Nat) : Int) = (b4.toNat : Int) ∧ bt (B log) ((a + P + 5 : Nat) : Int) = (b5.toNat : Int) ∧ bt (B log) ((a + P + 6 : Nat) : Int) = (b6.toNat : Int) := by
  have hlog : log = (log.take a ++ List.replicate P 0 ++ s4) ++ b4 :: b5 :: b6 :: r := by
    conv => lhs; rw [← List.take_append_drop a log, hd]
    simp
  have hl : (log.take a ++ List.replicate P 0 ++ s4).length = a + P + 4 := by simp [hs]; omega
  generalize log.take a ++ List.replicate P 0 ++ s4 = w at hlog hl
  subst hlog
  refine ⟨at_app _ _ _ _ hl.symm, ?_, ?_⟩
  · rw [show w ++ b4 :: b5 :: b6 :: r = (w ++ [b4]) ++ b5 :: b6 :: r from by simp]
    exact at_app _ _ _ _ (by simp [hl])
  · rw [show w ++ b4 :: b5 :: b6 :: r = (w ++ [b4, b5]) ++ b6 :: r from by simp]
    exact at_app _ _ _ _ (by simp [hl])
set_option maxHeartbeats 1000000 in
theorem take_head (log : List UInt8) (a : Nat) (hl : log.length ≤ 1000000) (ha : a ≤ log.length) (K : Nat) (hK : 4 < K) {s4 r : List UInt8} {b4 b5 b6 : UInt8} (hs4 : s4.length = 4) (hd : log.drop a = List.replicate (padN a) 0 ++ (s4 ++ b4 :: b5 :: b6 :: r)) :
    frame_take.f (K + 2) (B log) (a : Int) = (if (b6.toNat : Int) < 1 then some (0, B [], 0) else if (b6.toNat : Int) > 4 then some (0, B [], 0) else if ((b4.toNat + 256 * b5.toNat : Nat) : Int) > (spaceN a : Int) then some (0, B [], 0) else
      if r.length < b4.toNat + 256 * b5.toNat then some (0, B [], 0) else if sumL b6.toNat (r.take (b4.toNat + 256 * b5.toNat)) = s4 then some ((b6.toNat : Int), B (r.take (b4.toNat + 256 * b5.toNat)), ((a + padN a + 7 + (b4.toNat + 256 * b5.toNat) : Nat) : Int)) else some (0, B [], 0)) := by
  have hp := padN_lt a
  have hpad := pad_f a (by omega)
  have hlen : log.length = a + padN a + 7 + r.length := by
    have := congrArg List.length hd
    simp only [List.length_drop, List.length_append, List.length_replicate, List.length_cons, hs4] at this
    omega
  have c4 := UInt8.toNat_lt b4
  have c5 := UInt8.toNat_lt b5
  have c6 := UInt8.toNat_lt b6
  have hz : (log.drop a).take (padN a) = List.replicate (padN a) 0 := by rw [hd, take_left' (by simp)]
  have ht := pad_text log a (padN a) (by omega) hl
  rw [hz, (trim_nil _).2 (by simp)] at ht
  have hq : (B log).extract ((a + padN a : Nat) : Int).toNat ((a + padN a + 7 : Nat) : Int).toNat = B (s4 ++ [b4, b5, b6]) := by
    rw [Int.toNat_natCast, Int.toNat_natCast, B_ext _ _ _ (by omega), head_of hs4 hd]
  have hfix := fixed_r (K + 1) (s4 ++ [b4, b5, b6]) (by simp [hs4]) (by simp [hs4]) (by omega)
  rw [take_left' hs4] at hfix
  have q1 : (0 : Int) ≤ ((a + padN a : Nat) : Int) := by omega
  have q2 : ((a + padN a : Nat) : Int) ≤ ((a + padN a + 7 : Nat) : Int) := by omega
  have q3 : ((a + padN a + 7 : Nat) : Int) ≤ ((B log).size : Int) := by rw [B_size]; omega
  have q4 : (0 : Int) ≤ ((a + padN a + 4 : Nat) : Int) := by omega
  have q5 : ((a + padN a + 4 : Nat) : Int) < ((B log).size : Int) := by rw [B_size]; omega
  have q6 : (0 : Int) ≤ ((a + padN a + 5 : Nat) : Int) := by omega
  have q7 : ((a + padN a + 5 : Nat) : Int) < ((B log).size : Int) := by rw [B_size]; omega
  have q8 : (0 : Int) ≤ ((a + padN a + 6 : Nat) : Int) := by omega
  have q9 : ((a + padN a + 6 : Nat) : Int) < ((B log).size : Int) := by rw [B_size]; omega
  have qr := left_f (a + padN a) (by omega)
  have hb1 : a ≤ 2000000 := by omega
  have hb2 : padN a < 1000 := by omega
  have hb3 : a + padN a ≤ 2000000 := by omega
  have k1 : ¬ ((a + padN a + 7 : Nat) : Int) > ((B log).size : Int) := by rw [B_size]; omega
  have k2 : (0 : Int) ≤ (a : Int) := by omega
  have k3 : (a : Int) ≤ ((a + padN a : Nat) : Int) := by omega
  have k4 : ((a + padN a : Nat) : Int) ≤ ((B log).size : Int) := by rw [B_size]; omega
  have w1 := w_at a (padN a) hb1 hb2
  have w7 := w_lit (a + padN a) 7 7 hb3 rfl (by decide)
  have w4 := w_lit (a + padN a) 4 4 hb3 rfl (by decide)
  have w5 := w_lit (a + padN a) 5 5 hb3 rfl (by decide)
  have w6 := w_lit (a + padN a) 6 6 hb3 rfl (by decide)
  rw [take_long (K + 2) (B log) _ a (padN a) _ _ hpad w1 w7 k1 k2 k3 k4 ht, show ((B []).toList != ([] : List UInt8)) = false from by rw [tl, B_data]; rfl]
  rw [j0_step (K + 1) (B log) _ a (padN a) _ _ _ _ _ w1 w7 w4 w5 w6 q1 q2 q3 hq _ _ _ _ hfix q4 q5 q6 q7 q8 q9 ((b4.toNat + 256 * b5.toNat : Nat) : Int) (b6.toNat : Int) (by rw [(bytes_at hs4 ha hd).1, (bytes_at hs4 ha hd).2.1]; exact or_bytes b4 b5) (bytes_at hs4 ha hd).2.2 _ _ qr (w_min7 a)]
  simp only [j1_true]
  clear w1 w4 w5 w6
  have W7 := Hush.mk w7
  clear w7
  generalize hN : b4.toNat + 256 * b5.toNat = N
  have hsp := spaceN_le a
  by_cases g1 : (b6.toNat : Int) < 1
  · simp only [if_pos g1]
  simp only [if_neg g1]
  by_cases g2 : (b6.toNat : Int) > 4
  · simp only [if_pos g2]
  simp only [if_neg g2]
  by_cases g3 : (N : Int) > (spaceN a : Int)
  · simp only [if_pos g3]
  simp only [if_neg g3]
  have hb4 : a + padN a + 7 ≤ 2000000 := by omega
  have hb5 : N < 1000 := by omega
  have wz := Hush.mk (w_at (a + padN a + 7) N hb4 hb5)
  have hdec : decide (wrap64 (((a + padN a + 7 : Nat) : Int) + (N : Int)) > ((B log).size : Int)) = decide (r.length < N) := by
    rw [wz.out, B_size, decide_eq_decide]
    omega
  rw [hdec]
  by_cases g4 : r.length < N
  · rw [decide_eq_true g4, if_pos g4]
    exact j1_true _ _ _ _ _ _
  rw [decide_eq_false g4, if_neg g4]
  have hbody : (B log).extract ((a + padN a + 7 : Nat) : Int).toNat ((a + padN a + 7 + N : Nat) : Int).toNat = B (r.take N) := by
    rw [Int.toNat_natCast, Int.toNat_natCast, B_ext _ _ _ (by omega), ← List.take_drop, rest_of hs4 hd]
  have hsum := sum_f b6.toNat (by omega) (r.take N) (by simp; omega)
  have u1 : (0 : Int) ≤ ((a + padN a + 7 : Nat) : Int) := by omega
  have u2 : ((a + padN a + 7 : Nat) : Int) ≤ ((a + padN a + 7 + N : Nat) : Int) := by omega
  have u3 : ((a + padN a + 7 + N : Nat) : Int) ≤ ((B log).size : Int) := by rw [B_size]; omega
  rw [j1_step K (B log) _ _ _ _ _ _ _ W7.out wz.out u1 u2 u3 hbody _ hsum]
  have hm := maskN_lt (crcL (UInt8.ofNat b6.toNat :: r.take N))
  by_cases hq : sumL b6.toNat (r.take N) = s4
  · rw [if_pos hq, if_pos]
    rw [← hq]
    unfold sumL
    rw [unle_le 4 _ (by omega)]
  · rw [if_neg hq, if_neg]
    intro e
    apply hq
    have h4 := le_unle s4
    rw [hs4] at h4
    rw [← h4, sumL]
    exact congrArg (le 4) (Int.ofNat.inj e)
theorem take_k (log : List UInt8) (a : Nat) (hl : log.length ≤ 1000000) (ha : a ≤ log.length) (K : Nat) (hK : 4 < K) :
    (∃ kd s, Piece log a kd s ∧ frame_take.f (K + 2) (B log) (a : Int) = some ((kd : Int), B s, (nextN a s : Int))) ∨
    ((∀ kd s, ¬ Piece log a kd s) ∧ frame_take.f (K + 2) (B log) (a : Int) = some (0, B [], 0)) := by
  have hp := padN_lt a
  have hpad := pad_f a (by omega)
  have hb1 : a ≤ 2000000 := by omega
  have hb2 : padN a < 1000 := by omega
  have hb3 : a + padN a ≤ 2000000 := by omega
  have w1 := Hush.mk (w_at a (padN a) hb1 hb2)
  have w7 := Hush.mk (w_lit (a + padN a) 7 7 hb3 rfl (by decide))
  by_cases h1 : log.length < a + padN a + 7
  · exact .inr ⟨no_piece_short h1, take_short (K + 1) (B log) a _ _ _ hpad w1.out w7.out (by rw [B_size]; omega)⟩
  by_cases h2 : (log.drop a).take (padN a) = List.replicate (padN a) 0
  · have hdl : 7 ≤ ((log.drop a).drop (padN a)).length := by simp only [List.length_drop]; omega
    obtain ⟨s4, b4, b5, b6, r, hs4, he⟩ := seven hdl
    have hd : log.drop a = List.replicate (padN a) 0 ++ (s4 ++ b4 :: b5 :: b6 :: r) := by
      rw [← he, ← h2, List.take_append_drop]
    have hpi := piece_iff hs4 hd
    rw [take_head log a hl ha K hK hs4 hd]
    generalize b4.toNat + 256 * b5.toNat = N at hpi ⊢
    by_cases g1 : (b6.toNat : Int) < 1
    · refine .inr ⟨fun kd s h => ?_, by rw [if_pos g1]⟩
      have := (hpi kd s).1 h; omega
    rw [if_neg g1]
    by_cases g2 : (b6.toNat : Int) > 4
    · refine .inr ⟨fun kd s h => ?_, by rw [if_pos g2]⟩
      have := (hpi kd s).1 h; omega
    rw [if_neg g2]
    by_cases g3 : (N : Int) > (spaceN a : Int)
    · refine .inr ⟨fun kd s h => ?_, by rw [if_pos g3]⟩
      have := (hpi kd s).1 h; omega
    rw [if_neg g3]
    by_cases g4 : r.length < N
    · refine .inr ⟨fun kd s h => ?_, by rw [if_pos g4]⟩
      have := (hpi kd s).1 h; omega
    rw [if_neg g4]
    have hT : (r.take N).length = N := by rw [List.length_take]; omega
    by_cases hq : sumL b6.toNat (r.take N) = s4
    · refine .inl ⟨b6.toNat, r.take N, (hpi _ _).2 ⟨rfl, by omega, by omega, hT, by omega, by omega, by rw [hT], hq⟩, ?_⟩
      rw [if_pos hq]
      unfold nextN
      rw [hT, show a + padN a + (7 + N) = a + padN a + 7 + N from by omega]
    · refine .inr ⟨fun kd s h => ?_, by rw [if_neg hq]⟩
      obtain ⟨k1, k2, k3, k4, k5, k6, k7, k8⟩ := (hpi kd s).1 h
      rw [k4] at k7
      rw [k1, k7] at k8
      exact hq k8
  · refine .inr ⟨no_piece_pad h2, ?_⟩
    rw [take_long (K + 2) (B log) _ a (padN a) _ _ hpad w1.out w7.out (by rw [B_size]; omega) (by omega) (by omega) (by rw [B_size]; omega) (pad_text log a (padN a) (by omega) hl)]
    have hne : Lib.trimB ((log.drop a).take (padN a)) 0 ≠ [] := by
      intro e
      apply h2
      rw [(trim_nil _).1 e]
      congr 1
      rw [List.length_take, List.length_drop]
      omega
    rw [show ((B (Lib.trimB ((log.drop a).take (padN a)) 0)).toList != ([] : List UInt8)) = true from by rw [tl, B_data]; simpa using hne]
    exact j0_true _ _ _ _
theorem take_f (log : List UInt8) (a : Nat) (hl : log.length ≤ 1000000) (ha : a ≤ log.length) :
    (∃ kd s, Piece log a kd s ∧ frame_take.f 20 (B log) (a : Int) = some ((kd : Int), B s, (nextN a s : Int))) ∨
    ((∀ kd s, ¬ Piece log a kd s) ∧ frame_take.f 20 (B log) (a : Int) = some (0, B [], 0)) := take_k log a hl ha 18 (by decide)
end Go.Proofs.YteilnbnnhocciaaDoor.P

/-! KP6 -/
set_option linter.unusedVariables false
namespace Go.Proofs.YteilnbnnhocciaaDoor.P
open Go.RowKit Go.Proofs.YteilnbnnhocciaaDoorW.PrintWords Go.Proofs.YteilnbnnhocciaaDoorW.PrintLast Go.Proofs.YteilnbnnhocciaaDoorW.PrintMore Go.Proofs.YteilnbnnhocciaaDoorM Go.Proofs.YteilnbnnhocciaaDoor.KF
theorem bad_kind (bg en : Bool) : frame_record.bad (kindN bg en : Int) bg = false := by cases bg <;> cases en <;> rfl
theorem bad_of {kd : Nat} {bg : Bool} (h1 : 1 ≤ kd) (h4 : kd ≤ 4) (h : ∀ en, kd ≠ kindN bg en) : frame_record.bad (kd : Int) bg = true := by
  have ht := h true
  have hf := h false
  obtain rfl | rfl | rfl | rfl : kd = 1 ∨ kd = 2 ∨ kd = 3 ∨ kd = 4 := by omega
  all_goals (cases bg <;> first | rfl | exact absurd rfl ht | exact absurd rfl hf)
theorem rec_p {log : List UInt8} (hl : log.length ≤ 1000000) {a : Nat} {bg : Bool} {s : List UInt8} {tw : Nat} (h : Rec log a bg s tw) :
    ∃ K, ∀ k, K ≤ k → ∀ acc : List UInt8, acc.length ≤ a → frame_record.l k (B log) (a : Int) bg (B acc) = some (B (acc ++ s), (tw : Int)) := by
  induction h with
  | last a bg s h =>
    have hn := piece_next h
    have hs : s.length ≤ 505 := Nat.le_trans h.2.2.1 (spaceN_le a)
    have hx : nextN a s = a + padN a + (7 + s.length) := rfl
    refine ⟨1, fun k hk acc hacc => ?_⟩
    obtain ⟨k, rfl⟩ : ∃ k', k = k' + 1 := ⟨k - 1, by omega⟩
    rcases take_f log a hl (by omega) with ⟨kd, s', hp, ht⟩ | ⟨hno, _⟩
    · obtain ⟨rfl, rfl⟩ := piece_det h hp
      rw [frame_record.l, ht]
      simp only [Option.bind_some]
      rw [bad_kind, if_neg (by decide), B_size, B_size, if_pos (by omega), if_neg (by cases bg <;> decide), B_app]
    · exact absurd h (hno _ _)
  | more a bg s t tw h hr ih =>
    obtain ⟨K, hK⟩ := ih
    have hn := piece_next h
    have hs : s.length ≤ 505 := Nat.le_trans h.2.2.1 (spaceN_le a)
    have hx : nextN a s = a + padN a + (7 + s.length) := rfl
    refine ⟨K + 1, fun k hk acc hacc => ?_⟩
    obtain ⟨k, rfl⟩ : ∃ k', k = k' + 1 := ⟨k - 1, by omega⟩
    rcases take_f log a hl (by omega) with ⟨kd, s', hp, ht⟩ | ⟨hno, _⟩
    · obtain ⟨rfl, rfl⟩ := piece_det h hp
      rw [frame_record.l, ht]
      simp only [Option.bind_some]
      rw [bad_kind, if_neg (by decide), B_size, B_size, if_pos (by omega), if_pos (by cases bg <;> decide), B_app, hK k (by omega) _ (by simp; omega), List.append_assoc]
    · exact absurd h (hno _ _)
theorem norec_p {log : List UInt8} (hl : log.length ≤ 1000000) : ∀ (m a : Nat) (bg : Bool), log.length - a ≤ m → a ≤ log.length → (∀ s tw, ¬ Rec log a bg s tw) →
    ∃ K, ∀ k, K ≤ k → ∀ acc : List UInt8, acc.length ≤ a → frame_record.l k (B log) (a : Int) bg (B acc) = some (B [], 0)
  | m, a, bg, hm, ha, h => by
    rcases take_f log a hl ha with ⟨kd, s, hp, ht⟩ | ⟨hno, ht⟩
    · have hn := piece_next hp
      have hs : s.length ≤ 505 := Nat.le_trans hp.2.2.1 (spaceN_le a)
      have hx : nextN a s = a + padN a + (7 + s.length) := rfl
      by_cases hk : ∀ en, kd ≠ kindN bg en
      · refine ⟨1, fun k hk1 acc hacc => ?_⟩
        obtain ⟨k, rfl⟩ : ∃ k', k = k' + 1 := ⟨k - 1, by omega⟩
        rw [frame_record.l, ht]
        simp only [Option.bind_some]
        rw [bad_of hp.1 hp.2.1 hk, if_pos rfl]
        rfl
      · have hk2 : ∃ en, kd = kindN bg en := Classical.byContradiction fun hx => hk fun en he => hx ⟨en, he⟩
        obtain ⟨en, rfl⟩ := hk2
        cases en with
        | true => exact absurd (Rec.last a bg s hp) (h _ _)
        | false =>
          cases m with
          | zero => omega
          | succ m =>
            obtain ⟨K, hK⟩ := norec_p hl m (nextN a s) false (by omega) hn (fun t tw hr => h _ _ (.more a bg s t tw hp hr))
            refine ⟨K + 1, fun k hk1 acc hacc => ?_⟩
            obtain ⟨k, rfl⟩ : ∃ k', k = k' + 1 := ⟨k - 1, by omega⟩
            rw [frame_record.l, ht]
            simp only [Option.bind_some]
            rw [bad_kind, if_neg (by decide), B_size, B_size, if_pos (by omega), if_pos (by cases bg <;> decide), B_app, hK k (by omega) _ (by simp; omega)]
    · refine ⟨1, fun k hk1 acc hacc => ?_⟩
      obtain ⟨k, rfl⟩ : ∃ k', k = k' + 1 := ⟨k - 1, by omega⟩
      rw [frame_record.l, ht]
      simp only [Option.bind_some]
      rw [show frame_record.bad 0 bg = true from rfl, if_pos rfl]
      rfl
def asB (l : List (List UInt8 × Nat)) : List (ByteArray × Int) := l.map fun x => (B x.1, (x.2 : Int))
theorem recs_p {log : List UInt8} (hl : log.length ≤ 1000000) {a : Nat} {l : List (List UInt8 × Nat)} (h : Recs log a l) : a ≤ log.length →
    ∃ J K, ∀ k, K ≤ k → recs k (B log) J (a : Int) = some (asB l) := by
  induction h with
  | done a h =>
    intro ha
    obtain ⟨K, hK⟩ := norec_p hl _ a true (Nat.le_refl _) ha h
    refine ⟨1, K, fun k hk => ?_⟩
    have := hK k hk [] (by simp)
    rw [recs, frame_record.f, show (⟨#[]⟩ : ByteArray) = B [] from rfl, this]
    simp only [Option.bind_some]
    rw [if_pos trivial]
    rfl
  | more a s tw l h hr ih =>
    intro ha
    have hn := rec_next h
    obtain ⟨J, K, hJ⟩ := ih hn.2
    obtain ⟨K2, hK2⟩ := rec_p hl h
    refine ⟨J + 1, K + K2, fun k hk => ?_⟩
    have := hK2 k (by omega) [] (by simp)
    rw [recs, frame_record.f, show (⟨#[]⟩ : ByteArray) = B [] from rfl, this]
    simp only [Option.bind_some]
    rw [if_neg (by omega), hJ k (by omega)]
    rfl
end Go.Proofs.YteilnbnnhocciaaDoor.P

/-! KF25 -/
namespace Go.Proofs.YteilnbnnhocciaaDoor.KF
open Go.RowKit Go.Proofs.YteilnbnnhocciaaDoorW.PrintWords Go.Proofs.YteilnbnnhocciaaDoorW.PrintLast Go.Proofs.YteilnbnnhocciaaDoorW.PrintMore Go.Proofs.YteilnbnnhocciaaDoorM
attribute [local go_sem] max2_int min2_int max_two min_two max_three min_three max_four min_four
set_option linter.unusedVariables false
set_option linter.unusedSimpArgs false
mutual
def bourseref05_Records.l0 : Nat → ByteArray → List (S55) → ByteArray → Bool → Int → Option ((List (S55)))
  | 0, _, _, _, _, _ => none
  | k + 1, x0, x3, x4, x5, x6 => bourseref05_Records.l1 k x0 x3 x4 x5 x6
def bourseref05_Records.l1 : Nat → ByteArray → List (S55) → ByteArray → Bool → Int → Option ((List (S55)))
  | 0, _, _, _, _, _ => none
  | k + 1, x0, x3, x4, x5, x6 => (bourseref05_room.f x6).bind fun t139 => (if t139 < 7 then (if x6 ≥ (x0.size : Int) then (some x3) else (if 0 ≤ x6 then (if x6 < (x0.size : Int) then (if (bt x0 x6) = 0 then (bourseref05_Records.l1 k x0 x3 x4 x5 (wrap64 (x6 + 1))) else (some x3)) else (none)) else (none))) else (if (wrap64 (x6 + 7)) > (x0.size : Int) then (some x3) else (if 0 ≤ (wrap64 (x6 + 4)) then (if (wrap64 (x6 + 4)) < (x0.size : Int) then (if 0 ≤ (wrap64 (x6 + 5)) then (if (wrap64 (x6 + 5)) < (x0.size : Int) then (if 0 ≤ (wrap64 (x6 + 6)) then (if (wrap64 (x6 + 6)) < (x0.size : Int) then (if (bt x0 (wrap64 (x6 + 6))) < 1 then (bourseref05_Records.j2 k x0 x3 x4 x5 x6 (wrap64 ((wrap64 (bt x0 (wrap64 (x6 + 4)))) + (wrap64 (256 * (wrap64 (bt x0 (wrap64 (x6 + 5)))))))) (bt x0 (wrap64 (x6 + 6))) true) else (if (bt x0 (wrap64 (x6 + 6))) > 4 then (bourseref05_Records.j2 k x0 x3 x4 x5 x6 (wrap64 ((wrap64 (bt x0 (wrap64 (x6 + 4)))) + (wrap64 (256 * (wrap64 (bt x0 (wrap64 (x6 + 5)))))))) (bt x0 (wrap64 (x6 + 6))) true) else ((bourseref05_room.f x6).bind fun t140 => (if (wrap64 ((wrap64 (bt x0 (wrap64 (x6 + 4)))) + (wrap64 (256 * (wrap64 (bt x0 (wrap64 (x6 + 5)))))))) > (wrap64 (t140 - 7)) then (bourseref05_Records.j2 k x0 x3 x4 x5 x6 (wrap64 ((wrap64 (bt x0 (wrap64 (x6 + 4)))) + (wrap64 (256 * (wrap64 (bt x0 (wrap64 (x6 + 5)))))))) (bt x0 (wrap64 (x6 + 6))) true) else (bourseref05_Records.j2 k x0 x3 x4 x5 x6 (wrap64 ((wrap64 (bt x0 (wrap64 (x6 + 4)))) + (wrap64 (256 * (wrap64 (bt x0 (wrap64 (x6 + 5)))))))) (bt x0 (wrap64 (x6 + 6))) (decide ((wrap64 ((wrap64 (x6 + 7)) + (wrap64 ((wrap64 (bt x0 (wrap64 (x6 + 4)))) + (wrap64 (256 * (wrap64 (bt x0 (wrap64 (x6 + 5)))))))))) > (x0.size : Int)))))))) else (none)) else (none)) else (none)) else (none)) else (none)) else (none))))
def bourseref05_Records.j2 : Nat → ByteArray → List (S55) → ByteArray → Bool → Int → Int → Int → Bool → Option ((List (S55)))
  | 0, _, _, _, _, _, _, _, _ => none
  | k + 1, x0, x3, x4, x5, x6, x7, x8, x69 => if x69 = true then (some x3) else (if 0 ≤ (wrap64 (x6 + 7)) then (if (wrap64 (x6 + 7)) ≤ (wrap64 ((wrap64 (x6 + 7)) + x7)) then (if (wrap64 ((wrap64 (x6 + 7)) + x7)) ≤ (x0.size : Int) then ((bourseref05_sum.f k x8 (x0.extract ((wrap64 (x6 + 7)) : Int).toNat ((wrap64 ((wrap64 (x6 + 7)) + x7)) : Int).toNat)).bind fun t141 => (if 0 ≤ x6 then (if x6 ≤ (wrap64 (x6 + 4)) then (if (wrap64 (x6 + 4)) ≤ (x0.size : Int) then (if t141.toList = (x0.extract (x6 : Int).toNat ((wrap64 (x6 + 4)) : Int).toNat).toList then (bourseref05_Records.j3 k x0 x3 x4 x6 x7 x8 (x0.extract ((wrap64 (x6 + 7)) : Int).toNat ((wrap64 ((wrap64 (x6 + 7)) + x7)) : Int).toNat) (x5 != (decide (x8 > 2)))) else (bourseref05_Records.j3 k x0 x3 x4 x6 x7 x8 (x0.extract ((wrap64 (x6 + 7)) : Int).toNat ((wrap64 ((wrap64 (x6 + 7)) + x7)) : Int).toNat) true)) else (none)) else (none)) else (none))) else (none)) else (none)) else (none))
def bourseref05_Records.j3 : Nat → ByteArray → List (S55) → ByteArray → Int → Int → Int → ByteArray → Bool → Option ((List (S55)))
  | 0, _, _, _, _, _, _, _, _ => none
  | k + 1, x0, x3, x4, x6, x7, x8, x9, x93 => if x93 = true then (some x3) else (if x4.size + x9.size ≤ 9223372036854775807 then (if x8 = 2 then (bourseref05_Records.l0 k x0 x3 (x4 ++ x9) true (wrap64 ((wrap64 (x6 + 7)) + x7))) else (if x8 = 3 then (bourseref05_Records.l0 k x0 x3 (x4 ++ x9) (x8 == 3) (wrap64 ((wrap64 (x6 + 7)) + x7))) else (if x3.length < 5864062014805 then (bourseref05_Records.l0 k x0 (x3 ++ [(⟨x4 ++ x9, wrap64 ((wrap64 (x6 + 7)) + x7)⟩ : S55)]) (⟨#[]⟩ : ByteArray) (x8 == 3) (wrap64 ((wrap64 (x6 + 7)) + x7))) else (none)))) else (none))
end
def bourseref05_Records.f (k : Nat) (a0 : ByteArray) : Option ((List (S55))) := bourseref05_Records.l0 k a0 ([] : List (S55)) (⟨#[]⟩ : ByteArray) false 0
def bourseref05_Records.T11 : Bool × List (List Nat × List Nat) := (true, [([], []), ([], []), ([1], [1]), ([0, 2], [0, 2]), ([3], [3]), ([], []), ([], []), ([6], [6]), ([5, 7], [5, 7]), ([8], [8]), ([9], [9]), ([4, 10], [4, 10]), ([11, 0, 1, 2, 3, 4, 5, 6, 7, 8, 9, 10, 11], [11])])
def bourseref05_Records.B11 : List Nat := [0, 0, 2, 7, 15, 0, 0, 64, 224, 480, 992, 2047, 4095]
theorem bourseref05_Records.tab11 : rtab .any (opsOf Tryd.f25 11) = bourseref05_Records.T11 := by kernel_rfl
theorem bourseref05_Records.bits11 : waitsOk bourseref05_Records.T11.2 bourseref05_Records.B11 = true := by kernel_rfl
def bourseref05_Records.T16 : Bool × List (List Nat × List Nat) := (true, [([], []), ([], []), ([0, 1], [0, 1]), ([], []), ([], []), ([], []), ([5], [5]), ([3, 4, 6], [3, 4, 6]), ([2, 7], [2, 7]), ([8, 2], [8]), ([9], [9]), ([9], [9]), ([11, 9], [9, 11]), ([10, 12, 9], [9, 10, 12]), ([9, 13], [9, 13])])
def bourseref05_Records.B16 : List Nat := [0, 0, 3, 0, 0, 0, 32, 120, 255, 511, 1023, 1023, 3071, 8191, 16383]
theorem bourseref05_Records.tab16 : rtab .any (opsOf Tryd.f25 16) = bourseref05_Records.T16 := by kernel_rfl
theorem bourseref05_Records.bits16 : waitsOk bourseref05_Records.T16.2 bourseref05_Records.B16 = true := by kernel_rfl
set_option maxHeartbeats 8000000 in
set_option maxRecDepth 100000 in
theorem bourseref05_Records.calls (k : Nat) (a0 : ByteArray) (r : List (S55)) (w : World) (h : bourseref05_Records.f k a0 = some r) :
    Calls Tryd.prog 25 #[.string a0] w fun e w' => ∃ v0_ : Value, e = .returned (v0_) ∧ Kd.R k55 55 w' w.heap.size (fun _ => True) v0_ r ∧ Below w.heap.size w w' := by
  have hu55 := Tryd.underlying55
  have HB := Aside0.mk (Below.refl w.heap.size w)
  have H : (bourseref05_Records.l0 k a0 ([] : List (S55)) (⟨#[]⟩ : ByteArray) false 0) = some r := h
  clear h
  have H' := Aside0.mk H
  clear H
  go_enter Tryd.func25, Tryd.ntmps25
  go_wp2
  go_loopg [3, 4, 5, 6] k (fun kq v3 v4 v5 v6 w' => ∃ (x3_1 : List (S55)) (x4_1 : ByteArray) (x5_1 : Bool) (x6_1 : Int), v4 = .string x4_1 ∧ v5 = .bool x5_1 ∧ v6 = .int .i64 x6_1 ∧ Aside0 (bourseref05_Records.l0 kq a0 x3_1 x4_1 x5_1 x6_1 = some r) ∧ Aside0 (kq ≤ k) ∧ Aside0 (Kd.R k55 55 w' w.heap.size (fun _ => True) v3 x3_1) ∧ Aside0 (Below w.heap.size w w'))
  case atStart => exact ⟨(([] : List (S55))), ((⟨#[]⟩ : ByteArray)), (false), (0), (by first | rfl | (simp; done) | (simp [*]; done)), (by first | rfl | (simp; done) | (simp [*]; done)), (by first | rfl | (simp; done) | (simp [*]; done)), H', ⟨Nat.le_refl _⟩, ⟨by first | exact Kd.R_nil _ _ _ _ _ | exact Kd.N_nil _ _ _ _ _ | exact Kd.V_nil _ _ _ _ _ | exact Kd.Q_nil _ _ _ _ _ | exact Kd.S_nil _ _ _ _ _⟩, ⟨by repeat (first | (with_reducible first | exact HB.out | apply below_alloc | apply pw_below_drewN | apply below_drew1) | exact HB.out)⟩⟩
  case round =>
    clear H'
    obtain ⟨x3_1, x4_1, x5_1, x6_1, rfl, rfl, rfl, HA, HK1, HO_3, HB⟩ := hrel
    cases gk with
    | zero => exact absurd HA.out (by simp [bourseref05_Records.l0])
    | succ k1 =>
      have H := HA.out
      clear HA
      simp only [bourseref05_Records.l0] at H
      have H' := Aside0.mk H
      clear H
      go_wp2
      go_loopg [6] k1 (fun kq v6 w' => ∃ (x6_2 : Int), v6 = .int .i64 x6_2 ∧ Aside0 (bourseref05_Records.l1 kq a0 x3_1 x4_1 x5_1 x6_2 = some r) ∧ Aside0 (kq ≤ k1) ∧ Aside0 (Kd.R k55 55 w' w.heap.size (fun _ => True) u3 x3_1) ∧ Aside0 (Below w.heap.size w w'))
      case atStart => exact ⟨(x6_1), (by first | rfl | (simp; done) | (simp [*]; done)), H', ⟨Nat.le_refl _⟩, ⟨by (with_reducible repeat (first | apply Kd.R_alloc | apply Kd.R_drewN | apply Kd.R_drew)); exact HO_3.out⟩, ⟨by repeat (first | (with_reducible first | exact HB.out | apply below_alloc | apply pw_below_drewN | apply below_drew1) | exact HB.out)⟩⟩
      case round =>
        clear H'
        obtain ⟨x6_2, rfl, HA, HK2, HO_3, HB⟩ := hrel
        cases gk with
        | zero => exact absurd HA.out (by simp [bourseref05_Records.l1])
        | succ k2 =>
          have H := HA.out
          clear HA
          simp only [bourseref05_Records.l1] at H
          replace H := Option.bind_eq_some_iff.mp H
          obtain ⟨t139, A20, H⟩ := H
          replace H : (if t139 < 7 then (if x6_2 ≥ (a0.size : Int) then (some x3_1) else (if 0 ≤ x6_2 then (if x6_2 < (a0.size : Int) then (if (bt a0 x6_2) = 0 then (bourseref05_Records.l1 k2 a0 x3_1 x4_1 x5_1 (wrap64 (x6_2 + 1))) else (some x3_1)) else (none)) else (none))) else (if (wrap64 (x6_2 + 7)) > (a0.size : Int) then (some x3_1) else (if 0 ≤ (wrap64 (x6_2 + 4)) then (if (wrap64 (x6_2 + 4)) < (a0.size : Int) then (if 0 ≤ (wrap64 (x6_2 + 5)) then (if (wrap64 (x6_2 + 5)) < (a0.size : Int) then (if 0 ≤ (wrap64 (x6_2 + 6)) then (if (wrap64 (x6_2 + 6)) < (a0.size : Int) then (if (bt a0 (wrap64 (x6_2 + 6))) < 1 then (bourseref05_Records.j2 k2 a0 x3_1 x4_1 x5_1 x6_2 (wrap64 ((wrap64 (bt a0 (wrap64 (x6_2 + 4)))) + (wrap64 (256 * (wrap64 (bt a0 (wrap64 (x6_2 + 5)))))))) (bt a0 (wrap64 (x6_2 + 6))) true) else (if (bt a0 (wrap64 (x6_2 + 6))) > 4 then (bourseref05_Records.j2 k2 a0 x3_1 x4_1 x5_1 x6_2 (wrap64 ((wrap64 (bt a0 (wrap64 (x6_2 + 4)))) + (wrap64 (256 * (wrap64 (bt a0 (wrap64 (x6_2 + 5)))))))) (bt a0 (wrap64 (x6_2 + 6))) true) else ((bourseref05_room.f x6_2).bind fun t140 => (if (wrap64 ((wrap64 (bt a0 (wrap64 (x6_2 + 4)))) + (wrap64 (256 * (wrap64 (bt a0 (wrap64 (x6_2 + 5)))))))) > (wrap64 (t140 - 7)) then (bourseref05_Records.j2 k2 a0 x3_1 x4_1 x5_1 x6_2 (wrap64 ((wrap64 (bt a0 (wrap64 (x6_2 + 4)))) + (wrap64 (256 * (wrap64 (bt a0 (wrap64 (x6_2 + 5)))))))) (bt a0 (wrap64 (x6_2 + 6))) true) else (bourseref05_Records.j2 k2 a0 x3_1 x4_1 x5_1 x6_2 (wrap64 ((wrap64 (bt a0 (wrap64 (x6_2 + 4)))) + (wrap64 (256 * (wrap64 (bt a0 (wrap64 (x6_2 + 5)))))))) (bt a0 (wrap64 (x6_2 + 6))) (decide ((wrap64 ((wrap64 (x6_2 + 7)) + (wrap64 ((wrap64 (bt a0 (wrap64 (x6_2 + 4)))) + (wrap64 (256 * (wrap64 (bt a0 (wrap64 (x6_2 + 5)))))))))) > (a0.size : Int)))))))) else (none)) else (none)) else (none)) else (none)) else (none)) else (none)))) = some r := H
          have A2 := Aside0.mk A20
          clear A20
          by_cases c3 : t139 < 7
          · rw [if_pos c3] at H
            have c3b0 : decide (t139 < 7) = true := decide_eq_true c3
            clear c3
            by_cases c4 : x6_2 ≥ (a0.size : Int)
            · rw [if_pos c4] at H
              have c4b0 : decide ((a0.size : Int) ≤ x6_2) = true := decide_eq_true c4
              clear c4
              obtain rfl := Option.some.inj H
              go_wp2_with (first | ((with_reducible refine gate_callee (f := 73) rfl ?_); refine goesL_ (some 11) rfl rfl Tryd.func73 (by kernel_rfl) rfl #[.int .i64 x6_2] rfl (by (try simp only [List.map_toArray, List.map_cons, List.map_nil]); first | done | rfl | (simp only [List.length_drop, List.length_take]; rfl)) ?_; (with_reducible refine (bourseref05_room.calls x6_2 t139 _ A2.out).mono ?_); rintro e w' ⟨rfl, ⟨nd, rfl⟩⟩; refine ⟨_, rfl, ?_⟩))
              go_ret
              exact ⟨_, by first | rfl | (simp [errW_none, errW_some] <;> rfl) | (simp [*, errW_none, errW_some] <;> rfl), by (with_reducible repeat (first | apply Kd.R_alloc | apply Kd.R_drewN | apply Kd.R_drew)); exact HO_3.out, by repeat (first | (with_reducible first | exact HB.out | apply below_alloc | apply pw_below_drewN | apply below_drew1) | exact HB.out)⟩
            · rw [if_neg c4] at H
              have c4b0 : decide ((a0.size : Int) ≤ x6_2) = false := decide_eq_false c4
              clear c4
              by_cases c5 : 0 ≤ x6_2
              · rw [if_pos c5] at H
                have c5b0 : decide (0 ≤ x6_2) = true := decide_eq_true c5
                clear c5
                by_cases c6 : x6_2 < (a0.size : Int)
                · rw [if_pos c6] at H
                  have c6b0 : decide (x6_2 < (a0.size : Int)) = true := decide_eq_true c6
                  clear c6
                  by_cases c8 : (bt a0 x6_2) = 0
                  · rw [if_pos c8] at H
                    have c8b0 : ((bt a0 x6_2) == 0) = true := beq_iff_eq.mpr c8
                    have c8b1 : ((bt a0 x6_2) != 0) = false := bne_eq_false_iff_eq.mpr c8
                    clear c8
                    have H' := Aside0.mk H
                    clear H
                    go_wp2_with (first | ((with_reducible refine gate_callee (f := 73) rfl ?_); refine goesL_ (some 11) rfl rfl Tryd.func73 (by kernel_rfl) rfl #[.int .i64 x6_2] rfl (by (try simp only [List.map_toArray, List.map_cons, List.map_nil]); first | done | rfl | (simp only [List.length_drop, List.length_take]; rfl)) ?_; (with_reducible refine (bourseref05_room.calls x6_2 t139 _ A2.out).mono ?_); rintro e w' ⟨rfl, ⟨nd, rfl⟩⟩; refine ⟨_, rfl, ?_⟩; have p7 : 0 ≤ (x6_2 : Int) := of_decide_eq_true (by first | (with_reducible assumption) | assumption); have q7 : x6_2 < (a0.size : Int) := of_decide_eq_true (by first | (with_reducible assumption) | assumption); have hx7 := bt_at a0 x6_2; replace p7 := eq_true p7; replace q7 := eq_true q7))
                    go_roundg k2
                    case measure => have := HK1.out; have := HK2.out; omega
                    case rel => exact ⟨(wrap64 (x6_2 + 1)), (by first | rfl | (simp; done) | (simp [*]; done)), H', ⟨by have := HK1.out; have := HK2.out; omega⟩, ⟨by (with_reducible repeat (first | apply Kd.R_alloc | apply Kd.R_drewN | apply Kd.R_drew)); exact HO_3.out⟩, ⟨by repeat (first | (with_reducible first | exact HB.out | apply below_alloc | apply pw_below_drewN | apply below_drew1) | exact HB.out)⟩⟩
                  · rw [if_neg c8] at H
                    have c8b0 : ((bt a0 x6_2) == 0) = false := beq_eq_false_iff_ne.mpr c8
                    have c8b1 : ((bt a0 x6_2) != 0) = true := bne_iff_ne.mpr c8
                    obtain rfl := Option.some.inj H
                    go_wp2_with (first | ((with_reducible refine gate_callee (f := 73) rfl ?_); refine goesL_ (some 11) rfl rfl Tryd.func73 (by kernel_rfl) rfl #[.int .i64 x6_2] rfl (by (try simp only [List.map_toArray, List.map_cons, List.map_nil]); first | done | rfl | (simp only [List.length_drop, List.length_take]; rfl)) ?_; (with_reducible refine (bourseref05_room.calls x6_2 t139 _ A2.out).mono ?_); rintro e w' ⟨rfl, ⟨nd, rfl⟩⟩; refine ⟨_, rfl, ?_⟩; have p7 : 0 ≤ (x6_2 : Int) := of_decide_eq_true (by first | (with_reducible assumption) | assumption); have q7 : x6_2 < (a0.size : Int) := of_decide_eq_true (by first | (with_reducible assumption) | assumption); have hx7 := bt_at a0 x6_2; replace p7 := eq_true p7; replace q7 := eq_true q7))
                    go_ret
                    exact ⟨_, by first | rfl | (simp [errW_none, errW_some] <;> rfl) | (simp [*, errW_none, errW_some] <;> rfl), by (with_reducible repeat (first | apply Kd.R_alloc | apply Kd.R_drewN | apply Kd.R_drew)); exact HO_3.out, by repeat (first | (with_reducible first | exact HB.out | apply below_alloc | apply pw_below_drewN | apply below_drew1) | exact HB.out)⟩
                · rw [if_neg c6] at H
                  exact absurd H (by simp)
              · rw [if_neg c5] at H
                exact absurd H (by simp)
          · rw [if_neg c3] at H
            have c3b0 : decide (t139 < 7) = false := decide_eq_false c3
            clear c3
            by_cases c9 : (wrap64 (x6_2 + 7)) > (a0.size : Int)
            · rw [if_pos c9] at H
              have c9b0 : decide ((a0.size : Int) < (wrap64 (x6_2 + 7))) = true := decide_eq_true c9
              clear c9
              obtain rfl := Option.some.inj H
              go_wp2_with (first | ((with_reducible refine gate_callee (f := 73) rfl ?_); refine goesL_ (some 11) rfl rfl Tryd.func73 (by kernel_rfl) rfl #[.int .i64 x6_2] rfl (by (try simp only [List.map_toArray, List.map_cons, List.map_nil]); first | done | rfl | (simp only [List.length_drop, List.length_take]; rfl)) ?_; (with_reducible refine (bourseref05_room.calls x6_2 t139 _ A2.out).mono ?_); rintro e w' ⟨rfl, ⟨nd, rfl⟩⟩; refine ⟨_, rfl, ?_⟩))
              go_ret
              exact ⟨_, by first | rfl | (simp [errW_none, errW_some] <;> rfl) | (simp [*, errW_none, errW_some] <;> rfl), by (with_reducible repeat (first | apply Kd.R_alloc | apply Kd.R_drewN | apply Kd.R_drew)); exact HO_3.out, by repeat (first | (with_reducible first | exact HB.out | apply below_alloc | apply pw_below_drewN | apply below_drew1) | exact HB.out)⟩
            · rw [if_neg c9] at H
              have c9b0 : decide ((a0.size : Int) < (wrap64 (x6_2 + 7))) = false := decide_eq_false c9
              clear c9
              obtain ⟨ji10, hji10⟩ : ∃ j_ : Int, (wrap64 (x6_2 + 4)) = j_ := ⟨_, rfl⟩
              replace H : (if 0 ≤ (ji10) then (if (ji10) < (a0.size : Int) then (if 0 ≤ (wrap64 (x6_2 + 5)) then (if (wrap64 (x6_2 + 5)) < (a0.size : Int) then (if 0 ≤ (wrap64 (x6_2 + 6)) then (if (wrap64 (x6_2 + 6)) < (a0.size : Int) then (if (bt a0 (wrap64 (x6_2 + 6))) < 1 then (bourseref05_Records.j2 k2 a0 x3_1 x4_1 x5_1 x6_2 (wrap64 ((wrap64 (bt a0 (ji10))) + (wrap64 (256 * (wrap64 (bt a0 (wrap64 (x6_2 + 5)))))))) (bt a0 (wrap64 (x6_2 + 6))) true) else (if (bt a0 (wrap64 (x6_2 + 6))) > 4 then (bourseref05_Records.j2 k2 a0 x3_1 x4_1 x5_1 x6_2 (wrap64 ((wrap64 (bt a0 (ji10))) + (wrap64 (256 * (wrap64 (bt a0 (wrap64 (x6_2 + 5)))))))) (bt a0 (wrap64 (x6_2 + 6))) true) else ((bourseref05_room.f x6_2).bind fun t140 => (if (wrap64 ((wrap64 (bt a0 (ji10))) + (wrap64 (256 * (wrap64 (bt a0 (wrap64 (x6_2 + 5)))))))) > (wrap64 (t140 - 7)) then (bourseref05_Records.j2 k2 a0 x3_1 x4_1 x5_1 x6_2 (wrap64 ((wrap64 (bt a0 (ji10))) + (wrap64 (256 * (wrap64 (bt a0 (wrap64 (x6_2 + 5)))))))) (bt a0 (wrap64 (x6_2 + 6))) true) else (bourseref05_Records.j2 k2 a0 x3_1 x4_1 x5_1 x6_2 (wrap64 ((wrap64 (bt a0 (ji10))) + (wrap64 (256 * (wrap64 (bt a0 (wrap64 (x6_2 + 5)))))))) (bt a0 (wrap64 (x6_2 + 6))) (decide ((wrap64 ((wrap64 (x6_2 + 7)) + (wrap64 ((wrap64 (bt a0 (ji10))) + (wrap64 (256 * (wrap64 (bt a0 (wrap64 (x6_2 + 5)))))))))) > (a0.size : Int)))))))) else (none)) else (none)) else (none)) else (none)) else (none)) else (none)) = some r := by first | (rw [hji10] at H; exact H) | (simp only [hji10] at H ⊢; exact H)
              (try rw [hji10] at A2)
              have hji10w : (IntKind.i64.wrap (x6_2 + 4)) = ji10 := (i64_w _).trans hji10
              by_cases c11 : 0 ≤ (ji10)
              · rw [if_pos c11] at H
                have c11b0 : decide (0 ≤ (ji10)) = true := decide_eq_true c11
                clear c11
                by_cases c12 : (ji10) < (a0.size : Int)
                · rw [if_pos c12] at H
                  have c12b0 : decide ((ji10) < (a0.size : Int)) = true := decide_eq_true c12
                  clear c12
                  obtain ⟨ji14, hji14⟩ : ∃ j_ : Int, (wrap64 (x6_2 + 5)) = j_ := ⟨_, rfl⟩
                  replace H : (if 0 ≤ (ji14) then (if (ji14) < (a0.size : Int) then (if 0 ≤ (wrap64 (x6_2 + 6)) then (if (wrap64 (x6_2 + 6)) < (a0.size : Int) then (if (bt a0 (wrap64 (x6_2 + 6))) < 1 then (bourseref05_Records.j2 k2 a0 x3_1 x4_1 x5_1 x6_2 (wrap64 ((wrap64 (bt a0 (ji10))) + (wrap64 (256 * (wrap64 (bt a0 (ji14))))))) (bt a0 (wrap64 (x6_2 + 6))) true) else (if (bt a0 (wrap64 (x6_2 + 6))) > 4 then (bourseref05_Records.j2 k2 a0 x3_1 x4_1 x5_1 x6_2 (wrap64 ((wrap64 (bt a0 (ji10))) + (wrap64 (256 * (wrap64 (bt a0 (ji14))))))) (bt a0 (wrap64 (x6_2 + 6))) true) else ((bourseref05_room.f x6_2).bind fun t140 => (if (wrap64 ((wrap64 (bt a0 (ji10))) + (wrap64 (256 * (wrap64 (bt a0 (ji14))))))) > (wrap64 (t140 - 7)) then (bourseref05_Records.j2 k2 a0 x3_1 x4_1 x5_1 x6_2 (wrap64 ((wrap64 (bt a0 (ji10))) + (wrap64 (256 * (wrap64 (bt a0 (ji14))))))) (bt a0 (wrap64 (x6_2 + 6))) true) else (bourseref05_Records.j2 k2 a0 x3_1 x4_1 x5_1 x6_2 (wrap64 ((wrap64 (bt a0 (ji10))) + (wrap64 (256 * (wrap64 (bt a0 (ji14))))))) (bt a0 (wrap64 (x6_2 + 6))) (decide ((wrap64 ((wrap64 (x6_2 + 7)) + (wrap64 ((wrap64 (bt a0 (ji10))) + (wrap64 (256 * (wrap64 (bt a0 (ji14))))))))) > (a0.size : Int)))))))) else (none)) else (none)) else (none)) else (none)) = some r := by first | (rw [hji14] at H; exact H) | (simp only [hji14] at H ⊢; exact H)
                  (try rw [hji14] at A2)
                  have hji14w : (IntKind.i64.wrap (x6_2 + 5)) = ji14 := (i64_w _).trans hji14
                  by_cases c15 : 0 ≤ (ji14)
                  · rw [if_pos c15] at H
                    have c15b0 : decide (0 ≤ (ji14)) = true := decide_eq_true c15
                    clear c15
                    by_cases c16 : (ji14) < (a0.size : Int)
                    · rw [if_pos c16] at H
                      have c16b0 : decide ((ji14) < (a0.size : Int)) = true := decide_eq_true c16
                      clear c16
                      obtain ⟨ji18, hji18⟩ : ∃ j_ : Int, (wrap64 (x6_2 + 6)) = j_ := ⟨_, rfl⟩
                      replace H : (if 0 ≤ (ji18) then (if (ji18) < (a0.size : Int) then (if (bt a0 (ji18)) < 1 then (bourseref05_Records.j2 k2 a0 x3_1 x4_1 x5_1 x6_2 (wrap64 ((wrap64 (bt a0 (ji10))) + (wrap64 (256 * (wrap64 (bt a0 (ji14))))))) (bt a0 (ji18)) true) else (if (bt a0 (ji18)) > 4 then (bourseref05_Records.j2 k2 a0 x3_1 x4_1 x5_1 x6_2 (wrap64 ((wrap64 (bt a0 (ji10))) + (wrap64 (256 * (wrap64 (bt a0 (ji14))))))) (bt a0 (ji18)) true) else ((bourseref05_room.f x6_2).bind fun t140 => (if (wrap64 ((wrap64 (bt a0 (ji10))) + (wrap64 (256 * (wrap64 (bt a0 (ji14))))))) > (wrap64 (t140 - 7)) then (bourseref05_Records.j2 k2 a0 x3_1 x4_1 x5_1 x6_2 (wrap64 ((wrap64 (bt a0 (ji10))) + (wrap64 (256 * (wrap64 (bt a0 (ji14))))))) (bt a0 (ji18)) true) else (bourseref05_Records.j2 k2 a0 x3_1 x4_1 x5_1 x6_2 (wrap64 ((wrap64 (bt a0 (ji10))) + (wrap64 (256 * (wrap64 (bt a0 (ji14))))))) (bt a0 (ji18)) (decide ((wrap64 ((wrap64 (x6_2 + 7)) + (wrap64 ((wrap64 (bt a0 (ji10))) + (wrap64 (256 * (wrap64 (bt a0 (ji14))))))))) > (a0.size : Int)))))))) else (none)) else (none)) = some r := by first | (rw [hji18] at H; exact H) | (simp only [hji18] at H ⊢; exact H)
                      (try rw [hji18] at A2)
                      have hji18w : (IntKind.i64.wrap (x6_2 + 6)) = ji18 := (i64_w _).trans hji18
                      by_cases c19 : 0 ≤ (ji18)
                      · rw [if_pos c19] at H
                        have c19b0 : decide (0 ≤ (ji18)) = true := decide_eq_true c19
                        clear c19
                        by_cases c20 : (ji18) < (a0.size : Int)
                        · rw [if_pos c20] at H
                          have c20b0 : decide ((ji18) < (a0.size : Int)) = true := decide_eq_true c20
                          clear c20
                          have HC22 := Aside0.mk H
                          clear H
                          try go_wp2_with (first | ((with_reducible refine gate_callee (f := 73) rfl ?_); refine goesL_ (some 11) rfl rfl Tryd.func73 (by kernel_rfl) rfl #[.int .i64 x6_2] rfl (by (try simp only [List.map_toArray, List.map_cons, List.map_nil]); first | done | rfl | (simp only [List.length_drop, List.length_take]; rfl)) ?_; (with_reducible refine (bourseref05_room.calls x6_2 t139 _ A2.out).mono ?_); rintro e w' ⟨rfl, ⟨nd, rfl⟩⟩; refine ⟨_, rfl, ?_⟩))
                          (try (rw [drewN_self wr]; generalize hq_ : World.drewN wr _ = wr; have n0_ : Aside0 (Kd.R k55 55 wr w.heap.size (fun _ => True) u3 x3_1) := ⟨by rw [← hq_]; exact (by (with_reducible repeat (first | apply Kd.R_alloc | apply Kd.R_drewN | apply Kd.R_drew)); exact HO_3.out)⟩; have n1_ : Aside0 (Below w.heap.size w wr) := ⟨by rw [← hq_]; exact (by repeat (first | (with_reducible first | exact HB.out | apply below_alloc | apply pw_below_drewN | apply below_drew1) | exact HB.out))⟩; clear HO_3 HB hq_; have HO_3 := n0_; have HB := n1_; clear n0_ n1_))
                          have n0_ := Aside0.mk (Kd.R_drew HO_3.out)
                          have n1_ := Aside0.mk (below_drew1 HB.out)
                          clear HO_3
                          clear HB
                          have HO_3 := n0_
                          have HB := n1_
                          clear n0_ n1_
                          have p13 : 0 ≤ ((ji10) : Int) := of_decide_eq_true (by first | (with_reducible assumption) | assumption)
                          have q13 : (ji10) < (a0.size : Int) := of_decide_eq_true (by first | (with_reducible assumption) | assumption)
                          have hx13 := bt_at a0 (ji10)
                          replace p13 := eq_true p13
                          replace q13 := eq_true q13
                          have p17 : 0 ≤ ((ji14) : Int) := of_decide_eq_true (by first | (with_reducible assumption) | assumption)
                          have q17 : (ji14) < (a0.size : Int) := of_decide_eq_true (by first | (with_reducible assumption) | assumption)
                          have hx17 := bt_at a0 (ji14)
                          replace p17 := eq_true p17
                          replace q17 := eq_true q17
                          refine start_ (n := 13) (S := fun w' => True) (ds := []) #[false, false, false, false, false, false, false, false, false, false, false, false, false] (by kernel_rfl) rfl rfl trivial (fun hHeld => ?_); refine with_tabW bourseref05_Records.tab11 bourseref05_Records.bits11 (fun HT_ HW_ => ?_)
                          generalize wr.drew = w23 at HO_3 HB hHeld ⊢
                          refine pure_ (i := 0) (N := some 32) (v := ?_) (a' := ?_) #[true, false, false, false, false, false, false, false, false, false, false, false, false] rfl rfl (any_of HT_.out (by kernel_rfl)) (fun _ _ _ h => h) (Or.inl ⟨by rfl, ?_⟩) ?_ ?_
                          rotate_left
                          · intro w'
                            go_simp
                            with_reducible rfl
                          rotate_left
                          · simp only [Act.put, List.setIfInBounds_toArray, List.set_cons_zero, List.set_cons_succ, i64_w, i32_w]
                            rfl
                          refine pure_ (i := 1) (N := some 33) (v := ?_) (a' := ?_) #[true, true, false, false, false, false, false, false, false, false, false, false, false] rfl rfl (any_of HT_.out (by kernel_rfl)) (fun _ _ _ h => h) (Or.inl ⟨by rfl, ?_⟩) ?_ ?_
                          rotate_left
                          · intro w'
                            go_simp
                            with_reducible rfl
                          rotate_left
                          · simp only [Act.put, List.setIfInBounds_toArray, List.set_cons_zero, List.set_cons_succ, i64_w, i32_w]
                            rfl
                          refine pure_ (i := 2) (N := some 34) (v := ?_) (a' := ?_) #[true, true, true, false, false, false, false, false, false, false, false, false, false] rfl rfl (any_of HT_.out (by kernel_rfl)) (fun _ _ _ h => h) (Or.inl ⟨by rfl, ?_⟩) ?_ ?_
                          rotate_left
                          · intro w'
                            go_simp
                            with_reducible rfl
                          rotate_left
                          · simp only [Act.put, List.setIfInBounds_toArray, List.set_cons_zero, List.set_cons_succ, i64_w, i32_w]
                            rfl
                          refine pure_ (i := 5) (N := some 37) (v := ?_) (a' := ?_) #[true, true, true, false, false, true, false, false, false, false, false, false, false] rfl rfl (any_of HT_.out (by kernel_rfl)) (fun _ _ _ h => h) (Or.inl ⟨by rfl, ?_⟩) ?_ ?_
                          rotate_left
                          · intro w'
                            go_simp
                            with_reducible rfl
                          rotate_left
                          · simp only [Act.put, List.setIfInBounds_toArray, List.set_cons_zero, List.set_cons_succ, i64_w, i32_w]
                            rfl
                          refine pure_ (i := 6) (N := some 38) (v := ?_) (a' := ?_) #[true, true, true, false, false, true, true, false, false, false, false, false, false] rfl rfl (any_of HT_.out (by kernel_rfl)) (fun _ _ _ h => h) (Or.inl ⟨by rfl, ?_⟩) ?_ ?_
                          rotate_left
                          · intro w'
                            go_simp
                            with_reducible rfl
                          rotate_left
                          · simp only [Act.put, List.setIfInBounds_toArray, List.set_cons_zero, List.set_cons_succ, i64_w, i32_w]
                            rfl
                          refine pure_ (i := 7) (N := some 39) (v := ?_) (a' := ?_) #[true, true, true, false, false, true, true, true, false, false, false, false, false] rfl rfl (any_of HT_.out (by kernel_rfl)) (fun _ _ _ h => h) (Or.inl ⟨by rfl, ?_⟩) ?_ ?_
                          rotate_left
                          · intro w'
                            go_simp
                            with_reducible rfl
                          rotate_left
                          · simp only [Act.put, List.setIfInBounds_toArray, List.set_cons_zero, List.set_cons_succ, i64_w, i32_w]
                            rfl
                          refine take_ (i := 3) (N := some 35) (v := ?_) (a' := ?_) #[true, true, true, true, false, true, true, true, false, false, false, false, false] rfl rfl (take_ofW HT_.out HW_.out (by kernel_rfl)) (fun _ _ _ h => h) (Or.inl ⟨by rfl, ?_⟩) hHeld ?_ ?_
                          rotate_left
                          · intro w' _
                            go_simp
                            with_reducible rfl
                          rotate_left
                          · simp only [Act.put, List.setIfInBounds_toArray, List.set_cons_zero, List.set_cons_succ, i64_w, i32_w]
                            rfl
                          refine pure_ (i := 4) (N := some 36) (v := ?_) (a' := ?_) #[true, true, true, true, true, true, true, true, false, false, false, false, false] rfl rfl (any_of HT_.out (by kernel_rfl)) (fun _ _ _ h => h) (Or.inl ⟨by rfl, ?_⟩) ?_ ?_
                          rotate_left
                          · intro w'
                            go_simp
                            with_reducible rfl
                          rotate_left
                          · simp only [Act.put, List.setIfInBounds_toArray, List.set_cons_zero, List.set_cons_succ, i64_w, i32_w]
                            rfl
                          refine take_ (i := 8) (N := some 40) (v := ?_) (a' := ?_) #[true, true, true, true, true, true, true, true, true, false, false, false, false] rfl rfl (take_ofW HT_.out HW_.out (by kernel_rfl)) (fun _ _ _ h => h) (Or.inl ⟨by rfl, ?_⟩) hHeld ?_ ?_
                          rotate_left
                          · intro w' _
                            go_simp
                            with_reducible rfl
                          rotate_left
                          · simp only [Act.put, List.setIfInBounds_toArray, List.set_cons_zero, List.set_cons_succ, i64_w, i32_w]
                            rfl
                          refine pure_ (i := 9) (N := some 41) (v := ?_) (a' := ?_) #[true, true, true, true, true, true, true, true, true, true, false, false, false] rfl rfl (any_of HT_.out (by kernel_rfl)) (fun _ _ _ h => h) (Or.inl ⟨by rfl, ?_⟩) ?_ ?_
                          rotate_left
                          · intro w'
                            go_simp
                            with_reducible rfl
                          rotate_left
                          · simp only [Act.put, List.setIfInBounds_toArray, List.set_cons_zero, List.set_cons_succ, i64_w, i32_w]
                            rfl
                          refine pure_ (i := 10) (N := some 42) (v := ?_) (a' := ?_) #[true, true, true, true, true, true, true, true, true, true, true, false, false] rfl rfl (any_of HT_.out (by kernel_rfl)) (fun _ _ _ h => h) (Or.inl ⟨by rfl, ?_⟩) ?_ ?_
                          rotate_left
                          · intro w'
                            go_simp
                            with_reducible rfl
                          rotate_left
                          · simp only [Act.put, List.setIfInBounds_toArray, List.set_cons_zero, List.set_cons_succ, i64_w, i32_w]
                            rfl
                          refine pure_ (i := 11) (N := some 43) (v := ?_) (a' := ?_) #[true, true, true, true, true, true, true, true, true, true, true, true, false] rfl rfl (any_of HT_.out (by kernel_rfl)) (fun _ _ _ h => h) (Or.inl ⟨by rfl, ?_⟩) ?_ ?_
                          rotate_left
                          · intro w'
                            go_simp
                            with_reducible rfl
                          rotate_left
                          · simp only [Act.put, List.setIfInBounds_toArray, List.set_cons_zero, List.set_cons_succ, i64_w, i32_w]
                            rfl
                          refine pure_ (i := 12) (N := some 7) (v := ?_) (a' := ?_) #[true, true, true, true, true, true, true, true, true, true, true, true, true] rfl rfl (any_of HT_.out (by kernel_rfl)) (fun _ _ _ h => h) (Or.inl ⟨by rfl, ?_⟩) ?_ ?_
                          rotate_left
                          · intro w'
                            go_simp
                            with_reducible rfl
                          rotate_left
                          · simp only [Act.put, List.setIfInBounds_toArray, List.set_cons_zero, List.set_cons_succ, i64_w, i32_w]
                            rfl
                          refine done_ (done_of HT_.out (by kernel_rfl)) ?_
                          have p21 : 0 ≤ ((ji18) : Int) := of_decide_eq_true (by first | (with_reducible assumption) | assumption)
                          have q21 : (ji18) < (a0.size : Int) := of_decide_eq_true (by first | (with_reducible assumption) | assumption)
                          have hx21 := bt_at a0 (ji18)
                          replace p21 := eq_true p21
                          replace q21 := eq_true q21
                          go_upto_region 13 with (fail)
                          go_cut [69] (fun v69 wc => ∃ (kq : Nat) (x69_21 : Bool), v69 = .bool x69_21 ∧ Aside0 (bourseref05_Records.j2 kq a0 x3_1 x4_1 x5_1 x6_2 (wrap64 ((wrap64 (bt a0 (ji10))) + (wrap64 (256 * (wrap64 (bt a0 (ji14))))))) (bt a0 (ji18)) x69_21 = some r) ∧ Aside0 (kq ≤ k2) ∧ Aside0 (Kd.R k55 55 wc w.heap.size (fun _ => True) u3 x3_1) ∧ Aside0 (Below w.heap.size w wc))
                          case first =>
                            have H := HC22.out
                            try simp only [hji10, hji14, hji18] at H
                            clear HC22
                            by_cases c24 : (bt a0 (ji18)) < 1
                            · rw [if_pos c24] at H
                              have c24b0 : decide ((bt a0 (ji18)) < 1) = true := decide_eq_true c24
                              clear c24
                              (first | rw [c24b0] | (simp only [i64_w, i32_w]; rw [c24b0]) | skip)
                              have H' := Aside0.mk H
                              clear H
                              go_wp2
                              go_meet
                              case rel => exact ⟨_, (true), (by first | rfl | (simp; done) | (simp [*]; done)), H', ⟨by have := HK1.out; have := HK2.out; first | omega | exact Nat.le_refl _⟩, ⟨by (with_reducible repeat (first | apply Kd.R_alloc | apply Kd.R_drewN | apply Kd.R_drew)); exact HO_3.out⟩, ⟨by repeat (first | (with_reducible first | exact HB.out | apply below_alloc | apply pw_below_drewN | apply below_drew1) | exact HB.out)⟩⟩
                            · rw [if_neg c24] at H
                              have c24b0 : decide ((bt a0 (ji18)) < 1) = false := decide_eq_false c24
                              clear c24
                              (first | rw [c24b0] | (simp only [i64_w, i32_w]; rw [c24b0]) | skip)
                              by_cases c25 : (bt a0 (ji18)) > 4
                              · rw [if_pos c25] at H
                                have c25b0 : decide (4 < (bt a0 (ji18))) = true := decide_eq_true c25
                                clear c25
                                have H' := Aside0.mk H
                                clear H
                                go_wp2
                                go_meet
                                case rel => exact ⟨_, (true), (by first | rfl | (simp; done) | (simp [*]; done)), H', ⟨by have := HK1.out; have := HK2.out; first | omega | exact Nat.le_refl _⟩, ⟨by (with_reducible repeat (first | apply Kd.R_alloc | apply Kd.R_drewN | apply Kd.R_drew)); exact HO_3.out⟩, ⟨by repeat (first | (with_reducible first | exact HB.out | apply below_alloc | apply pw_below_drewN | apply below_drew1) | exact HB.out)⟩⟩
                              · rw [if_neg c25] at H
                                have c25b0 : decide (4 < (bt a0 (ji18))) = false := decide_eq_false c25
                                clear c25
                                replace H := Option.bind_eq_some_iff.mp H
                                obtain ⟨t140, A260, H⟩ := H
                                replace H : (if (wrap64 ((wrap64 (bt a0 (ji10))) + (wrap64 (256 * (wrap64 (bt a0 (ji14))))))) > (wrap64 (t140 - 7)) then (bourseref05_Records.j2 k2 a0 x3_1 x4_1 x5_1 x6_2 (wrap64 ((wrap64 (bt a0 (ji10))) + (wrap64 (256 * (wrap64 (bt a0 (ji14))))))) (bt a0 (ji18)) true) else (bourseref05_Records.j2 k2 a0 x3_1 x4_1 x5_1 x6_2 (wrap64 ((wrap64 (bt a0 (ji10))) + (wrap64 (256 * (wrap64 (bt a0 (ji14))))))) (bt a0 (ji18)) (decide ((wrap64 ((wrap64 (x6_2 + 7)) + (wrap64 ((wrap64 (bt a0 (ji10))) + (wrap64 (256 * (wrap64 (bt a0 (ji14))))))))) > (a0.size : Int))))) = some r := (by first | exact H | (simp only [hji10, hji14, hji18] at H; exact H))
                                have A26 := Aside0.mk A260
                                clear A260
                                by_cases c27 : (wrap64 ((wrap64 (bt a0 (ji10))) + (wrap64 (256 * (wrap64 (bt a0 (ji14))))))) > (wrap64 (t140 - 7))
                                · rw [if_pos c27] at H
                                  have c27b0 : decide ((wrap64 (t140 - 7)) < (wrap64 ((wrap64 (bt a0 (ji10))) + (wrap64 (256 * (wrap64 (bt a0 (ji14)))))))) = true := decide_eq_true c27
                                  clear c27
                                  have H' := Aside0.mk H
                                  clear H
                                  go_wp2_with (first | (go_at_call 73; (with_reducible refine (bourseref05_room.calls x6_2 t140 _ A26.out).mono ?_); rintro e w' ⟨rfl, ⟨nd, rfl⟩⟩))
                                  go_meet
                                  case rel => exact ⟨_, (true), (by first | rfl | (simp; done) | (simp [*]; done)), H', ⟨by have := HK1.out; have := HK2.out; first | omega | exact Nat.le_refl _⟩, ⟨by (with_reducible repeat (first | apply Kd.R_alloc | apply Kd.R_drewN | apply Kd.R_drew)); exact HO_3.out⟩, ⟨by repeat (first | (with_reducible first | exact HB.out | apply below_alloc | apply pw_below_drewN | apply below_drew1) | exact HB.out)⟩⟩
                                · rw [if_neg c27] at H
                                  have c27b0 : decide ((wrap64 (t140 - 7)) < (wrap64 ((wrap64 (bt a0 (ji10))) + (wrap64 (256 * (wrap64 (bt a0 (ji14)))))))) = false := decide_eq_false c27
                                  clear c27
                                  have H' := Aside0.mk H
                                  clear H
                                  go_wp2_with (first | (go_at_call 73; (with_reducible refine (bourseref05_room.calls x6_2 t140 _ A26.out).mono ?_); rintro e w' ⟨rfl, ⟨nd, rfl⟩⟩))
                                  go_meet
                                  case rel => exact ⟨_, (decide ((wrap64 ((wrap64 (x6_2 + 7)) + (wrap64 ((wrap64 (bt a0 (ji10))) + (wrap64 (256 * (wrap64 (bt a0 (ji14))))))))) > (a0.size : Int))), (by first | rfl | (simp; done) | (simp only [← hji10, ← hji14] <;> (first | rfl | (simp; done))) | (simp [*]; done)), H', ⟨by have := HK1.out; have := HK2.out; first | omega | exact Nat.le_refl _⟩, ⟨by (with_reducible repeat (first | apply Kd.R_alloc | apply Kd.R_drewN | apply Kd.R_drew)); exact HO_3.out⟩, ⟨by repeat (first | (with_reducible first | exact HB.out | apply below_alloc | apply pw_below_drewN | apply below_drew1) | exact HB.out)⟩⟩
                          case rest =>
                            clear HC22
                            try clear c1
                            try clear p1
                            try clear q1
                            try clear hx1
                            try clear c2
                            try clear p2
                            try clear q2
                            try clear hx2
                            try clear c3
                            try clear c3b0
                            try clear c4
                            try clear c4b0
                            try clear c5
                            try clear c5b0
                            try clear c6
                            try clear c6b0
                            try clear p6
                            try clear c7
                            try clear p7
                            try clear q7
                            try clear hx7
                            try clear c8
                            try clear c8b0
                            try clear c8b1
                            try clear c9
                            try clear c9b0
                            try clear c11
                            try clear c11b0
                            try clear c12
                            try clear c12b0
                            try clear p13
                            try clear q13
                            try clear hx13
                            try clear c15
                            try clear c15b0
                            try clear c16
                            try clear c16b0
                            try clear p17
                            try clear q17
                            try clear hx17
                            try clear c19
                            try clear c19b0
                            try clear c20
                            try clear c20b0
                            try clear p21
                            try clear q21
                            try clear hx21
                            try clear c24
                            try clear c24b0
                            try clear c25
                            try clear c25b0
                            try clear c27
                            try clear c27b0
                            try clear p13
                            try clear p17
                            try clear p21
                            try clear p7
                            try clear q13
                            try clear q17
                            try clear q21
                            try clear q7
                            obtain ⟨kq, x69_21, rfl, HA, HJ21, HO_3, HB⟩ := hcut
                            cases kq with
                            | zero => exact absurd HA.out (by simp [bourseref05_Records.j2])
                            | succ kj21 =>
                              have H := HA.out
                              clear HA
                              simp only [bourseref05_Records.j2] at H
                              try simp only [hji10, hji14, hji18] at H
                              by_cases c28 : x69_21 = true
                              · subst c28
                                have H1 : (some x3_1) = some r := by rw [if_pos rfl] at H; exact H
                                clear H
                                have H := H1
                                clear H1
                                obtain rfl := Option.some.inj H
                                go_wp2
                                go_ret
                                exact ⟨_, by first | rfl | (simp [errW_none, errW_some] <;> rfl) | (simp only [← hji10, ← hji14, ← hji18]; first | rfl | (simp [errW_none, errW_some] <;> rfl)) | (simp [*, errW_none, errW_some] <;> rfl), by (with_reducible repeat (first | apply Kd.R_alloc | apply Kd.R_drewN | apply Kd.R_drew)); exact HO_3.out, by repeat (first | (with_reducible first | exact HB.out | apply below_alloc | apply pw_below_drewN | apply below_drew1) | exact HB.out)⟩
                              · replace c28 := Bool.eq_false_iff.mpr c28
                                subst c28
                                have H1 : (if 0 ≤ (wrap64 (x6_2 + 7)) then (if (wrap64 (x6_2 + 7)) ≤ (wrap64 ((wrap64 (x6_2 + 7)) + (wrap64 ((wrap64 (bt a0 (ji10))) + (wrap64 (256 * (wrap64 (bt a0 (ji14))))))))) then (if (wrap64 ((wrap64 (x6_2 + 7)) + (wrap64 ((wrap64 (bt a0 (ji10))) + (wrap64 (256 * (wrap64 (bt a0 (ji14))))))))) ≤ (a0.size : Int) then ((bourseref05_sum.f kj21 (bt a0 (ji18)) (a0.extract ((wrap64 (x6_2 + 7)) : Int).toNat ((wrap64 ((wrap64 (x6_2 + 7)) + (wrap64 ((wrap64 (bt a0 (ji10))) + (wrap64 (256 * (wrap64 (bt a0 (ji14))))))))) : Int).toNat)).bind fun t141 => (if 0 ≤ x6_2 then (if x6_2 ≤ (ji10) then (if (ji10) ≤ (a0.size : Int) then (if t141.toList = (a0.extract (x6_2 : Int).toNat ((ji10) : Int).toNat).toList then (bourseref05_Records.j3 kj21 a0 x3_1 x4_1 x6_2 (wrap64 ((wrap64 (bt a0 (ji10))) + (wrap64 (256 * (wrap64 (bt a0 (ji14))))))) (bt a0 (ji18)) (a0.extract ((wrap64 (x6_2 + 7)) : Int).toNat ((wrap64 ((wrap64 (x6_2 + 7)) + (wrap64 ((wrap64 (bt a0 (ji10))) + (wrap64 (256 * (wrap64 (bt a0 (ji14))))))))) : Int).toNat) (x5_1 != (decide ((bt a0 (ji18)) > 2)))) else (bourseref05_Records.j3 kj21 a0 x3_1 x4_1 x6_2 (wrap64 ((wrap64 (bt a0 (ji10))) + (wrap64 (256 * (wrap64 (bt a0 (ji14))))))) (bt a0 (ji18)) (a0.extract ((wrap64 (x6_2 + 7)) : Int).toNat ((wrap64 ((wrap64 (x6_2 + 7)) + (wrap64 ((wrap64 (bt a0 (ji10))) + (wrap64 (256 * (wrap64 (bt a0 (ji14))))))))) : Int).toNat) true)) else (none)) else (none)) else (none))) else (none)) else (none)) else (none)) = some r := by rw [if_neg (show ¬ (false = true) by decide)] at H; exact H
                                clear H
                                have H := H1
                                clear H1
                                obtain ⟨ji29, hji29⟩ : ∃ j_ : Int, (wrap64 (x6_2 + 7)) = j_ := ⟨_, rfl⟩
                                replace H : (if 0 ≤ (ji29) then (if (ji29) ≤ (wrap64 ((ji29) + (wrap64 ((wrap64 (bt a0 (ji10))) + (wrap64 (256 * (wrap64 (bt a0 (ji14))))))))) then (if (wrap64 ((ji29) + (wrap64 ((wrap64 (bt a0 (ji10))) + (wrap64 (256 * (wrap64 (bt a0 (ji14))))))))) ≤ (a0.size : Int) then ((bourseref05_sum.f kj21 (bt a0 (ji18)) (a0.extract ((ji29) : Int).toNat ((wrap64 ((ji29) + (wrap64 ((wrap64 (bt a0 (ji10))) + (wrap64 (256 * (wrap64 (bt a0 (ji14))))))))) : Int).toNat)).bind fun t141 => (if 0 ≤ x6_2 then (if x6_2 ≤ (ji10) then (if (ji10) ≤ (a0.size : Int) then (if t141.toList = (a0.extract (x6_2 : Int).toNat ((ji10) : Int).toNat).toList then (bourseref05_Records.j3 kj21 a0 x3_1 x4_1 x6_2 (wrap64 ((wrap64 (bt a0 (ji10))) + (wrap64 (256 * (wrap64 (bt a0 (ji14))))))) (bt a0 (ji18)) (a0.extract ((ji29) : Int).toNat ((wrap64 ((ji29) + (wrap64 ((wrap64 (bt a0 (ji10))) + (wrap64 (256 * (wrap64 (bt a0 (ji14))))))))) : Int).toNat) (x5_1 != (decide ((bt a0 (ji18)) > 2)))) else (bourseref05_Records.j3 kj21 a0 x3_1 x4_1 x6_2 (wrap64 ((wrap64 (bt a0 (ji10))) + (wrap64 (256 * (wrap64 (bt a0 (ji14))))))) (bt a0 (ji18)) (a0.extract ((ji29) : Int).toNat ((wrap64 ((ji29) + (wrap64 ((wrap64 (bt a0 (ji10))) + (wrap64 (256 * (wrap64 (bt a0 (ji14))))))))) : Int).toNat) true)) else (none)) else (none)) else (none))) else (none)) else (none)) else (none)) = some r := by first | (rw [hji29] at H; exact H) | (simp only [hji29] at H ⊢; exact H)
                                (try rw [hji29] at c9b0)
                                have hji29w : (IntKind.i64.wrap (x6_2 + 7)) = ji29 := (i64_w _).trans hji29
                                by_cases c30 : 0 ≤ (ji29)
                                · rw [if_pos c30] at H
                                  have c30b0 := eq_true c30
                                  have c30b1 : decide (0 ≤ (ji29)) = true := decide_eq_true c30
                                  clear c30
                                  by_cases c31 : (ji29) ≤ (wrap64 ((ji29) + (wrap64 ((wrap64 (bt a0 (ji10))) + (wrap64 (256 * (wrap64 (bt a0 (ji14)))))))))
                                  · rw [if_pos c31] at H
                                    have c31b0 := eq_true c31
                                    have c31b1 : decide ((ji29) ≤ (wrap64 ((ji29) + (wrap64 ((wrap64 (bt a0 (ji10))) + (wrap64 (256 * (wrap64 (bt a0 (ji14)))))))))) = true := decide_eq_true c31
                                    by_cases c32 : (wrap64 ((ji29) + (wrap64 ((wrap64 (bt a0 (ji10))) + (wrap64 (256 * (wrap64 (bt a0 (ji14))))))))) ≤ (a0.size : Int)
                                    · rw [if_pos c32] at H
                                      have c32b0 := eq_true c32
                                      have c32b1 : decide ((wrap64 ((ji29) + (wrap64 ((wrap64 (bt a0 (ji10))) + (wrap64 (256 * (wrap64 (bt a0 (ji14))))))))) ≤ (a0.size : Int)) = true := decide_eq_true c32
                                      have HC33 := Aside0.mk H
                                      clear H
                                      go_upto_region 16 with (fail)
                                      go_cut [93] (fun v93 wc => ∃ (kq : Nat) (x93_32 : Bool), v93 = .bool x93_32 ∧ Aside0 (bourseref05_Records.j3 kq a0 x3_1 x4_1 x6_2 (wrap64 ((wrap64 (bt a0 (ji10))) + (wrap64 (256 * (wrap64 (bt a0 (ji14))))))) (bt a0 (ji18)) (a0.extract ((ji29) : Int).toNat ((wrap64 ((ji29) + (wrap64 ((wrap64 (bt a0 (ji10))) + (wrap64 (256 * (wrap64 (bt a0 (ji14))))))))) : Int).toNat) x93_32 = some r) ∧ Aside0 (kq ≤ kj21) ∧ Aside0 (Kd.R k55 55 wc w.heap.size (fun _ => True) u3 x3_1) ∧ Aside0 (Below w.heap.size w wc))
                                      case first =>
                                        have H := HC33.out
                                        try simp only [hji10, hji14, hji18, hji29] at H
                                        clear HC33
                                        replace H := Option.bind_eq_some_iff.mp H
                                        obtain ⟨t141, A340, H⟩ := H
                                        replace H : (if 0 ≤ x6_2 then (if x6_2 ≤ (ji10) then (if (ji10) ≤ (a0.size : Int) then (if t141.toList = (a0.extract (x6_2 : Int).toNat ((ji10) : Int).toNat).toList then (bourseref05_Records.j3 kj21 a0 x3_1 x4_1 x6_2 (wrap64 ((wrap64 (bt a0 (ji10))) + (wrap64 (256 * (wrap64 (bt a0 (ji14))))))) (bt a0 (ji18)) (a0.extract ((ji29) : Int).toNat ((wrap64 ((ji29) + (wrap64 ((wrap64 (bt a0 (ji10))) + (wrap64 (256 * (wrap64 (bt a0 (ji14))))))))) : Int).toNat) (x5_1 != (decide ((bt a0 (ji18)) > 2)))) else (bourseref05_Records.j3 kj21 a0 x3_1 x4_1 x6_2 (wrap64 ((wrap64 (bt a0 (ji10))) + (wrap64 (256 * (wrap64 (bt a0 (ji14))))))) (bt a0 (ji18)) (a0.extract ((ji29) : Int).toNat ((wrap64 ((ji29) + (wrap64 ((wrap64 (bt a0 (ji10))) + (wrap64 (256 * (wrap64 (bt a0 (ji14))))))))) : Int).toNat) true)) else (none)) else (none)) else (none)) = some r := (by first | exact H | (simp only [hji10, hji14, hji18, hji29] at H; exact H))
                                        have A34 := Aside0.mk A340
                                        clear A340
                                        by_cases c35 : 0 ≤ x6_2
                                        · rw [if_pos c35] at H
                                          have c35b0 := eq_true c35
                                          have c35b1 : decide (0 ≤ x6_2) = true := decide_eq_true c35
                                          clear c35
                                          by_cases c36 : x6_2 ≤ (ji10)
                                          · rw [if_pos c36] at H
                                            have c36b0 := eq_true c36
                                            have c36b1 : decide (x6_2 ≤ (ji10)) = true := decide_eq_true c36
                                            by_cases c37 : (ji10) ≤ (a0.size : Int)
                                            · rw [if_pos c37] at H
                                              have c37b0 := eq_true c37
                                              have c37b1 : decide ((ji10) ≤ (a0.size : Int)) = true := decide_eq_true c37
                                              by_cases c38 : t141.toList = (a0.extract (x6_2 : Int).toNat ((ji10) : Int).toNat).toList
                                              · rw [if_pos c38] at H
                                                have c38b0 : (t141.toList == (a0.extract (x6_2 : Int).toNat ((ji10) : Int).toNat).toList) = true := beq_iff_eq.mpr c38
                                                have c38b1 : (t141.toList != (a0.extract (x6_2 : Int).toNat ((ji10) : Int).toNat).toList) = false := bne_eq_false_iff_eq.mpr c38
                                                clear c38
                                                (first | rw [c38b0] | (simp only [i64_w, i32_w]; rw [c38b0]) | skip)
                                                have H' := Aside0.mk H
                                                clear H
                                                try go_wp2
                                                have n0_ := Aside0.mk (Kd.R_drew HO_3.out)
                                                have n1_ := Aside0.mk (below_drew1 HB.out)
                                                clear HO_3
                                                clear HB
                                                have HO_3 := n0_
                                                have HB := n1_
                                                clear n0_ n1_
                                                refine start_ (n := 15) (S := fun w' => True) (ds := []) #[false, false, false, false, false, false, false, false, false, false, false, false, false, false, false] (by kernel_rfl) rfl rfl trivial (fun hHeld => ?_); refine with_tabW bourseref05_Records.tab16 bourseref05_Records.bits16 (fun HT_ HW_ => ?_)
                                                generalize wc.drew = w39 at HO_3 HB hHeld ⊢
                                                refine pure_ (i := 0) (N := some 79) (v := ?_) (a' := ?_) #[true, false, false, false, false, false, false, false, false, false, false, false, false, false, false] rfl rfl (any_of HT_.out (by kernel_rfl)) (fun _ _ _ h => h) (Or.inl ⟨by rfl, ?_⟩) ?_ ?_
                                                rotate_left
                                                · intro w'
                                                  go_simp
                                                  with_reducible rfl
                                                rotate_left
                                                · simp only [Act.put, List.setIfInBounds_toArray, List.set_cons_zero, List.set_cons_succ, i64_w, i32_w]
                                                  rfl
                                                refine pure_ (i := 1) (N := some 80) (v := ?_) (a' := ?_) #[true, true, false, false, false, false, false, false, false, false, false, false, false, false, false] rfl rfl (any_of HT_.out (by kernel_rfl)) (fun _ _ _ h => h) (Or.inl ⟨by rfl, ?_⟩) ?_ ?_
                                                rotate_left
                                                · intro w'
                                                  go_simp
                                                  with_reducible rfl
                                                rotate_left
                                                · simp only [Act.put, List.setIfInBounds_toArray, List.set_cons_zero, List.set_cons_succ, i64_w, i32_w]
                                                  rfl
                                                refine pure_ (i := 3) (N := some 82) (v := ?_) (a' := ?_) #[true, true, false, true, false, false, false, false, false, false, false, false, false, false, false] rfl rfl (any_of HT_.out (by kernel_rfl)) (fun _ _ _ h => h) (Or.inl ⟨by rfl, ?_⟩) ?_ ?_
                                                rotate_left
                                                · intro w'
                                                  go_simp
                                                  with_reducible rfl
                                                rotate_left
                                                · simp only [Act.put, List.setIfInBounds_toArray, List.set_cons_zero, List.set_cons_succ, i64_w, i32_w]
                                                  rfl
                                                refine pure_ (i := 4) (N := some 83) (v := ?_) (a' := ?_) #[true, true, false, true, true, false, false, false, false, false, false, false, false, false, false] rfl rfl (any_of HT_.out (by kernel_rfl)) (fun _ _ _ h => h) (Or.inl ⟨by rfl, ?_⟩) ?_ ?_
                                                rotate_left
                                                · intro w'
                                                  go_simp
                                                  with_reducible rfl
                                                rotate_left
                                                · simp only [Act.put, List.setIfInBounds_toArray, List.set_cons_zero, List.set_cons_succ, i64_w, i32_w]
                                                  rfl
                                                refine pure_ (i := 5) (N := some 84) (v := ?_) (a' := ?_) #[true, true, false, true, true, true, false, false, false, false, false, false, false, false, false] rfl rfl (any_of HT_.out (by kernel_rfl)) (fun _ _ _ h => h) (Or.inl ⟨by rfl, ?_⟩) ?_ ?_
                                                rotate_left
                                                · intro w'
                                                  go_simp
                                                  with_reducible rfl
                                                rotate_left
                                                · simp only [Act.put, List.setIfInBounds_toArray, List.set_cons_zero, List.set_cons_succ, i64_w, i32_w]
                                                  rfl
                                                refine pure_ (i := 6) (N := some 85) (v := ?_) (a' := ?_) #[true, true, false, true, true, true, true, false, false, false, false, false, false, false, false] rfl rfl (any_of HT_.out (by kernel_rfl)) (fun _ _ _ h => h) (Or.inl ⟨by rfl, ?_⟩) ?_ ?_
                                                rotate_left
                                                · intro w'
                                                  go_simp
                                                  with_reducible rfl
                                                rotate_left
                                                · simp only [Act.put, List.setIfInBounds_toArray, List.set_cons_zero, List.set_cons_succ, i64_w, i32_w]
                                                  rfl
                                                refine pure_ (i := 7) (N := some 86) (v := ?_) (a' := ?_) #[true, true, false, true, true, true, true, true, false, false, false, false, false, false, false] rfl rfl (any_of HT_.out (by kernel_rfl)) (fun _ _ _ h => h) (Or.inl ⟨by rfl, ?_⟩) ?_ ?_
                                                rotate_left
                                                · intro w'
                                                  go_simp
                                                  with_reducible rfl
                                                rotate_left
                                                · simp only [Act.put, List.setIfInBounds_toArray, List.set_cons_zero, List.set_cons_succ, i64_w, i32_w]
                                                  rfl
                                                refine one_ (i := 2) (N := some 81) #[true, true, true, true, true, true, true, true, false, false, false, false, false, false, false] rfl rfl (one_of HT_.out (by kernel_rfl)) (by decide) (fun K hK => ?_)
                                                refine goes_ Tryd.func74 (by kernel_rfl) rfl #[.int .u8 (bt a0 (ji18)), .string (a0.extract ((ji29) : Int).toNat ((wrap64 ((ji29) + (wrap64 ((wrap64 (bt a0 (ji10))) + (wrap64 (256 * (wrap64 (bt a0 (ji14))))))))) : Int).toNat)] (by rfl) rfl rfl (by (try simp only [List.map_toArray, List.map_cons, List.map_nil]); first | done | (simp only [hji10, hji14, hji18, hji29]; rfl) | rfl | (simp only [List.length_drop, List.length_take]; rfl)) ?_
                                                with_reducible refine (bourseref05_sum.calls kj21 (bt a0 (ji18)) (a0.extract ((ji29) : Int).toNat ((wrap64 ((ji29) + (wrap64 ((wrap64 (bt a0 (ji10))) + (wrap64 (256 * (wrap64 (bt a0 (ji14))))))))) : Int).toNat) t141 _ A34.out).mono ?_
                                                rintro e w40 ⟨rfl, hb⟩
                                                refine ⟨_, rfl, ?_⟩
                                                have n0_ := Aside0.mk (Kd.R_below (by (with_reducible repeat (first | apply Kd.R_alloc | apply Kd.R_drewN | apply Kd.R_drew)); exact HO_3.out) hb)
                                                have n1_ := Aside0.mk (below_step (by repeat (first | (with_reducible first | exact HB.out | apply below_alloc | apply pw_below_drewN | apply below_drew1) | exact HB.out)) hb)
                                                clear HO_3
                                                clear HB
                                                have HO_3 := n0_
                                                have HB := n1_
                                                clear n0_ n1_
                                                (try clear hb)
                                                (try clear hb2)
                                                (try clear hk)
                                                (try clear hi)
                                                refine hK.out _ _ trivial (fun hHeld => ?_)
                                                clear hK K
                                                refine norm_ (a' := ?_) ?_ ?_
                                                rotate_left
                                                · show Act.put _ (some 81) _ = _
                                                  simp only [Act.put, List.setIfInBounds_toArray, List.set_cons_zero, List.set_cons_succ, i64_w, i32_w]
                                                  rfl
                                                refine pure_ (i := 8) (N := some 87) (v := ?_) (a' := ?_) #[true, true, true, true, true, true, true, true, true, false, false, false, false, false, false] rfl rfl (any_of HT_.out (by kernel_rfl)) (fun _ _ _ h => h) (Or.inl ⟨by rfl, ?_⟩) ?_ ?_
                                                rotate_left
                                                · intro w'
                                                  go_simp
                                                  with_reducible rfl
                                                rotate_left
                                                · simp only [Act.put, List.setIfInBounds_toArray, List.set_cons_zero, List.set_cons_succ, i64_w, i32_w]
                                                  rfl
                                                refine pure_ (i := 9) (N := some 88) (v := ?_) (a' := ?_) #[true, true, true, true, true, true, true, true, true, true, false, false, false, false, false] rfl rfl (any_of HT_.out (by kernel_rfl)) (fun _ _ _ h => h) (Or.inl ⟨by rfl, ?_⟩) ?_ ?_
                                                rotate_left
                                                · intro w'
                                                  go_simp
                                                  with_reducible rfl
                                                rotate_left
                                                · simp only [Act.put, List.setIfInBounds_toArray, List.set_cons_zero, List.set_cons_succ, i64_w, i32_w]
                                                  rfl
                                                refine pure_ (i := 10) (N := some 89) (v := ?_) (a' := ?_) #[true, true, true, true, true, true, true, true, true, true, true, false, false, false, false] rfl rfl (any_of HT_.out (by kernel_rfl)) (fun _ _ _ h => h) (Or.inl ⟨by rfl, ?_⟩) ?_ ?_
                                                rotate_left
                                                · intro w'
                                                  go_simp
                                                  with_reducible rfl
                                                rotate_left
                                                · simp only [Act.put, List.setIfInBounds_toArray, List.set_cons_zero, List.set_cons_succ, i64_w, i32_w]
                                                  rfl
                                                refine pure_ (i := 11) (N := some 90) (v := ?_) (a' := ?_) #[true, true, true, true, true, true, true, true, true, true, true, true, false, false, false] rfl rfl (any_of HT_.out (by kernel_rfl)) (fun _ _ _ h => h) (Or.inl ⟨by rfl, ?_⟩) ?_ ?_
                                                rotate_left
                                                · intro w'
                                                  go_simp
                                                  with_reducible rfl
                                                rotate_left
                                                · simp only [Act.put, List.setIfInBounds_toArray, List.set_cons_zero, List.set_cons_succ, i64_w, i32_w]
                                                  rfl
                                                refine pure_ (i := 12) (N := some 91) (v := ?_) (a' := ?_) #[true, true, true, true, true, true, true, true, true, true, true, true, true, false, false] rfl rfl (any_of HT_.out (by kernel_rfl)) (fun _ _ _ h => h) (Or.inl ⟨by rfl, ?_⟩) ?_ ?_
                                                rotate_left
                                                · intro w'
                                                  go_simp
                                                  with_reducible rfl
                                                rotate_left
                                                · simp only [Act.put, List.setIfInBounds_toArray, List.set_cons_zero, List.set_cons_succ, i64_w, i32_w]
                                                  rfl
                                                refine pure_ (i := 13) (N := some 92) (v := ?_) (a' := ?_) #[true, true, true, true, true, true, true, true, true, true, true, true, true, true, false] rfl rfl (any_of HT_.out (by kernel_rfl)) (fun _ _ _ h => h) (Or.inl ⟨by rfl, ?_⟩) ?_ ?_
                                                rotate_left
                                                · intro w'
                                                  go_simp
                                                  with_reducible rfl
                                                rotate_left
                                                · simp only [Act.put, List.setIfInBounds_toArray, List.set_cons_zero, List.set_cons_succ, i64_w, i32_w]
                                                  rfl
                                                refine pure_ (i := 14) (N := some 93) (v := ?_) (a' := ?_) #[true, true, true, true, true, true, true, true, true, true, true, true, true, true, true] rfl rfl (any_of HT_.out (by kernel_rfl)) (fun _ _ _ h => h) (Or.inl ⟨by rfl, ?_⟩) ?_ ?_
                                                rotate_left
                                                · intro w'
                                                  go_simp
                                                  with_reducible rfl
                                                rotate_left
                                                · simp only [Act.put, List.setIfInBounds_toArray, List.set_cons_zero, List.set_cons_succ, i64_w, i32_w]
                                                  rfl
                                                refine done_ (done_of HT_.out (by kernel_rfl)) ?_
                                                try go_wp2
                                                go_meet
                                                case rel => exact ⟨_, ((x5_1 != (decide ((bt a0 (ji18)) > 2)))), (by first | rfl | (simp; done) | (simp only [← hji18] <;> (first | rfl | (simp; done))) | (simp [*]; done)), (by first | exact H' | (rw [hji18]; exact H')), ⟨by have := HK1.out; have := HK2.out; have := HJ21.out; first | omega | exact Nat.le_refl _⟩, ⟨by (with_reducible repeat (first | apply Kd.R_alloc | apply Kd.R_drewN | apply Kd.R_drew)); exact HO_3.out⟩, ⟨by repeat (first | (with_reducible first | exact HB.out | apply below_alloc | apply pw_below_drewN | apply below_drew1) | exact HB.out)⟩⟩
                                              · rw [if_neg c38] at H
                                                have c38b0 : (t141.toList == (a0.extract (x6_2 : Int).toNat ((ji10) : Int).toNat).toList) = false := beq_eq_false_iff_ne.mpr c38
                                                have c38b1 : (t141.toList != (a0.extract (x6_2 : Int).toNat ((ji10) : Int).toNat).toList) = true := bne_iff_ne.mpr c38
                                                (first | rw [c38b0] | (simp only [i64_w, i32_w]; rw [c38b0]) | skip)
                                                have H' := Aside0.mk H
                                                clear H
                                                try go_wp2
                                                have n0_ := Aside0.mk (Kd.R_drew HO_3.out)
                                                have n1_ := Aside0.mk (below_drew1 HB.out)
                                                clear HO_3
                                                clear HB
                                                have HO_3 := n0_
                                                have HB := n1_
                                                clear n0_ n1_
                                                refine start_ (n := 15) (S := fun w' => True) (ds := []) #[false, false, false, false, false, false, false, false, false, false, false, false, false, false, false] (by kernel_rfl) rfl rfl trivial (fun hHeld => ?_); refine with_tabW bourseref05_Records.tab16 bourseref05_Records.bits16 (fun HT_ HW_ => ?_)
                                                generalize wc.drew = w41 at HO_3 HB hHeld ⊢
                                                refine pure_ (i := 0) (N := some 79) (v := ?_) (a' := ?_) #[true, false, false, false, false, false, false, false, false, false, false, false, false, false, false] rfl rfl (any_of HT_.out (by kernel_rfl)) (fun _ _ _ h => h) (Or.inl ⟨by rfl, ?_⟩) ?_ ?_
                                                rotate_left
                                                · intro w'
                                                  go_simp
                                                  with_reducible rfl
                                                rotate_left
                                                · simp only [Act.put, List.setIfInBounds_toArray, List.set_cons_zero, List.set_cons_succ, i64_w, i32_w]
                                                  rfl
                                                refine pure_ (i := 1) (N := some 80) (v := ?_) (a' := ?_) #[true, true, false, false, false, false, false, false, false, false, false, false, false, false, false] rfl rfl (any_of HT_.out (by kernel_rfl)) (fun _ _ _ h => h) (Or.inl ⟨by rfl, ?_⟩) ?_ ?_
                                                rotate_left
                                                · intro w'
                                                  go_simp
                                                  with_reducible rfl
                                                rotate_left
                                                · simp only [Act.put, List.setIfInBounds_toArray, List.set_cons_zero, List.set_cons_succ, i64_w, i32_w]
                                                  rfl
                                                refine pure_ (i := 3) (N := some 82) (v := ?_) (a' := ?_) #[true, true, false, true, false, false, false, false, false, false, false, false, false, false, false] rfl rfl (any_of HT_.out (by kernel_rfl)) (fun _ _ _ h => h) (Or.inl ⟨by rfl, ?_⟩) ?_ ?_
                                                rotate_left
                                                · intro w'
                                                  go_simp
                                                  with_reducible rfl
                                                rotate_left
                                                · simp only [Act.put, List.setIfInBounds_toArray, List.set_cons_zero, List.set_cons_succ, i64_w, i32_w]
                                                  rfl
                                                refine pure_ (i := 4) (N := some 83) (v := ?_) (a' := ?_) #[true, true, false, true, true, false, false, false, false, false, false, false, false, false, false] rfl rfl (any_of HT_.out (by kernel_rfl)) (fun _ _ _ h => h) (Or.inl ⟨by rfl, ?_⟩) ?_ ?_
                                                rotate_left
                                                · intro w'
                                                  go_simp
                                                  with_reducible rfl
                                                rotate_left
                                                · simp only [Act.put, List.setIfInBounds_toArray, List.set_cons_zero, List.set_cons_succ, i64_w, i32_w]
                                                  rfl
                                                refine pure_ (i := 5) (N := some 84) (v := ?_) (a' := ?_) #[true, true, false, true, true, true, false, false, false, false, false, false, false, false, false] rfl rfl (any_of HT_.out (by kernel_rfl)) (fun _ _ _ h => h) (Or.inl ⟨by rfl, ?_⟩) ?_ ?_
                                                rotate_left
                                                · intro w'
                                                  go_simp
                                                  with_reducible rfl
                                                rotate_left
                                                · simp only [Act.put, List.setIfInBounds_toArray, List.set_cons_zero, List.set_cons_succ, i64_w, i32_w]
                                                  rfl
                                                refine pure_ (i := 6) (N := some 85) (v := ?_) (a' := ?_) #[true, true, false, true, true, true, true, false, false, false, false, false, false, false, false] rfl rfl (any_of HT_.out (by kernel_rfl)) (fun _ _ _ h => h) (Or.inl ⟨by rfl, ?_⟩) ?_ ?_
                                                rotate_left
                                                · intro w'
                                                  go_simp
                                                  with_reducible rfl
                                                rotate_left
                                                · simp only [Act.put, List.setIfInBounds_toArray, List.set_cons_zero, List.set_cons_succ, i64_w, i32_w]
                                                  rfl
                                                refine pure_ (i := 7) (N := some 86) (v := ?_) (a' := ?_) #[true, true, false, true, true, true, true, true, false, false, false, false, false, false, false] rfl rfl (any_of HT_.out (by kernel_rfl)) (fun _ _ _ h => h) (Or.inl ⟨by rfl, ?_⟩) ?_ ?_
                                                rotate_left
                                                · intro w'
                                                  go_simp
                                                  with_reducible rfl
                                                rotate_left
                                                · simp only [Act.put, List.setIfInBounds_toArray, List.set_cons_zero, List.set_cons_succ, i64_w, i32_w]
                                                  rfl
                                                refine one_ (i := 2) (N := some 81) #[true, true, true, true, true, true, true, true, false, false, false, false, false, false, false] rfl rfl (one_of HT_.out (by kernel_rfl)) (by decide) (fun K hK => ?_)
                                                refine goes_ Tryd.func74 (by kernel_rfl) rfl #[.int .u8 (bt a0 (ji18)), .string (a0.extract ((ji29) : Int).toNat ((wrap64 ((ji29) + (wrap64 ((wrap64 (bt a0 (ji10))) + (wrap64 (256 * (wrap64 (bt a0 (ji14))))))))) : Int).toNat)] (by rfl) rfl rfl (by (try simp only [List.map_toArray, List.map_cons, List.map_nil]); first | done | (simp only [hji10, hji14, hji18, hji29]; rfl) | rfl | (simp only [List.length_drop, List.length_take]; rfl)) ?_
                                                with_reducible refine (bourseref05_sum.calls kj21 (bt a0 (ji18)) (a0.extract ((ji29) : Int).toNat ((wrap64 ((ji29) + (wrap64 ((wrap64 (bt a0 (ji10))) + (wrap64 (256 * (wrap64 (bt a0 (ji14))))))))) : Int).toNat) t141 _ A34.out).mono ?_
                                                rintro e w42 ⟨rfl, hb⟩
                                                refine ⟨_, rfl, ?_⟩
                                                have n0_ := Aside0.mk (Kd.R_below (by (with_reducible repeat (first | apply Kd.R_alloc | apply Kd.R_drewN | apply Kd.R_drew)); exact HO_3.out) hb)
                                                have n1_ := Aside0.mk (below_step (by repeat (first | (with_reducible first | exact HB.out | apply below_alloc | apply pw_below_drewN | apply below_drew1) | exact HB.out)) hb)
                                                clear HO_3
                                                clear HB
                                                have HO_3 := n0_
                                                have HB := n1_
                                                clear n0_ n1_
                                                (try clear hb)
                                                (try clear hb2)
                                                (try clear hk)
                                                (try clear hi)
                                                refine hK.out _ _ trivial (fun hHeld => ?_)
                                                clear hK K
                                                refine norm_ (a' := ?_) ?_ ?_
                                                rotate_left
                                                · show Act.put _ (some 81) _ = _
                                                  simp only [Act.put, List.setIfInBounds_toArray, List.set_cons_zero, List.set_cons_succ, i64_w, i32_w]
                                                  rfl
                                                refine pure_ (i := 8) (N := some 87) (v := ?_) (a' := ?_) #[true, true, true, true, true, true, true, true, true, false, false, false, false, false, false] rfl rfl (any_of HT_.out (by kernel_rfl)) (fun _ _ _ h => h) (Or.inl ⟨by rfl, ?_⟩) ?_ ?_
                                                rotate_left
                                                · intro w'
                                                  go_simp
                                                  with_reducible rfl
                                                rotate_left
                                                · simp only [Act.put, List.setIfInBounds_toArray, List.set_cons_zero, List.set_cons_succ, i64_w, i32_w]
                                                  rfl
                                                refine pure_ (i := 9) (N := some 88) (v := ?_) (a' := ?_) #[true, true, true, true, true, true, true, true, true, true, false, false, false, false, false] rfl rfl (any_of HT_.out (by kernel_rfl)) (fun _ _ _ h => h) (Or.inl ⟨by rfl, ?_⟩) ?_ ?_
                                                rotate_left
                                                · intro w'
                                                  go_simp
                                                  with_reducible rfl
                                                rotate_left
                                                · simp only [Act.put, List.setIfInBounds_toArray, List.set_cons_zero, List.set_cons_succ, i64_w, i32_w]
                                                  rfl
                                                refine pure_ (i := 10) (N := some 89) (v := undef) (a' := ?_) #[true, true, true, true, true, true, true, true, true, true, true, false, false, false, false] rfl rfl (any_of HT_.out (by kernel_rfl)) (fun _ _ _ h => h) (Or.inr ⟨by rfl, rfl⟩) ?_ ?_
                                                rotate_left
                                                · simp only [Act.put, List.setIfInBounds_toArray, List.set_cons_zero, List.set_cons_succ, i64_w, i32_w]
                                                  rfl
                                                refine pure_ (i := 11) (N := some 90) (v := undef) (a' := ?_) #[true, true, true, true, true, true, true, true, true, true, true, true, false, false, false] rfl rfl (any_of HT_.out (by kernel_rfl)) (fun _ _ _ h => h) (Or.inr ⟨by rfl, rfl⟩) ?_ ?_
                                                rotate_left
                                                · simp only [Act.put, List.setIfInBounds_toArray, List.set_cons_zero, List.set_cons_succ, i64_w, i32_w]
                                                  rfl
                                                refine pure_ (i := 12) (N := some 91) (v := undef) (a' := ?_) #[true, true, true, true, true, true, true, true, true, true, true, true, true, false, false] rfl rfl (any_of HT_.out (by kernel_rfl)) (fun _ _ _ h => h) (Or.inr ⟨by rfl, rfl⟩) ?_ ?_
                                                rotate_left
                                                · simp only [Act.put, List.setIfInBounds_toArray, List.set_cons_zero, List.set_cons_succ, i64_w, i32_w]
                                                  rfl
                                                refine pure_ (i := 13) (N := some 92) (v := undef) (a' := ?_) #[true, true, true, true, true, true, true, true, true, true, true, true, true, true, false] rfl rfl (any_of HT_.out (by kernel_rfl)) (fun _ _ _ h => h) (Or.inr ⟨by rfl, rfl⟩) ?_ ?_
                                                rotate_left
                                                · simp only [Act.put, List.setIfInBounds_toArray, List.set_cons_zero, List.set_cons_succ, i64_w, i32_w]
                                                  rfl
                                                refine pure_ (i := 14) (N := some 93) (v := ?_) (a' := ?_) #[true, true, true, true, true, true, true, true, true, true, true, true, true, true, true] rfl rfl (any_of HT_.out (by kernel_rfl)) (fun _ _ _ h => h) (Or.inl ⟨by rfl, ?_⟩) ?_ ?_
                                                rotate_left
                                                · intro w'
                                                  go_simp
                                                  with_reducible rfl
                                                rotate_left
                                                · simp only [Act.put, List.setIfInBounds_toArray, List.set_cons_zero, List.set_cons_succ, i64_w, i32_w]
                                                  rfl
                                                refine done_ (done_of HT_.out (by kernel_rfl)) ?_
                                                try go_wp2
                                                go_meet
                                                case rel => exact ⟨_, (true), (by first | rfl | (simp; done) | (simp [*]; done)), H', ⟨by have := HK1.out; have := HK2.out; have := HJ21.out; first | omega | exact Nat.le_refl _⟩, ⟨by (with_reducible repeat (first | apply Kd.R_alloc | apply Kd.R_drewN | apply Kd.R_drew)); exact HO_3.out⟩, ⟨by repeat (first | (with_reducible first | exact HB.out | apply below_alloc | apply pw_below_drewN | apply below_drew1) | exact HB.out)⟩⟩
                                            · rw [if_neg c37] at H
                                              exact absurd H (by simp)
                                          · rw [if_neg c36] at H
                                            exact absurd H (by simp)
                                        · rw [if_neg c35] at H
                                          exact absurd H (by simp)
                                      case rest =>
                                        clear HC33
                                        try clear c1
                                        try clear p1
                                        try clear q1
                                        try clear hx1
                                        try clear c2
                                        try clear p2
                                        try clear q2
                                        try clear hx2
                                        try clear c3
                                        try clear c3b0
                                        try clear c4
                                        try clear c4b0
                                        try clear c5
                                        try clear c5b0
                                        try clear c6
                                        try clear c6b0
                                        try clear p6
                                        try clear c7
                                        try clear p7
                                        try clear q7
                                        try clear hx7
                                        try clear c8
                                        try clear c8b0
                                        try clear c8b1
                                        try clear c9
                                        try clear c9b0
                                        try clear c11
                                        try clear c11b0
                                        try clear c12
                                        try clear c12b0
                                        try clear p13
                                        try clear q13
                                        try clear hx13
                                        try clear c15
                                        try clear c15b0
                                        try clear c16
                                        try clear c16b0
                                        try clear p17
                                        try clear q17
                                        try clear hx17
                                        try clear c19
                                        try clear c19b0
                                        try clear c20
                                        try clear c20b0
                                        try clear p21
                                        try clear q21
                                        try clear hx21
                                        try clear c24
                                        try clear c24b0
                                        try clear c25
                                        try clear c25b0
                                        try clear c27
                                        try clear c27b0
                                        try clear c28
                                        try clear c30
                                        try clear c30b0
                                        try clear c30b1
                                        try clear c31
                                        try clear c31b0
                                        try clear c31b1
                                        try clear c32
                                        try clear c32b0
                                        try clear c32b1
                                        try clear c35
                                        try clear c35b0
                                        try clear c35b1
                                        try clear c36
                                        try clear c36b0
                                        try clear c36b1
                                        try clear c37
                                        try clear c37b0
                                        try clear c37b1
                                        try clear c38
                                        try clear c38b0
                                        try clear c38b1
                                        try clear p1
                                        try clear p13
                                        try clear p17
                                        try clear p2
                                        try clear p21
                                        try clear p6
                                        try clear p7
                                        try clear q1
                                        try clear q13
                                        try clear q17
                                        try clear q2
                                        try clear q21
                                        try clear q7
                                        obtain ⟨kq, x93_32, rfl, HA, HJ32, HO_3, HB⟩ := hcut
                                        cases kq with
                                        | zero => exact absurd HA.out (by simp [bourseref05_Records.j3])
                                        | succ kj32 =>
                                          have H := HA.out
                                          clear HA
                                          simp only [bourseref05_Records.j3] at H
                                          try simp only [hji10, hji14, hji18, hji29] at H
                                          by_cases c43 : x93_32 = true
                                          · subst c43
                                            have H1 : (some x3_1) = some r := by rw [if_pos rfl] at H; exact H
                                            clear H
                                            have H := H1
                                            clear H1
                                            obtain rfl := Option.some.inj H
                                            go_wp2
                                            go_ret
                                            exact ⟨_, by first | rfl | (simp [errW_none, errW_some] <;> rfl) | (simp only [← hji10, ← hji14, ← hji18, ← hji29]; first | rfl | (simp [errW_none, errW_some] <;> rfl)) | (simp [*, errW_none, errW_some] <;> rfl), by (with_reducible repeat (first | apply Kd.R_alloc | apply Kd.R_drewN | apply Kd.R_drew)); exact HO_3.out, by repeat (first | (with_reducible first | exact HB.out | apply below_alloc | apply pw_below_drewN | apply below_drew1) | exact HB.out)⟩
                                          · replace c43 := Bool.eq_false_iff.mpr c43
                                            subst c43
                                            have H1 : (if x4_1.size + (a0.extract ((ji29) : Int).toNat ((wrap64 ((ji29) + (wrap64 ((wrap64 (bt a0 (ji10))) + (wrap64 (256 * (wrap64 (bt a0 (ji14))))))))) : Int).toNat).size ≤ 9223372036854775807 then (if (bt a0 (ji18)) = 2 then (bourseref05_Records.l0 kj32 a0 x3_1 (x4_1 ++ (a0.extract ((ji29) : Int).toNat ((wrap64 ((ji29) + (wrap64 ((wrap64 (bt a0 (ji10))) + (wrap64 (256 * (wrap64 (bt a0 (ji14))))))))) : Int).toNat)) true (wrap64 ((ji29) + (wrap64 ((wrap64 (bt a0 (ji10))) + (wrap64 (256 * (wrap64 (bt a0 (ji14)))))))))) else (if (bt a0 (ji18)) = 3 then (bourseref05_Records.l0 kj32 a0 x3_1 (x4_1 ++ (a0.extract ((ji29) : Int).toNat ((wrap64 ((ji29) + (wrap64 ((wrap64 (bt a0 (ji10))) + (wrap64 (256 * (wrap64 (bt a0 (ji14))))))))) : Int).toNat)) ((bt a0 (ji18)) == 3) (wrap64 ((ji29) + (wrap64 ((wrap64 (bt a0 (ji10))) + (wrap64 (256 * (wrap64 (bt a0 (ji14)))))))))) else (if x3_1.length < 5864062014805 then (bourseref05_Records.l0 kj32 a0 (x3_1 ++ [(⟨x4_1 ++ (a0.extract ((ji29) : Int).toNat ((wrap64 ((ji29) + (wrap64 ((wrap64 (bt a0 (ji10))) + (wrap64 (256 * (wrap64 (bt a0 (ji14))))))))) : Int).toNat), wrap64 ((ji29) + (wrap64 ((wrap64 (bt a0 (ji10))) + (wrap64 (256 * (wrap64 (bt a0 (ji14))))))))⟩ : S55)]) (⟨#[]⟩ : ByteArray) ((bt a0 (ji18)) == 3) (wrap64 ((ji29) + (wrap64 ((wrap64 (bt a0 (ji10))) + (wrap64 (256 * (wrap64 (bt a0 (ji14)))))))))) else (none)))) else (none)) = some r := by rw [if_neg (show ¬ (false = true) by decide)] at H; exact H
                                            clear H
                                            have H := H1
                                            clear H1
                                            by_cases c44 : x4_1.size + (a0.extract ((ji29) : Int).toNat ((wrap64 ((ji29) + (wrap64 ((wrap64 (bt a0 (ji10))) + (wrap64 (256 * (wrap64 (bt a0 (ji14))))))))) : Int).toNat).size ≤ 9223372036854775807
                                            · rw [if_pos c44] at H
                                              have c44b0 := eq_true c44
                                              have c44b1 : decide (x4_1.size + (a0.extract ((ji29) : Int).toNat ((wrap64 ((ji29) + (wrap64 ((wrap64 (bt a0 (ji10))) + (wrap64 (256 * (wrap64 (bt a0 (ji14))))))))) : Int).toNat).size ≤ 9223372036854775807) = true := decide_eq_true c44
                                              try have c44b2 : (9223372036854775807 < x4_1.size + (a0.extract ((ji29) : Int).toNat ((wrap64 ((ji29) + (wrap64 ((wrap64 (bt a0 (ji10))) + (wrap64 (256 * (wrap64 (bt a0 (ji14))))))))) : Int).toNat).size) = False := eq_false (Nat.not_lt.2 c44)
                                              by_cases c45 : (bt a0 (ji18)) = 2
                                              · rw [if_pos c45] at H
                                                have c45b0 : ((bt a0 (ji18)) == 2) = true := beq_iff_eq.mpr c45
                                                have c45b1 : ((bt a0 (ji18)) != 2) = false := bne_eq_false_iff_eq.mpr c45
                                                clear c45
                                                have H' := Aside0.mk H
                                                clear H
                                                go_wp2
                                                go_roundg kj32
                                                case measure => have := HK1.out; have := HK2.out; have := HJ21.out; have := HJ32.out; omega
                                                case rel => exact ⟨(x3_1), (x4_1 ++ (a0.extract ((ji29) : Int).toNat ((wrap64 ((ji29) + (wrap64 ((wrap64 (bt a0 (ji10))) + (wrap64 (256 * (wrap64 (bt a0 (ji14))))))))) : Int).toNat)), (true), (wrap64 ((ji29) + (wrap64 ((wrap64 (bt a0 (ji10))) + (wrap64 (256 * (wrap64 (bt a0 (ji14))))))))), (by first | rfl | (simp; done) | (simp only [← hji10, ← hji14, ← hji29] <;> (first | rfl | (simp; done))) | (simp [*]; done)), (by first | rfl | (simp; done) | (simp [*]; done)), (by first | rfl | (simp; done) | (simp only [← hji10, ← hji14] <;> (first | rfl | (simp; done))) | (simp [*]; done)), H', ⟨by have := HK1.out; have := HK2.out; have := HJ21.out; have := HJ32.out; omega⟩, ⟨by (with_reducible repeat (first | apply Kd.R_alloc | apply Kd.R_drewN | apply Kd.R_drew)); exact HO_3.out⟩, ⟨by repeat (first | (with_reducible first | exact HB.out | apply below_alloc | apply pw_below_drewN | apply below_drew1) | exact HB.out)⟩⟩
                                              · rw [if_neg c45] at H
                                                have c45b0 : ((bt a0 (ji18)) == 2) = false := beq_eq_false_iff_ne.mpr c45
                                                have c45b1 : ((bt a0 (ji18)) != 2) = true := bne_iff_ne.mpr c45
                                                by_cases c46 : (bt a0 (ji18)) = 3
                                                · rw [if_pos c46] at H
                                                  have c46b0 : ((bt a0 (ji18)) == 3) = true := beq_iff_eq.mpr c46
                                                  have c46b1 : ((bt a0 (ji18)) != 3) = false := bne_eq_false_iff_eq.mpr c46
                                                  clear c46
                                                  have H' := Aside0.mk H
                                                  clear H
                                                  go_wp2
                                                  go_roundg kj32
                                                  case measure => have := HK1.out; have := HK2.out; have := HJ21.out; have := HJ32.out; omega
                                                  case rel => exact ⟨(x3_1), (x4_1 ++ (a0.extract ((ji29) : Int).toNat ((wrap64 ((ji29) + (wrap64 ((wrap64 (bt a0 (ji10))) + (wrap64 (256 * (wrap64 (bt a0 (ji14))))))))) : Int).toNat)), (((bt a0 (ji18)) == 3)), (wrap64 ((ji29) + (wrap64 ((wrap64 (bt a0 (ji10))) + (wrap64 (256 * (wrap64 (bt a0 (ji14))))))))), (by first | rfl | (simp; done) | (simp only [← hji10, ← hji14, ← hji29] <;> (first | rfl | (simp; done))) | (simp [*]; done)), (by first | rfl | (simp; done) | (simp only [← hji18] <;> (first | rfl | (simp; done))) | (simp [*]; done)), (by first | rfl | (simp; done) | (simp only [← hji10, ← hji14] <;> (first | rfl | (simp; done))) | (simp [*]; done)), H', ⟨by have := HK1.out; have := HK2.out; have := HJ21.out; have := HJ32.out; omega⟩, ⟨by (with_reducible repeat (first | apply Kd.R_alloc | apply Kd.R_drewN | apply Kd.R_drew)); exact HO_3.out⟩, ⟨by repeat (first | (with_reducible first | exact HB.out | apply below_alloc | apply pw_below_drewN | apply below_drew1) | exact HB.out)⟩⟩
                                                · rw [if_neg c46] at H
                                                  have c46b0 : ((bt a0 (ji18)) == 3) = false := beq_eq_false_iff_ne.mpr c46
                                                  have c46b1 : ((bt a0 (ji18)) != 3) = true := bne_iff_ne.mpr c46
                                                  by_cases c47 : x3_1.length < 5864062014805
                                                  · rw [if_pos c47] at H
                                                    have LMc47 := Aside0.mk c47
                                                    clear c47
                                                    obtain ⟨y142, hy142⟩ : ∃ y_ : List (S55), y_ = (x3_1 ++ [(⟨x4_1 ++ (a0.extract ((ji29) : Int).toNat ((wrap64 ((ji29) + (wrap64 ((wrap64 (bt a0 (ji10))) + (wrap64 (256 * (wrap64 (bt a0 (ji14))))))))) : Int).toNat), wrap64 ((ji29) + (wrap64 ((wrap64 (bt a0 (ji10))) + (wrap64 (256 * (wrap64 (bt a0 (ji14))))))))⟩ : S55)]) := ⟨_, rfl⟩
                                                    replace H : (bourseref05_Records.l0 kj32 a0 y142 (⟨#[]⟩ : ByteArray) ((bt a0 (ji18)) == 3) (wrap64 ((ji29) + (wrap64 ((wrap64 (bt a0 (ji10))) + (wrap64 (256 * (wrap64 (bt a0 (ji14)))))))))) = some r := by first | (rw [hy142]; with_reducible exact H) | (have H2_ := (Option.bind_some _ _).symm.trans H; rw [hy142]; with_reducible exact H2_) | (have H2_ := (Option.bind_some _ _).symm.trans H; with_reducible exact H2_) | with_reducible exact H | (rw [hy142]; exact H) | exact H
                                                    have Ny142 := Aside0.mk hy142
                                                    clear hy142
                                                    have H' := Aside0.mk H
                                                    clear H
                                                    go_wp2_with (first | ((with_reducible refine gate_builtin (b := .append) (xs := #[.tmp 110, .tmp 114]) rfl ?_); (try (refine gate_guard (by rfl) ?_; dsimp only)); at_builtin; refine Kd.R_append k55 (w0 := w) w.heap.size rfl (.tmp 110) (.tmp 114) 49 55 (.agg #[(.string ⟨#[]⟩), (.int .i64 0)]) 24 rfl Tryd.underlying49 info55 rfl (by decide) (by omega) u3 x3_1 (⟨x4_1 ++ (a0.extract ((ji29) : Int).toNat ((wrap64 ((ji29) + (wrap64 ((wrap64 (bt a0 (ji10))) + (wrap64 (256 * (wrap64 (bt a0 (ji14))))))))) : Int).toNat), wrap64 ((ji29) + (wrap64 ((wrap64 (bt a0 (ji10))) + (wrap64 (256 * (wrap64 (bt a0 (ji14))))))))⟩ : S55) [.string (x4_1 ++ (a0.extract ((ji29) : Int).toNat ((wrap64 ((ji29) + (wrap64 ((wrap64 (bt a0 (ji10))) + (wrap64 (256 * (wrap64 (bt a0 (ji14))))))))) : Int).toNat)), .int .i64 (wrap64 ((ji29) + (wrap64 ((wrap64 (bt a0 (ji10))) + (wrap64 (256 * (wrap64 (bt a0 (ji14)))))))))] (fun _ => True) (fun _ => False) rfl rfl ?aP (fun _ hk => hk.elim) ?aF ?aO ?aB ?aS ?aL ?_; (case aP => exact k55_mkM _ _ _ (⟨x4_1 ++ (a0.extract ((ji29) : Int).toNat ((wrap64 ((ji29) + (wrap64 ((wrap64 (bt a0 (ji10))) + (wrap64 (256 * (wrap64 (bt a0 (ji14))))))))) : Int).toNat), wrap64 ((ji29) + (wrap64 ((wrap64 (bt a0 (ji10))) + (wrap64 (256 * (wrap64 (bt a0 (ji14))))))))⟩ : S55)); (case aB => exact (by repeat (first | (with_reducible first | exact HB.out | apply below_alloc | apply pw_below_drewN | apply below_drew1) | exact HB.out))); (case aF => exact (fun _ _ => trivial)); (case aO => exact (by (with_reducible repeat (first | apply Kd.R_alloc | apply Kd.R_drewN | apply Kd.R_drew)); exact HO_3.out)); (case aS => exact (below_size (by repeat (first | (with_reducible first | exact HB.out | apply below_alloc | apply pw_below_drewN | apply below_drew1) | exact HB.out)))); (case aL => have := LMc47.out; omega); intro v143 w48 ho hb hg hat; rw [← Ny142.out] at ho; have n0_ := Aside0.mk (hb); have n1_ := Aside0.mk (ho); clear HB; clear HO_3; have HB := n0_; have HO144 := n1_; clear n0_ n1_; clear ho hb hg hat))
                                                    go_roundg kj32
                                                    case measure => have := HK1.out; have := HK2.out; have := HJ21.out; have := HJ32.out; omega
                                                    case rel => exact ⟨(y142), ((⟨#[]⟩ : ByteArray)), (((bt a0 (ji18)) == 3)), (wrap64 ((ji29) + (wrap64 ((wrap64 (bt a0 (ji10))) + (wrap64 (256 * (wrap64 (bt a0 (ji14))))))))), (by first | rfl | (simp; done) | (simp [*]; done)), (by first | rfl | (simp; done) | (simp only [← hji18] <;> (first | rfl | (simp; done))) | (simp [*]; done)), (by first | rfl | (simp; done) | (simp only [← hji10, ← hji14] <;> (first | rfl | (simp; done))) | (simp [*]; done)), H', ⟨by have := HK1.out; have := HK2.out; have := HJ21.out; have := HJ32.out; omega⟩, ⟨by (with_reducible repeat (first | apply Kd.R_alloc | apply Kd.R_drewN | apply Kd.R_drew)); exact HO144.out⟩, ⟨by repeat (first | (with_reducible first | exact HB.out | apply below_alloc | apply pw_below_drewN | apply below_drew1) | exact HB.out)⟩⟩
                                                  · rw [if_neg c47] at H
                                                    exact absurd H (by simp)
                                            · rw [if_neg c44] at H
                                              exact absurd H (by simp)
                                    · rw [if_neg c32] at H
                                      exact absurd H (by simp)
                                  · rw [if_neg c31] at H
                                    exact absurd H (by simp)
                                · rw [if_neg c30] at H
                                  exact absurd H (by simp)
                        · rw [if_neg c20] at H
                          exact absurd H (by simp)
                      · rw [if_neg c19] at H
                        exact absurd H (by simp)
                    · rw [if_neg c16] at H
                      exact absurd H (by simp)
                  · rw [if_neg c15] at H
                    exact absurd H (by simp)
                · rw [if_neg c12] at H
                  exact absurd H (by simp)
              · rw [if_neg c11] at H
                exact absurd H (by simp)
end Go.Proofs.YteilnbnnhocciaaDoor.KF

/-! KG3 -/
set_option linter.unusedVariables false
namespace Go.Proofs.YteilnbnnhocciaaDoor.KF
open Go.RowKit Go.Shelf Go.Proofs.YteilnbnnhocciaaDoorW.PrintWords Go.Proofs.YteilnbnnhocciaaDoorW.PrintLast Go.Proofs.YteilnbnnhocciaaDoorW.PrintMore Go.Proofs.YteilnbnnhocciaaDoorM
attribute [local go_sem] Oper.semAt_some
def asS (l : List (ByteArray × Int)) : List S55 := l.map fun x => ⟨x.1, x.2⟩
theorem asS_length (l : List (ByteArray × Int)) : (asS l).length = l.length := by simp [asS]
theorem last_of {l : List (ByteArray × Int)} (h : 0 < l.length) : (rd_T55 (asS l) ((l.length : Int) - 1)).f1 = lastTo l := by
  obtain ⟨p, x, rfl⟩ : ∃ p x, l = p ++ [x] := ⟨l.dropLast, l.getLast (by intro e; subst e; simp at h), (List.dropLast_concat_getLast _).symm⟩
  rw [lastTo_snoc]
  unfold rd_T55 asS
  rw [show (((p ++ [x]).length : Int) - 1).toNat = p.length from by simp, List.getD_eq_getElem?_getD]
  simp
theorem prefix_snoc {pre all : List (ByteArray × Int)} {x : ByteArray × Int} (hp : pre <+: all) (hl : pre.length < all.length) :
    (pre ++ [x]) <+: all ↔ (x.1.toList = (rd_T55 (asS all) (pre.length : Int)).f0.toList ∧ x.2 = (rd_T55 (asS all) (pre.length : Int)).f1) := by
  obtain ⟨r, rfl⟩ := hp
  cases r with
  | nil => simp at hl
  | cons y r =>
    have e : rd_T55 (asS (pre ++ y :: r)) (pre.length : Int) = ⟨y.1, y.2⟩ := by
      unfold rd_T55 asS
      rw [Int.toNat_natCast, List.getD_eq_getElem?_getD]
      simp
    rw [e]
    constructor
    · intro h
      rw [List.prefix_append_right_inj, List.cons_prefix_cons] at h
      rw [h.1]
      exact ⟨rfl, rfl⟩
    · rintro ⟨h1, h2⟩
      rw [List.prefix_append_right_inj, List.cons_prefix_cons]
      refine ⟨?_, List.nil_prefix⟩
      obtain ⟨a, b⟩ := x
      obtain ⟨c, d⟩ := y
      have : a = c := by
        cases a with | mk a => cases c with | mk c =>
        congr 1
        have := h1
        simp only [ByteArray.toList_eq] at this
        exact Array.toList_inj.1 this
      rw [this]
      exact congrArg (Prod.mk c) h2
theorem boxed_keep {W W' : World} {B : Nat} {t : TypeId} {v : Value} {row : Option Nat} (h : Boxed W B t v) (hg : W.grownBy W' row) (hr : ∀ r, row = some r → ∃ o, W.heap[r]? = some o ∧ o.isCells = false) : Boxed W' B t v :=
  h.kept hg (fun e => by
    obtain ⟨o, ho, hc⟩ := hr _ e.symm
    rw [show W.heap[B]? = _ from h] at ho
    cases ho
    cases hc)
theorem boxed_far {W : World} {B B' : Nat} {t : TypeId} {v : Value} (h : Boxed W B t v) (hne : B ≠ B') (u : Value) : Boxed (W.setCell ⟨B', 0, none⟩ u) B t v := h.kept (grownBy_setCell' W B' u) (fun e => hne (by cases e; rfl))
theorem boxed_below {W W' : World} {B : Nat} {t : TypeId} {v : Value} (h : Boxed W B t v) (hb : Below W.heap.size W W') : Boxed W' B t v := (hb.block B h.lt).trans h
set_option maxRecDepth 100000 in
set_option maxHeartbeats 2000000 in
theorem frameReads_long (log : ByteArray) (most : Nat) (w : World) (hl : 4000 < log.size) :
    Calls Tryd.prog 5 #[.string log, .int .u8 (most : Nat)] w fun e w' => e = .returned (.bool true) ∧ Below w.heap.size w w' := by
  have b1 := Boxed.new (w.alloc (.cells #[.int .u8 (most : Nat)] 5)) 4 (.bool false)
  rw [World.size_alloc] at b1
  have HB0 := Hush.mk (((Below.refl _ w).alloc (Nat.le_refl _) (.cells #[.int .u8 (most : Nat)] 5)).alloc (by simp) (.cells #[.bool false] 4))
  have B1 := Hush.mk b1
  clear b1
  go_enter Tryd.func5, Tryd.ntmps5
  go_wp2_with fail
  refine (bourselaw05_awake.calls _).mono ?_
  rintro e w1 ⟨rfl, hb1⟩
  have B2 := Hush.mk (boxed_below B1.out hb1)
  have HB1 := Hush.mk (HB0.out.trans (hb1.mono HB0.out.size))
  clear hb1
  have hc := B2.out.cell
  have hf := B2.out.frozen
  go_wp2
  refine bodyPost_ret (v := .bool true) (by simp [results, Tryd.results5, go_sem, hc]) rfl ⟨rfl, ?_⟩
  exact HB1.out.setCell (p := ⟨w.heap.size + 1, 0, none⟩) (by simp) _
set_option maxRecDepth 100000 in
set_option maxHeartbeats 4000000 in
theorem frameReads_walk (k k2 j : Nat) (log : ByteArray) (most : Nat) (all : List (ByteArray × Int)) (w : World) (hl : log.size ≤ 4000) (hr : recs k log j 0 = some all) (hq : bourseref05_Records.f k2 log = some (asS all)) (hn : all.length ≤ 4000) :
    Calls Tryd.prog 5 #[.string log, .int .u8 (most : Nat)] w fun e w' => e = .returned (.bool true) ∧ Below w.heap.size w w' := by
  have hro : Fence.wide.round = none := rfl
  have b0 := (Boxed.new w 5 (.int .u8 (most : Nat))).alloc (.cells #[.bool false] 4)
  have b1 := Boxed.new (w.alloc (.cells #[.int .u8 (most : Nat)] 5)) 4 (.bool false)
  rw [World.size_alloc] at b1
  have HB0 := Hush.mk (((Below.refl _ w).alloc (Nat.le_refl _) (.cells #[.int .u8 (most : Nat)] 5)).alloc (by simp) (.cells #[.bool false] 4))
  have B0 := Hush.mk b0
  have B1 := Hush.mk b1
  have HR := Hush.mk hr
  have HQ := Hush.mk hq
  have HN := Hush.mk hn
  clear b1 b0 hr hq hn
  refine (callsIn_wide (n := 6)).1 ?_
  refine callsIn_of_wp_marks Tryd.func5 rfl trivial ?_ hro
  simp only [Tryd.ntmps5, List.size_toArray, List.length_cons, List.length_nil, Nat.reduceAdd, Nat.reduceSub, Array.replicate_succ, Array.replicate_zero, List.push_toArray, List.append_toArray, List.nil_append, List.cons_append]
  gi_wp2_with fail
  refine ⟨trivial, ?_⟩; gi_at_call 24; refine (callsIn_wide.2 (bourselaw05_awake.calls _)).mono ?_
  rintro e w1 ⟨rfl, hb1⟩
  have B10 := Hush.mk (boxed_below B0.out hb1)
  have B11 := Hush.mk (boxed_below B1.out hb1)
  have HB1 := Hush.mk (HB0.out.trans (hb1.mono HB0.out.size))
  clear hb1
  gi_wp2_with fail
  refine ⟨trivial, ?_⟩; gi_at_call 25; refine (callsIn_wide.2 (bourseref05_Records.calls k2 log _ _ HQ.out)).mono ?_
  rintro e w2 ⟨v, rfl, hR, hb2⟩
  obtain ⟨A, c, rfl, hcap, hC⟩ := Kd.R_reads hR
  rw [asS_length] at hC ⊢
  have HC := Hush.mk hC
  have B20 := Hush.mk (boxed_below B10.out hb2)
  have B21 := Hush.mk (boxed_below B11.out hb2)
  have HB2 := Hush.mk (HB1.out.trans (hb2.mono HB1.out.size))
  clear hb2 hR hC hcap B10 B11 B0 B1 HB0 HB1
  gi_wp2_with fail
  refine ⟨trivial, ?_⟩; gi_at_call 26; refine (frame_Records.in_ 5 log _).mono ?_
  rintro e w3 ⟨rfl, rfl⟩
  have bW := ((Boxed.new w2 49 (.slice A all.length c)).alloc (.cells #[.int .i64 0] 3)).alloc (.cells #[.string log] 9)
  have bN := (Boxed.new (w2.alloc (.cells #[.slice A all.length c] 49)) 3 (.int .i64 0)).alloc (.cells #[.string log] 9)
  have bL := Boxed.new ((w2.alloc (.cells #[.slice A all.length c] 49)).alloc (.cells #[.int .i64 0] 3)) 9 (.string log)
  simp only [World.size_alloc] at bN bL
  have BW := Hush.mk bW
  have BN := Hush.mk bN
  have BL := Hush.mk bL
  clear bW bN bL
  have HBx := Hush.mk ((((Below.refl _ w2).alloc (Nat.le_refl _) (.cells #[.slice A all.length c] 49)).alloc (by simp) (.cells #[.int .i64 0] 3)).alloc (by simp; omega) (.cells #[.string log] 9))
  gi_wp2
  refine wpIn_rangeFunc_ownF hro (by omega) (gf := 75) (lb := #[.pointer (some ⟨w2.heap.size + 2, 0, none⟩)]) rfl trivial (enters_of Tryd.func75 (by kernel_rfl) rfl)
    (recs_stops _ k (w2.heap.size + 2) (by omega) log all j HR.out _ BL.out.cell) keepLog_t keepLog_b (Below.refl _ _) (fun _ => rfl)
    (fun pre W => (Boxed W w2.heap.size 49 (.slice A all.length c) ∧ Boxed W (w2.heap.size + 1) 3 (.int .i64 (pre.length : Nat)) ∧ pre <+: all) ∧ Below w2.heap.size w2 W)
    (fun cd pre W => (cd = .ret ∧ ∃ b, Boxed W (w.heap.size + 1) 4 (.bool b) ∧ (b = true ∨ ¬ pre <+: all)) ∧ Below w.heap.size w W)
    ?hI ?hIx ?h0
    (fun x => { tmps := #[.string log, .int .u8 (most : Nat), undef, .pointer (some ⟨w.heap.size, 0, none⟩), .pointer (some ⟨w.heap.size + 1, 0, none⟩), .pointer (some ⟨w2.heap.size, 0, none⟩), .pointer (some ⟨w2.heap.size + 1, 0, none⟩), .string x.1, .int .i64 x.2, undef, .bool true, .bool false, .string log, .int .i64 (log.size : Nat), .bool (decide (4000 < (log.size : Int))), .string log, .slice A all.length c, .string log, .func (.func 75) #[] #[.pointer (some ⟨w2.heap.size + 2, 0, none⟩)], .string x.1, .int .i64 x.2, undef, undef, undef, undef, undef, undef, undef, undef, undef, undef, undef, undef, undef, undef, undef, undef, undef, undef, undef, undef, undef, undef, undef, undef, undef, undef, undef, undef, undef, undef, undef, undef, undef, undef, undef, undef, undef, undef, undef, undef, undef, undef, undef, undef, undef, undef, undef, undef], defers := [] }) ?assign ?body ?done ?stop
  case hI => exact OwnFrom.and (Own.from (fun s X Y row hs hg hr => ⟨boxed_keep hs.1 hg hr, boxed_keep hs.2.1 hg hr, hs.2.2⟩) _) (ownFrom_below (Nat.le_refl _) (by simp; omega))
  case hIx =>
    intro cd
    refine OwnFrom.and (Own.from (fun s X Y row hs hg hr => ?_) _) (ownFrom_below (Nat.le_refl _) (by have := HB2.out.size; simp; omega))
    obtain ⟨h1, b, h2, h3⟩ := hs
    exact ⟨h1, b, boxed_keep h2 hg hr, h3⟩
  case h0 => exact ⟨⟨BW.out, BN.out, List.nil_prefix⟩, HBx.out⟩
  case assign =>
    intro l x W K hK
    simp only [enc2]
    gi_wp2
    exact hK
  case body =>
    rintro l pre x W ⟨⟨hw, hn, hp⟩, hB⟩ hlt
    have B30 := Hush.mk (boxed_below B20.out hB)
    have B31 := Hush.mk (boxed_below B21.out hB)
    have hC := Kd.C_below HC.out hB
    obtain ⟨ad, rfl, hs1, hs2⟩ := at_T55 hC (pre.length : Int) (by omega) (by omega)
    simp only [Int.toNat_natCast] at hs1 hs2
    have HWn := Hush.mk hw
    have HNn := Hush.mk hn
    have HBn := Hush.mk hB
    have cw := hw.cell
    have cn := hn.cell
    have fn := hn.frozen
    have cm := B30.out.cell
    have cr := B31.out.cell
    have fr := B31.out.frozen
    have hge : decide (all.length ≤ pre.length) = false := by simp; omega
    have hix : pre.length < all.length := hlt
    have hix2 : (pre.length : Int) < (all.length : Int) := by omega
    have hps := prefix_snoc (x := x) hp hlt
    have hpl : pre.length ≤ 4000 := by have := HN.out; omega
    have hz1 : w.heap.size + 1 < w2.heap.size := B21.out.lt
    obtain ⟨y, hy⟩ : ∃ y, y = rd_T55 (asS all) (pre.length : Int) := ⟨_, rfl⟩
    rw [← hy] at hs1 hs2 hps
    have HY := Hush.mk hy
    have HP := Hush.mk hp
    have HL := Hush.mk hlt
    have HPS := Hush.mk hps
    have HW1 : Hush (Below w.heap.size w W) := ⟨HB2.out.trans (hB.mono HB2.out.size)⟩
    clear hy hp hlt hw hn hB hC hps
    by_cases hx1 : x.1.toList = y.f0.toList
    · by_cases hx2 : x.2 = y.f1
      · have hb2 : (x.2 != y.f1) = false := by simpa using hx2
        have HPX : Hush ((pre ++ [x]) <+: all) := ⟨HPS.out.2 ⟨hx1, hx2⟩⟩
        clear hx2
        gi_wp2
        · exact ⟨(KeepsOthers.setCell _ _ _).trans (KeepsOthers.setCell _ _ _), ⟨rfl, true, (boxed_far B31.out (by omega) _).set _, .inl rfl⟩, (HW1.out.setCell (p := ⟨w2.heap.size + 1, 0, none⟩) (by simp; omega) _).setCell (p := ⟨w.heap.size + 1, 0, none⟩) (by simp) _⟩
        · exact ⟨KeepsOthers.setCell _ _ _, fun hL => by rw [World.cell?_setCell_other _ _ _ _ (by simp)]; exact hL, ⟨boxed_far HWn.out (by omega) _, (show Value.int .i64 ((pre ++ [x]).length : Int) = .int .i64 ((pre.length : Int) + 1) from by simp) ▸ HNn.out.set _, HPX.out⟩, HBn.out.setCell (p := ⟨w2.heap.size + 1, 0, none⟩) (by simp) _⟩
      · have hb2 : (x.2 != y.f1) = true := by simpa using hx2
        have HPX : Hush (¬ (pre ++ [x]) <+: all) := ⟨fun h => hx2 (HPS.out.1 h).2⟩
        clear hx2
        gi_wp2
        exact ⟨KeepsOthers.setCell _ _ _, ⟨rfl, false, B31.out.set _, .inr HPX.out⟩, HW1.out.setCell (p := ⟨w.heap.size + 1, 0, none⟩) (by simp) _⟩
    · have HPX : Hush (¬ (pre ++ [x]) <+: all) := ⟨fun h => hx1 (HPS.out.1 h).1⟩
      gi_wp2
      exact ⟨KeepsOthers.setCell _ _ _, ⟨rfl, false, B31.out.set _, .inr HPX.out⟩, HW1.out.setCell (p := ⟨w.heap.size + 1, 0, none⟩) (by simp) _⟩
  case done =>
    rintro D ys W hD rfl ⟨⟨hw, hn, hp⟩, hB⟩ hK
    have B31 := Hush.mk (boxed_below B21.out hB)
    have hC := Kd.C_below HC.out hB
    have HW1 : Hush (Below w.heap.size w W) := ⟨HB2.out.trans (hB.mono HB2.out.size)⟩
    have HKK := Hush.mk hK
    have cw := hw.cell
    have cn := hn.cell
    have cr := B31.out.cell
    have fr := B31.out.frozen
    have hz1 : w.heap.size + 1 < w2.heap.size := B21.out.lt
    clear hp hw hn hK
    by_cases he : ys.length = 0
    · obtain rfl : ys = [] := List.eq_nil_of_length_eq_zero he
      clear he
      gi_wp2_with fail
      refine ⟨trivial, ?_⟩; gi_at_call 27; refine (callsIn_wide.2 (frame_Whole.calls k j log [] _ HR.out)).mono ?_
      rintro e W3 ⟨rfl, hb3⟩
      have B41 := Hush.mk (boxed_below B31.out hb3)
      have HK3 := Hush.mk ((hb3.block D (Array.getElem?_eq_some_iff.1 HKK.out).1).trans HKK.out)
      have hlt : lastTo [] = 0 := rfl
      have HW3 : Hush (Below w.heap.size w W3) := ⟨HW1.out.trans (hb3.mono HW1.out.size)⟩
      have cr3 := B41.out.cell
      have fr3 := B41.out.frozen
      clear hb3
      gi_wp2
      have hb4 : Boxed ((W3.setCell ⟨w.heap.size + 1, 0, none⟩ (.bool true)).putObj D (.deferred none)) (w.heap.size + 1) 4 (.bool true) := boxed_keep (B41.out.set _) (grownBy_putObj' _ D _) (fun r e => by cases e; exact ⟨_, (KeepsOthers.setCell _ _ _).same D _ HK3.out rfl, rfl⟩)
      refine ⟨by simp, .inl ⟨_, _, rfl, run_takeDeferred ((KeepsOthers.setCell _ _ _).same D _ HK3.out rfl), ?_⟩⟩
      exact ⟨_, by simp [results, Tryd.results5, go_sem, hb4.cell], rfl, (HW3.out.setCell (p := ⟨w.heap.size + 1, 0, none⟩) (by simp) _).trans (belowK_b (w := w) (Nat.le_refl _) _ D _ _ (by have := HB2.out.size; simp at hD; omega) ((KeepsOthers.setCell _ _ _).same D _ HK3.out rfl) rfl rfl)⟩
    · have hx0 : 0 < ys.length := by omega
      have hx1 : ys.length ≤ 4000 := HN.out
      clear he
      obtain ⟨ad, rfl, hs1, hs2⟩ := at_T55 hC ((ys.length : Int) - 1) (by omega) (by omega)
      have HLT : Hush ((rd_T55 (asS ys) ((ys.length : Int) - 1)).f1 = lastTo ys) := ⟨last_of (by omega)⟩
      generalize rd_T55 (asS ys) ((ys.length : Int) - 1) = yl at hs1 hs2 HLT
      rw [show ((ys.length : Int) - 1).toNat = ys.length - 1 from by omega] at hs1 hs2
      clear hC
      gi_wp2_with fail
      refine ⟨trivial, ?_⟩; gi_at_call 27; refine (callsIn_wide.2 (frame_Whole.calls k j log ys _ HR.out)).mono ?_
      rintro e W3 ⟨rfl, hb3⟩
      have B41 := Hush.mk (boxed_below B31.out hb3)
      have HK3 := Hush.mk ((hb3.block D (Array.getElem?_eq_some_iff.1 HKK.out).1).trans HKK.out)
      have hlt : (lastTo ys == yl.f1) = true := by rw [HLT.out]; simp
      have HW3 : Hush (Below w.heap.size w W3) := ⟨HW1.out.trans (hb3.mono HW1.out.size)⟩
      have cr3 := B41.out.cell
      have fr3 := B41.out.frozen
      clear hb3
      gi_wp2
      have hb4 : Boxed ((W3.setCell ⟨w.heap.size + 1, 0, none⟩ (.bool true)).putObj D (.deferred none)) (w.heap.size + 1) 4 (.bool true) := boxed_keep (B41.out.set _) (grownBy_putObj' _ D _) (fun r e => by cases e; exact ⟨_, (KeepsOthers.setCell _ _ _).same D _ HK3.out rfl, rfl⟩)
      refine ⟨by simp, .inl ⟨_, _, rfl, run_takeDeferred ((KeepsOthers.setCell _ _ _).same D _ HK3.out rfl), ?_⟩⟩
      exact ⟨_, by simp [results, Tryd.results5, go_sem, hb4.cell], rfl, (HW3.out.setCell (p := ⟨w.heap.size + 1, 0, none⟩) (by simp) _).trans (belowK_b (w := w) (Nat.le_refl _) _ D _ _ (by have := HB2.out.size; simp at hD; omega) ((KeepsOthers.setCell _ _ _).same D _ HK3.out rfl) rfl rfl)⟩
  case stop =>
    rintro D cd pre W hD hpre ⟨⟨rfl, b, hb, hor⟩, hB⟩ hK
    obtain rfl : b = true := hor.resolve_right (fun h => h hpre)
    gi_wp2
    have hb4 : Boxed (W.putObj D (.deferred none)) (w.heap.size + 1) 4 (.bool true) := boxed_keep hb (grownBy_putObj' W D _) (fun r e => by cases e; exact ⟨_, hK, rfl⟩)
    refine ⟨by simp, .inl ⟨_, _, rfl, run_takeDeferred hK, ?_⟩⟩
    exact ⟨_, by simp [results, Tryd.results5, go_sem, hb4.cell], rfl, hB.trans (belowK_b (w := w) (Nat.le_refl _) W D _ _ (by have := HB2.out.size; simp at hD; omega) hK rfl rfl)⟩
end Go.Proofs.YteilnbnnhocciaaDoor.KF

/-! KP8 -/
set_option linter.unusedVariables false
namespace Go.Proofs.YteilnbnnhocciaaDoor.P
open Go.RowKit Go.Proofs.YteilnbnnhocciaaDoorW.PrintWords Go.Proofs.YteilnbnnhocciaaDoorW.PrintLast Go.Proofs.YteilnbnnhocciaaDoorW.PrintMore Go.Proofs.YteilnbnnhocciaaDoorM Go.Proofs.YteilnbnnhocciaaDoor.KF
theorem r1_step (k : Nat) (x : ByteArray) (out : List S55) (acc : ByteArray) (wi : Bool) (a room z y4 y5 y6 n kd sp : Int) (hr : bourseref05_room.f a = some room) (h7 : ¬ room < 7) (w7 : wrap64 (a + 7) = z) (hz : ¬ z > (x.size : Int))
    (w4 : wrap64 (a + 4) = y4) (w5 : wrap64 (a + 5) = y5) (w6 : wrap64 (a + 6) = y6) (c4 : 0 ≤ y4) (d4 : y4 < (x.size : Int)) (c5 : 0 ≤ y5) (d5 : y5 < (x.size : Int)) (c6 : 0 ≤ y6) (d6 : y6 < (x.size : Int))
    (hn : wrap64 ((wrap64 (bt x y4)) + (wrap64 (256 * (wrap64 (bt x y5))))) = n) (hk : bt x y6 = kd) (hs : wrap64 (room - 7) = sp) :
    bourseref05_Records.l1 (k + 1) x out acc wi a = (if kd < 1 then bourseref05_Records.j2 k x out acc wi a n kd true else if kd > 4 then bourseref05_Records.j2 k x out acc wi a n kd true else if n > sp then bourseref05_Records.j2 k x out acc wi a n kd true else bourseref05_Records.j2 k x out acc wi a n kd (decide (wrap64 (z + n) > (x.size : Int)))) := by
  rw [bourseref05_Records.l1]
  simp only [hr, Option.bind_some, if_neg h7, w7, if_neg hz, w4, w5, w6, if_pos c4, if_pos d4, if_pos c5, if_pos d5, if_pos c6, if_pos d6, hn, hk, hs]
theorem r1_short (k : Nat) (x : ByteArray) (out : List S55) (acc : ByteArray) (wi : Bool) (a room z : Int) (hr : bourseref05_room.f a = some room) (h7 : ¬ room < 7) (w7 : wrap64 (a + 7) = z) (hz : z > (x.size : Int)) :
    bourseref05_Records.l1 (k + 1) x out acc wi a = some out := by
  rw [bourseref05_Records.l1]
  simp only [hr, Option.bind_some, if_neg h7, w7, if_pos hz]
theorem r1_pad (k : Nat) (x : ByteArray) (out : List S55) (acc : ByteArray) (wi : Bool) (a room z : Int) (hr : bourseref05_room.f a = some room) (h7 : room < 7) (hz : ¬ a ≥ (x.size : Int)) (h0 : 0 ≤ a) (h1 : a < (x.size : Int)) (hb : bt x a = 0) (w1 : wrap64 (a + 1) = z) :
    bourseref05_Records.l1 (k + 1) x out acc wi a = bourseref05_Records.l1 k x out acc wi z := by
  rw [bourseref05_Records.l1]
  simp only [hr, Option.bind_some, if_pos h7, if_neg hz, if_pos h0, if_pos h1, if_pos hb, w1]
theorem r1_nopad (k : Nat) (x : ByteArray) (out : List S55) (acc : ByteArray) (wi : Bool) (a room : Int) (hr : bourseref05_room.f a = some room) (h7 : room < 7) (h0 : 0 ≤ a) (hb : a ≥ (x.size : Int) ∨ ¬ bt x a = 0) :
    bourseref05_Records.l1 (k + 1) x out acc wi a = some out := by
  rw [bourseref05_Records.l1]
  by_cases hz : a ≥ (x.size : Int)
  · simp only [hr, Option.bind_some, if_pos h7, if_pos hz]
  · have h1 : a < (x.size : Int) := by omega
    have h2 := hb.resolve_left hz
    simp only [hr, Option.bind_some, if_pos h7, if_neg hz, if_pos h0, if_pos h1, if_neg h2]
theorem r2_true (k : Nat) (x : ByteArray) (out : List S55) (acc : ByteArray) (wi : Bool) (a n kd : Int) : bourseref05_Records.j2 (k + 1) x out acc wi a n kd true = some out := by
  rw [bourseref05_Records.j2, if_pos rfl]
theorem r2_step (k : Nat) (x q h4 : ByteArray) (out : List S55) (acc : ByteArray) (wi : Bool) (a n kd y z y4 : Int) (w1 : wrap64 (a + 7) = y) (w2 : wrap64 (y + n) = z) (c1 : 0 ≤ y) (c2 : y ≤ z) (c3 : z ≤ (x.size : Int)) (hq : x.extract y.toNat z.toNat = q) (t : ByteArray) (ht : bourseref05_sum.f k kd q = some t)
    (c4 : 0 ≤ a) (w4 : wrap64 (a + 4) = y4) (c5 : a ≤ y4) (c6 : y4 ≤ (x.size : Int)) (hh : x.extract a.toNat y4.toNat = h4) :
    bourseref05_Records.j2 (k + 1) x out acc wi a n kd false = if t.toList = h4.toList then bourseref05_Records.j3 k x out acc a n kd q (wi != decide (kd > 2)) else bourseref05_Records.j3 k x out acc a n kd q true := by
  rw [bourseref05_Records.j2]
  simp only [w1, w2, if_pos c1, if_pos c2, if_pos c3, hq, ht, Option.bind_some, if_pos c4, w4, if_pos c5, if_pos c6, hh, Bool.false_eq_true, if_false]
theorem r3_true (k : Nat) (x : ByteArray) (out : List S55) (acc : ByteArray) (a n kd : Int) (q : ByteArray) : bourseref05_Records.j3 (k + 1) x out acc a n kd q true = some out := by
  rw [bourseref05_Records.j3, if_pos rfl]
theorem r3_step (k : Nat) (x q : ByteArray) (out : List S55) (acc : ByteArray) (a n kd y z : Int) (w1 : wrap64 (a + 7) = y) (w2 : wrap64 (y + n) = z) (hs : acc.size + q.size ≤ 9223372036854775807) (hl : out.length < 5864062014805) :
    bourseref05_Records.j3 (k + 1) x out acc a n kd q false = if kd = 2 then bourseref05_Records.l0 k x out (acc ++ q) true z else if kd = 3 then bourseref05_Records.l0 k x out (acc ++ q) (kd == 3) z else bourseref05_Records.l0 k x (out ++ [(⟨acc ++ q, z⟩ : S55)]) (⟨#[]⟩ : ByteArray) (kd == 3) z := by
  rw [bourseref05_Records.j3]
  simp only [w1, w2, if_pos hs, if_pos hl, Bool.false_eq_true, if_false]
theorem r_pads : ∀ (d k a : Nat) (log : List UInt8) (out : List S55) (acc : ByteArray) (wi : Bool), padN a = d → log.length ≤ 1000000 → a + d ≤ log.length → (log.drop a).take d = List.replicate d 0 →
    bourseref05_Records.l1 (k + d) (B log) out acc wi (a : Int) = bourseref05_Records.l1 k (B log) out acc wi ((a + d : Nat) : Int)
  | 0, k, a, log, out, acc, wi, h, hl, h1, h2 => rfl
  | d + 1, k, a, log, out, acc, wi, h, hl, h1, h2 => by
    have hr : roomN a < 7 := by unfold padN at h; split at h <;> omega
    have ha : a < log.length := by omega
    rw [List.drop_eq_getElem_cons ha, List.take_succ_cons, List.replicate_succ, List.cons.injEq] at h2
    have hb : bt (B log) (a : Int) = 0 := by rw [bt_of log a ha, h2.1]; rfl
    have q1 : ¬ (a : Int) ≥ ((B log).size : Int) := by rw [B_size]; omega
    have q2 : (a : Int) < ((B log).size : Int) := by rw [B_size]; omega
    have q3 : (0 : Int) ≤ (a : Int) := by omega
    have q4 : (roomN a : Int) < 7 := by omega
    have q5 : a ≤ 2000000 := by omega
    have hrf := room_f a (by omega)
    have w1 := w_lit a 1 1 q5 rfl (by decide)
    rw [← Nat.add_assoc, r1_pad (k + d) (B log) out acc wi a _ _ hrf q4 q1 q3 q2 hb w1]
    clear w1 hb
    rw [r_pads d k (a + 1) log out acc wi (zero_room a d h) hl (by omega) h2.2, show a + 1 + d = a + (d + 1) from by omega]
theorem r_nopads : ∀ (d k a : Nat) (log : List UInt8) (out : List S55) (acc : ByteArray) (wi : Bool), padN a = d → log.length ≤ 1000000 → a ≤ log.length → (log.drop a).take d ≠ List.replicate d 0 →
    bourseref05_Records.l1 (k + d) (B log) out acc wi (a : Int) = some out
  | 0, k, a, log, out, acc, wi, h, hl, h1, h2 => absurd rfl h2
  | d + 1, k, a, log, out, acc, wi, h, hl, h1, h2 => by
    have hr : roomN a < 7 := by unfold padN at h; split at h <;> omega
    have q3 : (0 : Int) ≤ (a : Int) := by omega
    have q4 : (roomN a : Int) < 7 := by omega
    have hrf := room_f a (by omega)
    rw [← Nat.add_assoc]
    by_cases ha : a < log.length
    · by_cases hz : log[a] = 0
      · rw [List.drop_eq_getElem_cons ha, List.take_succ_cons, List.replicate_succ, hz] at h2
        have h3 : (log.drop (a + 1)).take d ≠ List.replicate d 0 := fun e => h2 (by rw [e])
        have hb : bt (B log) (a : Int) = 0 := by rw [bt_of log a ha, hz]; rfl
        have q1 : ¬ (a : Int) ≥ ((B log).size : Int) := by rw [B_size]; omega
        have q2 : (a : Int) < ((B log).size : Int) := by rw [B_size]; omega
        have q5 : a ≤ 2000000 := by omega
        have w1 := w_lit a 1 1 q5 rfl (by decide)
        rw [r1_pad (k + d) (B log) out acc wi a _ _ hrf q4 q1 q3 q2 hb w1]
        exact r_nopads d k (a + 1) log out acc wi (zero_room a d h) hl ha h3
      · refine r1_nopad _ _ _ _ _ _ _ hrf q4 q3 (.inr ?_)
        rw [bt_of log a ha]
        intro e
        apply hz
        exact UInt8.toNat_inj.1 (Int.ofNat.inj e)
    · exact r1_nopad _ _ _ _ _ _ _ hrf q4 q3 (.inl (by rw [B_size]; omega))
theorem sum_bytes (b4 b5 : UInt8) : wrap64 (wrap64 (b4.toNat : Int) + wrap64 (256 * wrap64 (b5.toNat : Int))) = ((b4.toNat + 256 * b5.toNat : Nat) : Int) := by
  have c4 := UInt8.toNat_lt b4
  have c5 := UInt8.toNat_lt b5
  rw [wrap_in (n := (b4.toNat : Int)) (by omega) (by omega), wrap_in (n := (b5.toNat : Int)) (by omega) (by omega), wrap_in (n := 256 * (b5.toNat : Int)) (by omega) (by omega), wrap_in (by omega) (by omega)]
  omega
set_option maxHeartbeats 1000000 in
theorem r_head (log : List UInt8) (a : Nat) (hl : log.length ≤ 1000000) (ha : a ≤ log.length) (k : Nat) (out : List S55) (acc : ByteArray) (wi : Bool) {s4 r : List UInt8} {b4 b5 b6 : UInt8} (hs4 : s4.length = 4) (hd : log.drop a = List.replicate (padN a) 0 ++ (s4 ++ b4 :: b5 :: b6 :: r)) (hacc : acc.size ≤ 1000000) (hout : out.length ≤ 1000000) :
    bourseref05_Records.l1 (k + 600 + 3 + padN a) (B log) out acc wi (a : Int) = (if (b6.toNat : Int) < 1 then some out else if (b6.toNat : Int) > 4 then some out else if ((b4.toNat + 256 * b5.toNat : Nat) : Int) > (spaceN a : Int) then some out else
      if r.length < b4.toNat + 256 * b5.toNat then some out else if sumL b6.toNat (r.take (b4.toNat + 256 * b5.toNat)) = s4 then
        (if (wi != decide ((b6.toNat : Int) > 2)) = true then some out else
          if (b6.toNat : Int) = 2 then bourseref05_Records.l0 (k + 600) (B log) out (acc ++ B (r.take (b4.toNat + 256 * b5.toNat))) true ((a + padN a + 7 + (b4.toNat + 256 * b5.toNat) : Nat) : Int)
          else if (b6.toNat : Int) = 3 then bourseref05_Records.l0 (k + 600) (B log) out (acc ++ B (r.take (b4.toNat + 256 * b5.toNat))) ((b6.toNat : Int) == 3) ((a + padN a + 7 + (b4.toNat + 256 * b5.toNat) : Nat) : Int)
          else bourseref05_Records.l0 (k + 600) (B log) (out ++ [(⟨acc ++ B (r.take (b4.toNat + 256 * b5.toNat)), ((a + padN a + 7 + (b4.toNat + 256 * b5.toNat) : Nat) : Int)⟩ : S55)]) (⟨#[]⟩ : ByteArray) ((b6.toNat : Int) == 3) ((a + padN a + 7 + (b4.toNat + 256 * b5.toNat) : Nat) : Int)) else some out) := by
  have hp := padN_lt a
  have hrm := room_padded a
  have hlen : log.length = a + padN a + 7 + r.length := by
    have := congrArg List.length hd
    simp only [List.length_drop, List.length_append, List.length_replicate, List.length_cons, hs4] at this
    omega
  have c4 := UInt8.toNat_lt b4
  have c5 := UInt8.toNat_lt b5
  have c6 := UInt8.toNat_lt b6
  have hz : (log.drop a).take (padN a) = List.replicate (padN a) 0 := by rw [hd, take_left' (by simp)]
  rw [r_pads (padN a) (k + 600 + 3) a log out acc wi rfl hl (by omega) hz]
  have q1 : ¬ (roomN (a + padN a) : Int) < 7 := by omega
  have q3 : ¬ ((a + padN a + 7 : Nat) : Int) > ((B log).size : Int) := by rw [B_size]; omega
  have q4 : (0 : Int) ≤ ((a + padN a + 4 : Nat) : Int) := by omega
  have q5 : ((a + padN a + 4 : Nat) : Int) < ((B log).size : Int) := by rw [B_size]; omega
  have q6 : (0 : Int) ≤ ((a + padN a + 5 : Nat) : Int) := by omega
  have q7 : ((a + padN a + 5 : Nat) : Int) < ((B log).size : Int) := by rw [B_size]; omega
  have q8 : (0 : Int) ≤ ((a + padN a + 6 : Nat) : Int) := by omega
  have q9 : ((a + padN a + 6 : Nat) : Int) < ((B log).size : Int) := by rw [B_size]; omega
  have qr := room_f (a + padN a) (by omega)
  have hb3 : a + padN a ≤ 2000000 := by omega
  have W7 := Hush.mk (w_lit (a + padN a) 7 7 hb3 rfl (by decide))
  have W4 := Hush.mk (w_lit (a + padN a) 4 4 hb3 rfl (by decide))
  have W5 := Hush.mk (w_lit (a + padN a) 5 5 hb3 rfl (by decide))
  have W6 := Hush.mk (w_lit (a + padN a) 6 6 hb3 rfl (by decide))
  rw [show k + 600 + 3 = k + 600 + 2 + 1 from rfl, r1_step (k + 600 + 2) (B log) out acc wi ((a + padN a : Nat) : Int) _ _ _ _ _ ((b4.toNat + 256 * b5.toNat : Nat) : Int) (b6.toNat : Int) _ qr q1 W7.out q3 W4.out W5.out W6.out q4 q5 q6 q7 q8 q9
    (by rw [(bytes_at hs4 ha hd).1, (bytes_at hs4 ha hd).2.1]; exact sum_bytes b4 b5) (bytes_at hs4 ha hd).2.2 (w_min7 a)]
  simp only [show k + 600 + 2 = k + 600 + 1 + 1 from rfl, r2_true]
  generalize hN : b4.toNat + 256 * b5.toNat = N
  have hsp := spaceN_le a
  by_cases g1 : (b6.toNat : Int) < 1
  · simp only [if_pos g1]
  simp only [if_neg g1]
  by_cases g2 : (b6.toNat : Int) > 4
  · simp only [if_pos g2]
  simp only [if_neg g2]
  by_cases g3 : (N : Int) > (spaceN a : Int)
  · simp only [if_pos g3]
  simp only [if_neg g3]
  have hb4 : a + padN a + 7 ≤ 2000000 := by omega
  have hb5 : N < 1000 := by omega
  have wz := Hush.mk (w_at (a + padN a + 7) N hb4 hb5)
  have hdec : decide (wrap64 (((a + padN a + 7 : Nat) : Int) + (N : Int)) > ((B log).size : Int)) = decide (r.length < N) := by
    rw [wz.out, B_size, decide_eq_decide]
    omega
  rw [hdec]
  by_cases g4 : r.length < N
  · rw [decide_eq_true g4, if_pos g4]
    exact r2_true _ _ _ _ _ _ _ _
  rw [decide_eq_false g4, if_neg g4]
  have hbody : (B log).extract ((a + padN a + 7 : Nat) : Int).toNat ((a + padN a + 7 + N : Nat) : Int).toNat = B (r.take N) := by
    rw [Int.toNat_natCast, Int.toNat_natCast, B_ext _ _ _ (by omega), ← List.take_drop, rest_of hs4 hd]
  have hfour : (B log).extract ((a + padN a : Nat) : Int).toNat ((a + padN a + 4 : Nat) : Int).toNat = B s4 := by
    rw [Int.toNat_natCast, Int.toNat_natCast, B_ext _ _ _ (by omega), ← List.take_drop, at_of hd, take_left' hs4]
  have hT : (r.take N).length = N := by rw [List.length_take]; omega
  have hsum := sum_r (k + 600 + 1) b6.toNat (by omega) (r.take N) (by omega) (by omega)
  have u1 : (0 : Int) ≤ ((a + padN a + 7 : Nat) : Int) := by omega
  have u2 : ((a + padN a + 7 : Nat) : Int) ≤ ((a + padN a + 7 + N : Nat) : Int) := by omega
  have u3 : ((a + padN a + 7 + N : Nat) : Int) ≤ ((B log).size : Int) := by rw [B_size]; omega
  have u4 : (0 : Int) ≤ ((a + padN a : Nat) : Int) := by omega
  have u5 : ((a + padN a : Nat) : Int) ≤ ((a + padN a + 4 : Nat) : Int) := by omega
  have u6 : ((a + padN a + 4 : Nat) : Int) ≤ ((B log).size : Int) := by rw [B_size]; omega
  have u7 : acc.size + (B (r.take N)).size ≤ 9223372036854775807 := by rw [B_size]; omega
  have u8 : out.length < 5864062014805 := by omega
  rw [r2_step (k + 600 + 1) (B log) _ _ out acc wi _ _ _ _ _ _ W7.out wz.out u1 u2 u3 hbody _ hsum u4 W4.out u5 u6 hfour, tl, tl, B_data, B_data]
  by_cases hq : sumL b6.toNat (r.take N) = s4
  · rw [if_pos hq, if_pos hq]
    cases hw : (wi != decide ((b6.toNat : Int) > 2)) with
    | true => rw [if_pos rfl]; exact r3_true _ _ _ _ _ _ _ _
    | false => rw [if_neg Bool.false_ne_true, r3_step (k + 600) (B log) _ out acc _ _ _ _ _ W7.out wz.out u7 u8]
  · rw [if_neg hq, if_neg hq]
    exact r3_true _ _ _ _ _ _ _ _
end Go.Proofs.YteilnbnnhocciaaDoor.P

/-! KP9 -/
set_option linter.unusedVariables false
namespace Go.Proofs.YteilnbnnhocciaaDoor.P
open Go.RowKit Go.Proofs.YteilnbnnhocciaaDoorW.PrintWords Go.Proofs.YteilnbnnhocciaaDoorW.PrintLast Go.Proofs.YteilnbnnhocciaaDoorW.PrintMore Go.Proofs.YteilnbnnhocciaaDoorM Go.Proofs.YteilnbnnhocciaaDoor.KF
theorem ref_none {log : List UInt8} {a : Nat} (hl : log.length ≤ 1000000) (ha : a ≤ log.length) (hno : ∀ kd s, ¬ Piece log a kd s) (k : Nat) (out : List S55) (acc : ByteArray) (wi : Bool) (hacc : acc.size ≤ 1000000) (hout : out.length ≤ 1000000) :
    bourseref05_Records.l1 (k + 600 + 3 + padN a) (B log) out acc wi (a : Int) = some out := by
  have hp := padN_lt a
  have hrm := room_padded a
  by_cases h2 : (log.drop a).take (padN a) = List.replicate (padN a) 0
  · have hal : a + padN a ≤ log.length := by
      have := congrArg List.length h2
      simp only [List.length_take, List.length_drop, List.length_replicate] at this
      omega
    by_cases h1 : log.length < a + padN a + 7
    · rw [r_pads (padN a) (k + 600 + 3) a log out acc wi rfl hl hal h2]
      have q1 : ¬ (roomN (a + padN a) : Int) < 7 := by omega
      have q3 : ((a + padN a + 7 : Nat) : Int) > ((B log).size : Int) := by rw [B_size]; omega
      have qr := room_f (a + padN a) (by omega)
      have hb3 : a + padN a ≤ 2000000 := by omega
      exact r1_short (k + 600 + 2) (B log) out acc wi _ _ _ qr q1 (w_lit (a + padN a) 7 7 hb3 rfl (by decide)) q3
    · have hdl : 7 ≤ ((log.drop a).drop (padN a)).length := by simp only [List.length_drop]; omega
      obtain ⟨s4, b4, b5, b6, r, hs4, he⟩ := seven hdl
      have hd : log.drop a = List.replicate (padN a) 0 ++ (s4 ++ b4 :: b5 :: b6 :: r) := by
        rw [← he, ← h2, List.take_append_drop]
      have hpi := piece_iff hs4 hd
      rw [r_head log a hl ha k out acc wi hs4 hd hacc hout]
      generalize b4.toNat + 256 * b5.toNat = N at hpi ⊢
      by_cases g1 : (b6.toNat : Int) < 1
      · rw [if_pos g1]
      rw [if_neg g1]
      by_cases g2 : (b6.toNat : Int) > 4
      · rw [if_pos g2]
      rw [if_neg g2]
      by_cases g3 : (N : Int) > (spaceN a : Int)
      · rw [if_pos g3]
      rw [if_neg g3]
      by_cases g4 : r.length < N
      · rw [if_pos g4]
      rw [if_neg g4]
      have hT : (r.take N).length = N := by rw [List.length_take]; omega
      by_cases hq : sumL b6.toNat (r.take N) = s4
      · exact absurd ((hpi b6.toNat (r.take N)).2 ⟨rfl, by omega, by omega, hT, by omega, by omega, by rw [hT], hq⟩) (hno _ _)
      · rw [if_neg hq]
  · exact r_nopads (padN a) (k + 600 + 3) a log out acc wi rfl hl ha h2
theorem ref_piece {log : List UInt8} {a kd : Nat} {s : List UInt8} (hl : log.length ≤ 1000000) (hp : Piece log a kd s) (k : Nat) (out : List S55) (acc : ByteArray) (wi : Bool) (hacc : acc.size ≤ 1000000) (hout : out.length ≤ 1000000) :
    bourseref05_Records.l1 (k + 600 + 3 + padN a) (B log) out acc wi (a : Int) = (if (wi != decide ((kd : Int) > 2)) = true then some out else
          if (kd : Int) = 2 then bourseref05_Records.l0 (k + 600) (B log) out (acc ++ B s) true (nextN a s : Int)
          else if (kd : Int) = 3 then bourseref05_Records.l0 (k + 600) (B log) out (acc ++ B s) ((kd : Int) == 3) (nextN a s : Int)
          else bourseref05_Records.l0 (k + 600) (B log) (out ++ [(⟨acc ++ B s, (nextN a s : Int)⟩ : S55)]) (⟨#[]⟩ : ByteArray) ((kd : Int) == 3) (nextN a s : Int)) := by
  have hn := piece_next hp
  have hn2 : nextN a s = a + padN a + (7 + s.length) := rfl
  obtain ⟨t, ht⟩ := hp.2.2.2
  have h2 : (log.drop a).take (padN a) = List.replicate (padN a) 0 := by rw [← ht, List.append_assoc, take_left' (by simp)]
  have hdl : 7 ≤ ((log.drop a).drop (padN a)).length := by simp only [List.length_drop]; omega
  obtain ⟨s4, b4, b5, b6, r, hs4, he⟩ := seven hdl
  have hd : log.drop a = List.replicate (padN a) 0 ++ (s4 ++ b4 :: b5 :: b6 :: r) := by
    rw [← he, ← h2, List.take_append_drop]
  obtain ⟨k1, k2, k3, k4, k5, k6, k7, k8⟩ := (piece_iff hs4 hd kd s).1 hp
  rw [r_head log a hl (by omega) k out acc wi hs4 hd hacc hout, ← k4, ← k7, ← k1]
  rw [if_neg (by omega), if_neg (by omega), if_neg (by omega), if_neg (by omega), if_pos k8]
  rw [show a + padN a + 7 + s.length = nextN a s from by omega]
def Tells (x : ByteArray) (out : List S55) (acc : ByteArray) (wi : Bool) (a : Int) (r : List S55) : Prop := ∃ K, ∀ k, K ≤ k → bourseref05_Records.l0 k x out acc wi a = some r
theorem tells_of {x : ByteArray} {out : List S55} {acc : ByteArray} {wi : Bool} {a : Nat} {r : List S55} {K : Nat} (h : ∀ k, K ≤ k → bourseref05_Records.l1 (k + 600 + 3 + padN a) x out acc wi (a : Int) = some r) : Tells x out acc wi (a : Int) r := by
  have hp := padN_lt a
  refine ⟨K + 700, fun k hk => ?_⟩
  obtain ⟨k', rfl⟩ : ∃ k', k = (k' + 600 + 3 + padN a) + 1 := ⟨k - (600 + 3 + padN a + 1), by omega⟩
  rw [bourseref05_Records.l0]
  exact h k' (by omega)
theorem not_bad (bg en : Bool) : ((!bg) != decide ((kindN bg en : Int) > 2)) = false := by cases bg <;> cases en <;> rfl
theorem is_bad {kd : Nat} {bg : Bool} (h1 : 1 ≤ kd) (h4 : kd ≤ 4) (h : ∀ en, kd ≠ kindN bg en) : ((!bg) != decide ((kd : Int) > 2)) = true := by
  have ht := h true
  have hf := h false
  obtain rfl | rfl | rfl | rfl : kd = 1 ∨ kd = 2 ∨ kd = 3 ∨ kd = 4 := by omega
  all_goals (cases bg <;> first | rfl | exact absurd rfl ht | exact absurd rfl hf)
theorem rec_r {log : List UInt8} (hl : log.length ≤ 1000000) {a : Nat} {bg : Bool} {s : List UInt8} {tw : Nat} (h : Rec log a bg s tw) : ∀ (out : List S55) (acc : List UInt8) (r : List S55), acc.length ≤ a → out.length ≤ 1000000 →
    Tells (B log) (out ++ [(⟨B (acc ++ s), (tw : Int)⟩ : S55)]) (B []) false (tw : Int) r → Tells (B log) out (B acc) (!bg) (a : Int) r := by
  induction h with
  | last a bg s h =>
    intro out acc r hacc hout ⟨K, hK⟩
    have hn := piece_next h
    have hn2 : nextN a s = a + padN a + (7 + s.length) := rfl
    refine tells_of (K := K) fun k hk => ?_
    rw [ref_piece hl h k out (B acc) (!bg) (by rw [B_size]; omega) hout, not_bad, if_neg (by decide), B_app]
    have := hK (k + 600) (by omega)
    cases bg
    · rw [if_neg (by decide), if_neg (by decide)]; exact this
    · rw [if_neg (by decide), if_neg (by decide)]; exact this
  | more a bg s t tw h hr ih =>
    intro out acc r hacc hout hK
    have hn := piece_next h
    have hn2 : nextN a s = a + padN a + (7 + s.length) := rfl
    rw [← List.append_assoc] at hK
    obtain ⟨K, hK⟩ := ih out (acc ++ s) r (by simp; omega) hout hK
    refine tells_of (K := K) fun k hk => ?_
    rw [ref_piece hl h k out (B acc) (!bg) (by rw [B_size]; omega) hout, not_bad, if_neg (by decide), B_app]
    have := hK (k + 600) (by omega)
    cases bg
    · rw [if_neg (by decide), if_pos (by decide)]; exact this
    · rw [if_pos (by decide)]; exact this
theorem norec_r {log : List UInt8} (hl : log.length ≤ 1000000) : ∀ (m a : Nat) (bg : Bool) (out : List S55) (acc : List UInt8), log.length - a ≤ m → a ≤ log.length → acc.length ≤ a → out.length ≤ 1000000 → (∀ s tw, ¬ Rec log a bg s tw) →
    Tells (B log) out (B acc) (!bg) (a : Int) out
  | m, a, bg, out, acc, hm, ha, hacc, hout, h => by
    by_cases hp : ∃ kd s, Piece log a kd s
    · obtain ⟨kd, s, hp⟩ := hp
      have hn := piece_next hp
      have hn2 : nextN a s = a + padN a + (7 + s.length) := rfl
      by_cases hk : ∀ en, kd ≠ kindN bg en
      · refine tells_of (K := 0) fun k _ => ?_
        rw [ref_piece hl hp k out (B acc) (!bg) (by rw [B_size]; omega) hout, is_bad hp.1 hp.2.1 hk, if_pos rfl]
      · have hk2 : ∃ en, kd = kindN bg en := Classical.byContradiction fun hx => hk fun en he => hx ⟨en, he⟩
        obtain ⟨en, rfl⟩ := hk2
        cases en with
        | true => exact absurd (Rec.last a bg s hp) (h _ _)
        | false =>
          cases m with
          | zero => omega
          | succ m =>
            obtain ⟨K, hK⟩ := norec_r hl m (nextN a s) false out (acc ++ s) (by omega) hn (by simp; omega) hout (fun t tw hr => h _ _ (.more a bg s t tw hp hr))
            refine tells_of (K := K) fun k hk => ?_
            rw [ref_piece hl hp k out (B acc) (!bg) (by rw [B_size]; omega) hout, not_bad, if_neg (by decide), B_app]
            have := hK (k + 600) (by omega)
            cases bg
            · rw [if_neg (by decide), if_pos (by decide)]; exact this
            · rw [if_pos (by decide)]; exact this
    · refine tells_of (K := 0) fun k _ => ?_
      exact ref_none hl ha (fun kd s hp' => hp ⟨kd, s, hp'⟩) k out (B acc) (!bg) (by rw [B_size]; omega) hout
theorem recs_r {log : List UInt8} (hl : log.length ≤ 1000000) {a : Nat} {l : List (List UInt8 × Nat)} (h : Recs log a l) : ∀ out : List S55, a ≤ log.length → out.length ≤ a →
    Tells (B log) out (B []) false (a : Int) (out ++ asS (asB l)) := by
  induction h with
  | done a h =>
    intro out ha hout
    have := norec_r hl _ a true out [] (Nat.le_refl _) ha (by simp) (by omega) h
    simpa [asS, asB] using this
  | more a s tw l h hr ih =>
    intro out ha hout
    have hn := rec_next h
    have h2 := ih (out ++ [(⟨B s, (tw : Int)⟩ : S55)]) hn.2 (by simp; omega)
    have h3 := rec_r hl h out [] _ (by simp) (by omega) h2
    simpa [asS, asB] using h3
theorem recs_len {log : List UInt8} {a : Nat} {l : List (List UInt8 × Nat)} (h : Recs log a l) : a ≤ log.length → a + l.length ≤ log.length := by
  induction h with
  | done a h => intro ha; simpa using ha
  | more a s tw l h hr ih =>
    intro ha
    have hn := rec_next h
    have := ih hn.2
    simp only [List.length_cons]
    omega
theorem reads_law (log : ByteArray) (hl : log.size ≤ 1000000) : ∃ (k k2 j : Nat) (all : List (ByteArray × Int)), recs k log j 0 = some all ∧ bourseref05_Records.f k2 log = some (asS all) ∧ all.length ≤ log.size := by
  rw [B_of log] at hl ⊢
  generalize log.data.toList = l at hl ⊢
  rw [B_size] at hl ⊢
  obtain ⟨L, hL⟩ := recs_ex l _ 0 (Nat.le_refl _)
  obtain ⟨J, K, hJ⟩ := recs_p hl hL (by omega)
  obtain ⟨K2, hK2⟩ := recs_r hl hL [] (by omega) (by simp)
  refine ⟨K, K2, J, asB L, hJ K (Nat.le_refl _), ?_, ?_⟩
  · have := hK2 K2 (Nat.le_refl _)
    rw [List.nil_append] at this
    exact this
  · have := recs_len hL (by omega)
    simp [asB]
    omega
end Go.Proofs.YteilnbnnhocciaaDoor.P

/-! R8 -/
set_option linter.unusedVariables false
namespace Go.Proofs.YteilnbnnhocciaaDoor.R8
open Go.ChangeShapes Go.WideShapes Go.ChangeAt Go.RowKit Go.Lib Go.Shelf
open Go.ChangeMaps (open_string shut_string)
open Go.Proofs.YteilnbnnhocciaaDoor.KF Go.Proofs.YteilnbnnhocciaaDoor.P
theorem own : ownKnob Tryd.prog.godebug = none := by kernel_rfl
def cell1 : DataW Unit → Value
  | .lit (.int k n) => Value.int k n
  | _ => Value.bool false
def cellsA : DataW Unit → Array Value
  | .agg l => (l.map cell1).toArray
  | _ => #[]
def cellsB : DataW Unit → Array Value
  | .agg l => (l.flatMap fun
    | .agg m => m.map cell1
    | _ => []).toArray
  | _ => #[]
noncomputable def laidWorld (os : Os) : World :=
  let w0 := World.holding Tryd.prog os ⟨#[], #[], []⟩
  let put (h : Array Obj) (g : Nat) (cs : Array Value) : Array Obj := h.modify g fun
    | .cells _ t frozen => .cells cs t frozen
    | o => o
  { w0 with heap := put (put w0.heap 6 (cellsA Rows.laid_unicode_utf8_first)) 7 (cellsB Rows.laid_unicode_utf8_acceptRanges) }
theorem laid_met (os : Os) (args : Array Value) : laidMet Tryd.prog Rows.frameLaysRow.laid ((laidWorld os).forCall (fun _ _ => 0) ⟨#[], args, []⟩).memory :=
  (LaidIn.of_run [6, 7] 8 (by kernel_rfl) (by kernel_rfl) (by kernel_rfl) (by kernel_rfl)).met
set_option maxRecDepth 100000 in
theorem lifted (os : Os) (started : os.Started) (H : Type) (enc : TypeId × Value → H) :
    ReturnsInHanded {} Tryd.checked os 8 .any (fun w args => (Rows.frameLaysSpec.pre enc Tryd.prog Tryd.f8 [] false w args ∧ laidMet Tryd.prog Rows.frameLaysRow.laid w) ∧ sizedMet enc Tryd.prog Tryd.f8 (OpenSpec.ofChange Rows.frameLaysSpec) false w args)
      (Rows.frameLaysSpec.post enc Tryd.prog Tryd.f8 false true false false) := by
  refine returnsInHanded_of_change_and (C := Tryd.checked) (X := fun w _ => laidMet Tryd.prog Rows.frameLaysRow.laid w) (fun _ _ _ hh h => h.of_heap hh) own started (by kernel_rfl) Tryd.func8
    (ChangeSpec.witness_at (enc := enc) (C := Tryd.checked) (os := os) (X := fun w _ => laidMet Tryd.prog Rows.frameLaysRow.laid w) false (laidWorld os)
      #[.int .i64 0, .string ByteArray.empty] 8
      rfl (by kernel_rfl) (by kernel_rfl) (by kernel_rfl) (by kernel_rfl) (by kernel_rfl) (laid_met os _)) ?_
  intro W base args ds gs before hval0 hW hcnd hsz0 hX _
  have hval : ∀ (j : Nat) t v, Tryd.f8.params[j]? = some t → args[j]? = some v → Value.okWide Tryd.prog W .any base t v := hval0
  have hW' := hW
  obtain ⟨p, q, hA0, hV, rfl, hfz, hnd⟩ := hW
  have hA : DataW.TrodAll enc Tryd.prog W 0 (fun _ => true) true Tryd.f8.params.toList args.toList ds p := hA0
  rw [Tryd.params8] at hA hval
  obtain ⟨v0, v1, d0, d1, p0, p1, rfl, rfl, rfl, h0, h1⟩ := trodAll_two hA
  obtain ⟨rfl, rfl⟩ := trodVars_none hV
  obtain ⟨n, rfl, rfl, rfl, hn⟩ := open_int Tryd.underlying3 (hval 0 3 v0 rfl rfl) h0
  obtain ⟨s, rfl, rfl, rfl, hs⟩ := open_string Tryd.underlying9 (hval 1 9 v1 rfl rfl) h1
  clear hA0 hval0 hsz0
  obtain ⟨k, hr⟩ := lays_law n s
  refine (bourselaw05_FrameLays.calls k n s true W hr).mono ?_
  rintro r W' ⟨rfl, bel⟩
  exact ⟨_, rfl, _, _, _, [], _, [], hW', trodAll_mk1 (shut_bool Tryd.underlying4 _), (trodAll_cons_mk (shut_int Tryd.underlying3 hn) (trodAll_cons_mk (shut_string Tryd.underlying9 hs) trodAll_mk0)), rfl, bel.frame _, fun h => by cases h⟩
theorem over : Rows.frameLaysRow.holds Tryd.pinned (OpenSpec.ofChange Rows.frameLaysSpec) :=
  OpenClaim.holds_of_wide 8 Tryd.f8 rfl rfl rfl rfl rfl rfl rfl ⟨rfl, rfl, rfl, rfl, rfl⟩ rfl rfl rfl rfl rfl (by kernel_rfl) Tryd.func8 (by kernel_rfl) (of_decide_eq_true (by kernel_rfl))
    (by unfold Func.isWrapper; first | (rw [if_pos (by decide +kernel)]; kernel_rfl) | (rw [if_neg (by decide +kernel)]; exact ⟨rfl, rfl⟩))
    (fun os started H enc _ => lifted os started H enc)
end Go.Proofs.YteilnbnnhocciaaDoor.R8
namespace Go.Proofs.YteilnbnnhocciaaDoor
end Go.Proofs.YteilnbnnhocciaaDoor

/-! R5 -/
set_option linter.unusedVariables false
namespace Go.Proofs.YteilnbnnhocciaaDoor.R5
open Go.ChangeShapes Go.WideShapes Go.ChangeAt Go.RowKit Go.Lib Go.Shelf
open Go.ChangeMaps (open_string shut_string)
open Go.Proofs.YteilnbnnhocciaaDoor.KF Go.Proofs.YteilnbnnhocciaaDoor.P Go.Proofs.YteilnbnnhocciaaDoor.R8
set_option maxRecDepth 100000 in
theorem lifted (os : Os) (started : os.Started) (H : Type) (enc : TypeId × Value → H) :
    ReturnsInHanded {} Tryd.checked os 5 .any (fun w args => (Rows.frameReadsSpec.pre enc Tryd.prog Tryd.f5 [] false w args ∧ laidMet Tryd.prog Rows.frameReadsRow.laid w) ∧ sizedMet enc Tryd.prog Tryd.f5 (OpenSpec.ofChange Rows.frameReadsSpec) false w args)
      (Rows.frameReadsSpec.post enc Tryd.prog Tryd.f5 false true false false) := by
  refine returnsInHanded_of_change_and (C := Tryd.checked) (X := fun w _ => laidMet Tryd.prog Rows.frameReadsRow.laid w) (fun _ _ _ hh h => h.of_heap hh) own started (by kernel_rfl) Tryd.func5
    (ChangeSpec.witness_at (enc := enc) (C := Tryd.checked) (os := os) (X := fun w _ => laidMet Tryd.prog Rows.frameReadsRow.laid w) false (laidWorld os)
      #[.string ByteArray.empty, .int .u8 0] 8
      rfl (by kernel_rfl) (by kernel_rfl) (by kernel_rfl) (by kernel_rfl) (by kernel_rfl) (laid_met os _)) ?_
  intro W base args ds gs before hval0 hW hcnd hsz0 hX _
  have hval : ∀ (j : Nat) t v, Tryd.f5.params[j]? = some t → args[j]? = some v → Value.okWide Tryd.prog W .any base t v := hval0
  have hW' := hW
  obtain ⟨p, q, hA0, hV, rfl, hfz, hnd⟩ := hW
  have hA : DataW.TrodAll enc Tryd.prog W 0 (fun _ => true) true Tryd.f5.params.toList args.toList ds p := hA0
  rw [Tryd.params5] at hA hval
  obtain ⟨v0, v1, d0, d1, p0, p1, rfl, rfl, rfl, h0, h1⟩ := trodAll_two hA
  obtain ⟨rfl, rfl⟩ := trodVars_none hV
  obtain ⟨s, rfl, rfl, rfl, hs⟩ := open_string Tryd.underlying9 (hval 0 9 v0 rfl rfl) h0
  obtain ⟨n, rfl, rfl, rfl, hn⟩ := open_int Tryd.underlying5 (hval 1 5 v1 rfl rfl) h1
  clear hA0 hval0 hsz0
  obtain ⟨m, rfl⟩ : ∃ m : Nat, n = (m : Int) := ⟨n.toNat, by have hn2 := hn; simp [Lit.wf, IntKind.min, IntKind.max, IntKind.signed, IntKind.bits] at hn2; omega⟩
  have hcall : Calls Tryd.prog 5 #[.string s, .int .u8 (m : Nat)] W fun e w' => e = .returned (.bool true) ∧ Below W.heap.size W w' := by
    by_cases hl : 4000 < s.size
    · exact frameReads_long s m W hl
    · obtain ⟨k, k2, j, all, hr, hq, hle⟩ := reads_law s (by omega)
      exact frameReads_walk k k2 j s m all W (by omega) hr hq (by omega)
  refine hcall.mono ?_
  rintro r W' ⟨rfl, bel⟩
  exact ⟨_, rfl, _, _, _, [], _, [], hW', trodAll_mk1 (shut_bool Tryd.underlying4 _), (trodAll_cons_mk (shut_string Tryd.underlying9 hs) (trodAll_cons_mk (shut_int Tryd.underlying5 hn) trodAll_mk0)), rfl, bel.frame _, fun h => by cases h⟩
theorem over : Rows.frameReadsRow.holds Tryd.pinned (OpenSpec.ofChange Rows.frameReadsSpec) :=
  OpenClaim.holds_of_wide 5 Tryd.f5 rfl rfl rfl rfl rfl rfl rfl ⟨rfl, rfl, rfl, rfl, rfl⟩ rfl rfl rfl rfl rfl (by kernel_rfl) Tryd.func5 (by kernel_rfl) (of_decide_eq_true (by kernel_rfl))
    (by unfold Func.isWrapper; first | (rw [if_pos (by decide +kernel)]; kernel_rfl) | (rw [if_neg (by decide +kernel)]; exact ⟨rfl, rfl⟩))
    (fun os started H enc _ => lifted os started H enc)
end Go.Proofs.YteilnbnnhocciaaDoor.R5
namespace Go.Proofs.YteilnbnnhocciaaDoor
theorem frameReads_holds : Rows.FrameReadsSaid := R5.over
end Go.Proofs.YteilnbnnhocciaaDoor

/-! C5 -/
namespace Go.Proofs.YteilnbnnhocciaaDoor
open Go
theorem frameReadsCard_holds : Rows.FrameReadsCardSaid :=
  Claim7.holds_tied_plain_at .later [] [.data, .pinned] true (true, "bc9cca30e6bcb58c3d7b40caaba0da34bdf01bc2fab1082ae4b270bbcf37ee66") true
    frameReads_holds (fun _ h => by cases h) (by kernel_rfl) (fun _ h => by cases h) frameReads_row_tie rfl ⟨rfl, rfl⟩ (by kernel_rfl) rfl
    (fun f fn hf hfn => by
      obtain rfl : f = 5 := Option.some.inj ((show Tryd.prog.funcNamed "bourse/bourselaw05.FrameReads" = some 5 by kernel_rfl).symm.trans hf) |>.symm
      obtain rfl : fn = Tryd.f5 := (Option.some.inj (Tryd.func5.symm.trans hfn)).symm
      exact ⟨by kernel_rfl, fun j t ht => by
        rw [Tryd.params5] at ht
        have h3 : t = 9 ∨ t = 5 := by
          rcases j with _ | _ | j
          · exact .inl (by simpa using ht.symm)
          · exact .inr (by simpa using ht.symm)
          · simp at ht
        rcases h3 with rfl | rfl
        · exact (show Tryd.prog.wantsStandIn 9 = false by kernel_rfl)
        · exact (show Tryd.prog.wantsStandIn 5 = false by kernel_rfl)⟩)
    (by kernel_rfl)
end Go.Proofs.YteilnbnnhocciaaDoor
