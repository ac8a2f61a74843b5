/- FrameTurns answers true for every row of texts, every place and every turn handed in: behind a byte of the last record's turned, that isn't one of its lengths, all records ahead of it are told, and it isn't; no condition beyond the card's own. (part 5 of 5; packed by program out of the texts named below) -/
import Derived.Test.YteilnbnnhocciaaDoorXF4
import Derived.Lib.ConvBytes
import Derived.ChangeArms
import Derived.DataReads
import Derived.Deep.Slices
import Derived.WideShapes
import Derived.Test.YteilnbnnhocciaaDoorRows
import Derived.Lib.LaidIn
import Derived.ChangeSame
import Derived.ChangeVars
import Derived.JoinedOf
import Derived.RowKit
import Derived.WalkKit
import Derived.ProofKit
import Derived.OpenShut
import Derived.ShutString
import Derived.ChangeOld
import Derived.Below
import Derived.SizedLaws
import Derived.Test.YteilnbnnhocciaaDoorTie
import Derived.Test.YteilnbnnhocciaaDoorCards
import Derived.SevenTiedAt

/-! KF23 -/
namespace Go.Proofs.YteilnbnnhocciaaDoor.KF
open Go.RowKit Go.Proofs.YteilnbnnhocciaaDoorW.PrintWords Go.Proofs.YteilnbnnhocciaaDoorW.PrintLast Go.Proofs.YteilnbnnhocciaaDoorW.PrintMore Go.Proofs.YteilnbnnhocciaaDoorM
attribute [local go_sem] max2_int min2_int max_two min_two max_three min_three max_four min_four
set_option linter.unusedVariables false
set_option linter.unusedSimpArgs false
def frame_Len.l0 : Nat → Int → Int → Int → Option (Int)
  | 0, _, _, _ => none
  | k + 1, x0, x1, x5 => (frame_pad.f x0).bind fun t137 => ((frame_left.f (wrap64 (x0 + t137))).bind fun t138 => (if (wrap64 (x1 - (mn (wrap64 (t138 - 7)) x1))) = 0 then (some (wrap64 ((wrap64 ((wrap64 (x0 + t137)) + (wrap64 (7 + (mn (wrap64 (t138 - 7)) x1))))) - x5))) else (frame_Len.l0 k (wrap64 ((wrap64 (x0 + t137)) + (wrap64 (7 + (mn (wrap64 (t138 - 7)) x1))))) (wrap64 (x1 - (mn (wrap64 (t138 - 7)) x1))) x5)))
def frame_Len.f (k : Nat) (a0 : Int) (a1 : Int) : Option (Int) := frame_Len.l0 k (mx a0 0) (mx a1 0) (mx a0 0)
set_option maxHeartbeats 8000000 in
set_option maxRecDepth 100000 in
theorem frame_Len.calls (k : Nat) (a0 : Int) (a1 : Int) (r : Int) (w : World) (h : frame_Len.f k a0 a1 = some r) :
    Calls Tryd.prog 32 #[.int .i64 a0, .int .i64 a1] w fun e w' => e = .returned (.int .i64 r) ∧ Below w.heap.size w w' := by
  have HB := Aside0.mk (Below.refl w.heap.size w)
  have H : (frame_Len.l0 k (mx a0 0) (mx a1 0) (mx a0 0)) = some r := h
  clear h
  obtain ⟨ji3, hji3⟩ : ∃ j_ : Int, (mx a0 0) = j_ := ⟨_, rfl⟩
  replace H : (frame_Len.l0 k ji3 (mx a1 0) ji3) = some r := by first | (rw [hji3] at H; exact H) | (simp only [hji3] at H ⊢; exact H)
  (try (have hji3l : 0 ≤ ji3 := by (rw [← hji3]; unfold mx; (repeat' split) <;> omega)))
  (try (have hji3m : 0 ≤ ji3 := by omega))
  have hji3_ : (if a0 < 0 then 0 else a0) = ji3 := hji3
  obtain ⟨ji4, hji4⟩ : ∃ j_ : Int, (mx a1 0) = j_ := ⟨_, rfl⟩
  replace H : (frame_Len.l0 k ji3 ji4 ji3) = some r := by first | (rw [hji4] at H; exact H) | (simp only [hji4] at H ⊢; exact H)
  (try (have hji4l : 0 ≤ ji4 := by (rw [← hji4]; unfold mx; (repeat' split) <;> omega)))
  (try (have hji4m : 0 ≤ ji4 := by omega))
  have hji4_ : (if a1 < 0 then 0 else a1) = ji4 := hji4
  have H' := Aside0.mk H
  clear H
  go_enter Tryd.func32, Tryd.ntmps32
  go_wp2
  go_loopg [0, 1] k (fun kq v0 v1 w' => ∃ (x0_1 : Int) (x1_1 : Int), v0 = .int .i64 x0_1 ∧ v1 = .int .i64 x1_1 ∧ Aside0 (frame_Len.l0 kq x0_1 x1_1 ji3 = some r) ∧ Aside0 (kq ≤ k) ∧ Aside0 (Below w.heap.size w w'))
  case atStart => exact ⟨(ji3), (ji4), (by first | rfl | (simp; done) | (simp only [← hji3] <;> (first | rfl | simp)) | (simp [*]; done)), (by first | rfl | (simp; done) | (simp only [← hji4] <;> (first | rfl | simp)) | (simp [*]; done)), (by first | exact H' | (rw [hji4]; exact H')), ⟨Nat.le_refl _⟩, ⟨by repeat (first | (with_reducible first | exact HB.out | apply below_alloc | apply pw_below_drewN | apply below_drew1) | exact HB.out)⟩⟩
  case round =>
    clear H'
    try clear p2
    try clear c3
    obtain ⟨x0_1, x1_1, rfl, rfl, HA, HK1, HB⟩ := hrel
    cases gk with
    | zero => exact absurd HA.out (by simp [frame_Len.l0])
    | succ k1 =>
      have H := HA.out
      clear HA
      simp only [frame_Len.l0] at H
      replace H := Option.bind_eq_some_iff.mp H
      obtain ⟨t137, A50, H⟩ := H
      replace H : ((frame_left.f (wrap64 (x0_1 + t137))).bind fun t138 => (if (wrap64 (x1_1 - (mn (wrap64 (t138 - 7)) x1_1))) = 0 then (some (wrap64 ((wrap64 ((wrap64 (x0_1 + t137)) + (wrap64 (7 + (mn (wrap64 (t138 - 7)) x1_1))))) - ji3))) else (frame_Len.l0 k1 (wrap64 ((wrap64 (x0_1 + t137)) + (wrap64 (7 + (mn (wrap64 (t138 - 7)) x1_1))))) (wrap64 (x1_1 - (mn (wrap64 (t138 - 7)) x1_1))) ji3))) = some r := H
      have A5 := Aside0.mk A50
      clear A50
      replace H := Option.bind_eq_some_iff.mp H
      obtain ⟨t138, A60, H⟩ := H
      replace H : (if (wrap64 (x1_1 - (mn (wrap64 (t138 - 7)) x1_1))) = 0 then (some (wrap64 ((wrap64 ((wrap64 (x0_1 + t137)) + (wrap64 (7 + (mn (wrap64 (t138 - 7)) x1_1))))) - ji3))) else (frame_Len.l0 k1 (wrap64 ((wrap64 (x0_1 + t137)) + (wrap64 (7 + (mn (wrap64 (t138 - 7)) x1_1))))) (wrap64 (x1_1 - (mn (wrap64 (t138 - 7)) x1_1))) ji3)) = some r := H
      have A6 := Aside0.mk A60
      clear A60
      obtain ⟨ji7, hji7⟩ : ∃ j_ : Int, (mn (wrap64 (t138 - 7)) x1_1) = j_ := ⟨_, rfl⟩
      replace H : (if (wrap64 (x1_1 - (ji7))) = 0 then (some (wrap64 ((wrap64 ((wrap64 (x0_1 + t137)) + (wrap64 (7 + (ji7))))) - ji3))) else (frame_Len.l0 k1 (wrap64 ((wrap64 (x0_1 + t137)) + (wrap64 (7 + (ji7))))) (wrap64 (x1_1 - (ji7))) ji3)) = some r := by first | (rw [hji7] at H; exact H) | (simp only [hji7] at H ⊢; exact H)
      (try rw [hji7] at A5)
      (try rw [hji7] at A6)
      have hji7_ : (if x1_1 < (wrap64 (t138 - 7)) then x1_1 else (wrap64 (t138 - 7))) = ji7 := hji7
      by_cases c8 : (wrap64 (x1_1 - (ji7))) = 0
      · rw [if_pos c8] at H
        have c8b0 : ((wrap64 (x1_1 - (ji7))) == 0) = true := beq_iff_eq.mpr c8
        have c8b1 : ((wrap64 (x1_1 - (ji7))) != 0) = false := bne_eq_false_iff_eq.mpr c8
        clear c8
        obtain rfl := Option.some.inj H
        go_wp2_with (first | ((with_reducible refine gate_callee (f := 77) rfl ?_); refine goesL_ (some 14) rfl rfl Tryd.func77 (by kernel_rfl) rfl #[.int .i64 x0_1] rfl (by (try simp only [List.map_toArray, List.map_cons, List.map_nil]); first | done | rfl | (simp only [List.length_drop, List.length_take]; rfl)) ?_; (with_reducible refine (frame_pad.calls x0_1 t137 _ A5.out).mono ?_); rintro e w' ⟨rfl, ⟨nd, rfl⟩⟩; refine ⟨_, rfl, ?_⟩) | ((with_reducible refine gate_callee (f := 80) rfl ?_); refine goesL_ (some 17) rfl rfl Tryd.func80 (by kernel_rfl) rfl #[.int .i64 (wrap64 (x0_1 + t137))] rfl (by (try simp only [List.map_toArray, List.map_cons, List.map_nil]); first | done | rfl | (simp only [List.length_drop, List.length_take]; rfl)) ?_; (with_reducible refine (frame_left.calls (wrap64 (x0_1 + t137)) t138 _ A6.out).mono ?_); rintro e w' ⟨rfl, ⟨nd, rfl⟩⟩; refine ⟨_, rfl, ?_⟩))
        go_ret
        exact ⟨by first | rfl | (simp [errW_none, errW_some] <;> rfl) | (simp only [← hji3, ← hji4, ← hji7]; first | rfl | (simp [errW_none, errW_some] <;> rfl)) | (simp [*, errW_none, errW_some] <;> rfl), by repeat (first | (with_reducible first | exact HB.out | apply below_alloc | apply pw_below_drewN | apply below_drew1) | exact HB.out)⟩
      · rw [if_neg c8] at H
        have c8b0 : ((wrap64 (x1_1 - (ji7))) == 0) = false := beq_eq_false_iff_ne.mpr c8
        have c8b1 : ((wrap64 (x1_1 - (ji7))) != 0) = true := bne_iff_ne.mpr c8
        have H' := Aside0.mk H
        clear H
        go_wp2_with (first | ((with_reducible refine gate_callee (f := 77) rfl ?_); refine goesL_ (some 14) rfl rfl Tryd.func77 (by kernel_rfl) rfl #[.int .i64 x0_1] rfl (by (try simp only [List.map_toArray, List.map_cons, List.map_nil]); first | done | rfl | (simp only [List.length_drop, List.length_take]; rfl)) ?_; (with_reducible refine (frame_pad.calls x0_1 t137 _ A5.out).mono ?_); rintro e w' ⟨rfl, ⟨nd, rfl⟩⟩; refine ⟨_, rfl, ?_⟩) | ((with_reducible refine gate_callee (f := 80) rfl ?_); refine goesL_ (some 17) rfl rfl Tryd.func80 (by kernel_rfl) rfl #[.int .i64 (wrap64 (x0_1 + t137))] rfl (by (try simp only [List.map_toArray, List.map_cons, List.map_nil]); first | done | rfl | (simp only [List.length_drop, List.length_take]; rfl)) ?_; (with_reducible refine (frame_left.calls (wrap64 (x0_1 + t137)) t138 _ A6.out).mono ?_); rintro e w' ⟨rfl, ⟨nd, rfl⟩⟩; refine ⟨_, rfl, ?_⟩))
        go_roundg k1
        case measure => have := HK1.out; omega
        case rel => exact ⟨(wrap64 ((wrap64 (x0_1 + t137)) + (wrap64 (7 + (ji7))))), (wrap64 (x1_1 - (ji7))), (by first | rfl | (simp; done) | (simp only [← hji7] <;> (first | rfl | simp)) | (simp [*]; done)), (by first | rfl | (simp; done) | (simp only [← hji7] <;> (first | rfl | simp)) | (simp [*]; done)), (by first | exact H' | (rw [hji7]; exact H')), ⟨by have := HK1.out; omega⟩, ⟨by repeat (first | (with_reducible first | exact HB.out | apply below_alloc | apply pw_below_drewN | apply below_drew1) | exact HB.out)⟩⟩
end Go.Proofs.YteilnbnnhocciaaDoor.KF

/-! KG2 -/
namespace Go.Proofs.YteilnbnnhocciaaDoor.KF
open Go.RowKit Go.Proofs.YteilnbnnhocciaaDoorW.PrintWords Go.Proofs.YteilnbnnhocciaaDoorW.PrintLast Go.Proofs.YteilnbnnhocciaaDoorW.PrintMore Go.Proofs.YteilnbnnhocciaaDoorM
set_option linter.unusedVariables false
set_option linter.unusedSimpArgs false
def hiS : ByteArray := ⟨#[104, 105]⟩
theorem awake_lay : frame_Lay.f 3 0 hiS = some ⟨#[139, 110, 172, 224, 2, 0, 1, 104, 105]⟩ := by decide +kernel
theorem awake_recs : recs 5 ⟨#[139, 110, 172, 224, 2, 0, 1, 104, 105]⟩ 5 0 = some [(hiS, 9)] := by decide +kernel
set_option maxHeartbeats 2000000 in
set_option maxRecDepth 100000 in
theorem bourselaw05_awake.calls (w : World) : Calls Tryd.prog 24 #[] w fun e w' => e = .returned (.bool true) ∧ Below w.heap.size w w' := by
  have H1 := Hush.mk awake_lay
  have H2 := Hush.mk awake_recs
  go_enter Tryd.func24, Tryd.ntmps24
  go_wp2_with fail
  refine (frame_Lay.calls 3 _ _ _ _ H1.out).mono ?_
  rintro e w1 ⟨rfl, hb1⟩
  have he : ((⟨#[139, 110, 172, 224, 2, 0, 1, 104, 105]⟩ : ByteArray).extract 4 9).toList = [2, 0, 1, 104, 105] := by decide +kernel
  go_wp2_with fail
  refine (frame_Whole.calls 5 5 _ _ _ H2.out).mono ?_
  rintro e w2 ⟨rfl, hb2⟩
  go_wp2
  go_ret
  exact ⟨rfl, hb1.trans (hb2.mono hb1.size)⟩
def bourselaw05_FrameLays.f (k : Nat) (a0 : Int) (a1 : ByteArray) : Option Bool :=
  if (a1.size : Int) > 3000 then some true else if a0 > 1073741824 then some true else
  (frame_Lay.f k a0 a1).bind fun x => (bourseref05_Lay.f k a0 a1).bind fun y =>
    if x.toList = y.toList then (frame_Len.f k a0 (a1.size : Int)).bind fun n => some (n == (y.size : Int)) else some false
set_option maxHeartbeats 2000000 in
set_option maxRecDepth 100000 in
theorem bourselaw05_FrameLays.calls (k : Nat) (a0 : Int) (a1 : ByteArray) (r : Bool) (w : World) (h : bourselaw05_FrameLays.f k a0 a1 = some r) :
    Calls Tryd.prog 8 #[.int .i64 a0, .string a1] w fun e w' => e = .returned (.bool r) ∧ Below w.heap.size w w' := by
  unfold bourselaw05_FrameLays.f at h
  by_cases c1 : (a1.size : Int) > 3000
  · rw [if_pos c1] at h
    obtain rfl := Option.some.inj h
    have c1' := decide_eq_true c1
    go_enter Tryd.func8, Tryd.ntmps8
    go_wp2_with fail
    refine (bourselaw05_awake.calls _).mono ?_
    rintro e w1 ⟨rfl, hb1⟩
    go_wp2_with fail
    go_ret
    exact ⟨rfl, hb1⟩
  rw [if_neg c1] at h
  by_cases c2 : a0 > 1073741824
  · rw [if_pos c2] at h
    obtain rfl := Option.some.inj h
    have c1' := decide_eq_false c1
    have c2' := decide_eq_true c2
    go_enter Tryd.func8, Tryd.ntmps8
    go_wp2_with fail
    refine (bourselaw05_awake.calls _).mono ?_
    rintro e w1 ⟨rfl, hb1⟩
    go_wp2_with fail
    go_ret
    exact ⟨rfl, hb1⟩
  rw [if_neg c2] at h
  obtain ⟨x, hx, h⟩ := Option.bind_eq_some_iff.mp h
  obtain ⟨y, hy, h⟩ := Option.bind_eq_some_iff.mp h
  have H1 := Hush.mk hx
  have H2 := Hush.mk hy
  clear hx hy
  have c1' := decide_eq_false c1
  have c2' := decide_eq_false c2
  by_cases c3 : x.toList = y.toList
  · rw [if_pos c3] at h
    obtain ⟨n, hn, h⟩ := Option.bind_eq_some_iff.mp h
    obtain rfl := Option.some.inj h
    have H3 := Hush.mk hn
    clear hn h
    go_enter Tryd.func8, Tryd.ntmps8
    go_wp2_with fail
    refine (bourselaw05_awake.calls _).mono ?_
    rintro e w1 ⟨rfl, hb1⟩
    go_wp2_with fail
    refine (frame_Lay.calls k _ _ _ _ H1.out).mono ?_
    rintro e w2 ⟨rfl, hb2⟩
    go_wp2_with fail
    refine (bourseref05_Lay.calls k _ _ _ _ H2.out).mono ?_
    rintro e w3 ⟨rfl, hb3⟩
    have c4 : (x.toList == y.toList) = true := by simpa using c3
    go_wp2_with fail
    refine (frame_Len.calls k _ _ _ _ H3.out).mono ?_
    rintro e w4 ⟨rfl, hb4⟩
    go_wp2_with fail
    refine (bourseref05_Lay.calls k _ _ _ _ H2.out).mono ?_
    rintro e w5 ⟨rfl, hb5⟩
    go_wp2
    go_ret
    have h3 := hb1.trans (hb2.mono hb1.size)
    have h4 := h3.trans (hb3.mono h3.size)
    have h5 := h4.trans (hb4.mono h4.size)
    exact ⟨rfl, h5.trans (hb5.mono h5.size)⟩
  · rw [if_neg c3] at h
    obtain rfl := Option.some.inj h
    clear h
    go_enter Tryd.func8, Tryd.ntmps8
    go_wp2_with fail
    refine (bourselaw05_awake.calls _).mono ?_
    rintro e w1 ⟨rfl, hb1⟩
    go_wp2_with fail
    refine (frame_Lay.calls k _ _ _ _ H1.out).mono ?_
    rintro e w2 ⟨rfl, hb2⟩
    go_wp2_with fail
    refine (bourseref05_Lay.calls k _ _ _ _ H2.out).mono ?_
    rintro e w3 ⟨rfl, hb3⟩
    have c4 : (x.toList == y.toList) = false := by simpa using c3
    go_wp2
    go_ret
    have h3 := hb1.trans (hb2.mono hb1.size)
    exact ⟨rfl, h3.trans (hb3.mono h3.size)⟩
end Go.Proofs.YteilnbnnhocciaaDoor.KF

/-! KP1 -/
set_option linter.unusedVariables false
namespace Go.Proofs.YteilnbnnhocciaaDoor.P
open Go.RowKit Go.Proofs.YteilnbnnhocciaaDoorW.PrintWords Go.Proofs.YteilnbnnhocciaaDoorW.PrintLast Go.Proofs.YteilnbnnhocciaaDoorW.PrintMore Go.Proofs.YteilnbnnhocciaaDoorM Go.Proofs.YteilnbnnhocciaaDoor.KF
def B (l : List UInt8) : ByteArray := ⟨l.toArray⟩
theorem B_app (l m : List UInt8) : B l ++ B m = B (l ++ m) := ByteArray.mk_append_mk l m
theorem B_size (l : List UInt8) : (B l).size = l.length := by simp [B, ByteArray.size]
theorem B_data (l : List UInt8) : (B l).data.toList = l := rfl
theorem list_ext {s t : ByteArray} (h : s.data.toList = t.data.toList) : s = t := by
  cases s with | mk a => cases t with | mk b => congr 1; exact Array.toList_inj.1 h
theorem B_of (s : ByteArray) : s = B s.data.toList := list_ext rfl
theorem B_ext (l : List UInt8) (i j : Nat) (h : j ≤ l.length) : (B l).extract i j = B ((l.take j).drop i) := by
  apply list_ext
  rw [ByteArray.data_extract, Array.toList_extract, B_data, B_data]
  simp only [List.extract, List.drop_take]
theorem tl (s : ByteArray) : s.toList = s.data.toList := by rw [ByteArray.toList_eq]
theorem wrap_in {n : Int} (h1 : -9223372036854775808 ≤ n) (h2 : n ≤ 9223372036854775807) : wrap64 n = n := IntWalk.wrap64_in n ⟨by omega, by omega⟩
theorem toNat_of {n : Nat} (h : n < 256) : (UInt8.ofNat n).toNat = n := by simp [UInt8.toNat_ofNat']; omega
theorem ofNat_mod (n : Nat) : UInt8.ofNat (n % 256) = UInt8.ofNat n := by
  apply UInt8.toNat_inj.1
  simp [UInt8.toNat_ofNat']
theorem ofNat_toNat (c : UInt8) : UInt8.ofNat c.toNat = c := by simp
def crcL (l : List UInt8) : Nat := 4294967295 - crc_go 4294967295 l
def maskN (n : Nat) : Nat := ((n / 32768 ||| (n * 131072) % 4294967296) + 2726488792) % 4294967296
def le : Nat → Nat → List UInt8
  | 0, _ => []
  | m + 1, n => UInt8.ofNat n :: le m (n / 256)
theorem le_len (m n : Nat) : (le m n).length = m := by
  induction m generalizing n with
  | zero => rfl
  | succ m ih => simp [le, ih]
def sumL (kd : Nat) (s : List UInt8) : List UInt8 := le 4 (maskN (crcL (UInt8.ofNat kd :: s)))
def pieceL (kd : Nat) (s : List UInt8) : List UInt8 := sumL kd s ++ (le 2 s.length ++ (UInt8.ofNat kd :: s))
theorem sumL_len (kd : Nat) (s : List UInt8) : (sumL kd s).length = 4 := le_len _ _
theorem pieceL_len (kd : Nat) (s : List UInt8) : (pieceL kd s).length = 7 + s.length := by simp [pieceL, sumL_len, le_len]; omega
theorem maskN_lt (n : Nat) : maskN n < 4294967296 := Nat.mod_lt _ (by decide)
theorem crcL_lt (l : List UInt8) : crcL l < 4294967296 := by unfold crcL; omega
theorem one_B (kd : Nat) : strOfNums [(kd : Int)] = B [UInt8.ofNat kd] := list_ext (by rw [strOfNums_data]; simp [B])
theorem mask_f (n : Nat) (h : n < 4294967296) : crc_Mask.f (n : Int) = some (maskN n : Int) := by
  unfold crc_Mask.f
  have e1 : (n : Int) / 32768 = ((n / 32768 : Nat) : Int) := by omega
  have e2 : (n : Int) * 131072 % 4294967296 = ((n * 131072 % 4294967296 : Nat) : Int) := by omega
  rw [e1, e2, u32_or_nat _ _ (by omega) (by omega)]
  unfold maskN
  congr 1
theorem sum_f (kd : Nat) (hk : kd < 256) (s : List UInt8) (hs : s.length ≤ 1000000000) : frame_sum.f (kd : Int) (B s) = some (maskN (crcL (UInt8.ofNat kd :: s)) : Int) := by
  unfold frame_sum.f
  simp only [Option.bind_some]
  rw [one_B, B_app, B_size, B_size, if_pos (by simp; omega)]
  unfold crc_Of.f crc_Add.f
  rw [if_pos ⟨by omega, by omega, by rw [B_size]; simp; omega⟩]
  simp only [Option.bind_some]
  exact congrArg (fun x => Option.bind x fun t => some t) (mask_f _ (crcL_lt _))
theorem u64w (n : Nat) (h : n < 18446744073709551616) : IntKind.u64.wrap (n : Int) = (n : Int) := by show (n : Int) % 18446744073709551616 = _; omega
theorem fixed_f (n : Nat) (h : n < 4294967296) : varint_Fixed.f 9 (n : Int) = some (B (le 4 n)) := by
  unfold varint_Fixed.f varint_little.f
  have e0 : IntKind.u64.wrap (n : Int) = (n : Int) := u64w n (by omega)
  rw [e0]
  simp [varint_little.l0, wrap64, shr, IntKind.bits]
  apply list_ext
  rw [strOfNums_data, B_data]
  simp [le]
  refine ⟨?_, ?_, ?_, ?_⟩ <;> (apply UInt8.toNat_inj.1; simp [UInt8.toNat_ofNat']; omega)
theorem le2_ofNat (n : Nat) : le 2 n = [UInt8.ofNat n, UInt8.ofNat (n / 256)] := rfl
theorem piece_f (kd : Nat) (hk : kd < 256) (s : List UInt8) (hs : s.length ≤ 65535) : frame_piece.f 9 (kd : Int) (B s) = some (B (pieceL kd s)) := by
  unfold frame_piece.f
  rw [sum_f kd hk s (by omega)]
  simp only [Option.bind_some]
  rw [fixed_f _ (maskN_lt _)]
  simp only [Option.bind_some]
  have e : strOfNums [((B s).size : Int) % 256, ((B s).size : Int) / 256 % 256, (kd : Int)] = B (le 2 s.length ++ [UInt8.ofNat kd]) := by
    apply list_ext
    rw [strOfNums_data, B_data, B_size, le2_ofNat]
    simp
    refine ⟨?_, ?_⟩ <;> (apply UInt8.toNat_inj.1; simp [UInt8.toNat_ofNat']; omega)
  rw [e, B_app, B_app, B_size, B_size, B_size, B_size]
  rw [if_pos (by simp [le_len]), if_pos (by simp [le_len]; omega)]
  refine congrArg some (congrArg B ?_)
  simp [pieceL, sumL]
def kindN (bg en : Bool) : Nat := if bg then (if en then 1 else 2) else if en then 4 else 3
theorem kind_f (bg en : Bool) : frame_kind.f 5 bg en = some (kindN bg en : Int) := by cases bg <;> cases en <;> rfl
theorem kindN_lt (bg en : Bool) : kindN bg en < 256 := by cases bg <;> cases en <;> decide
def steps : Nat → Nat → Nat
  | 0, n => n
  | d + 1, n => steps d (crc_step n)
theorem byte_l : ∀ (d k i n : Nat), i + d = 8 → d < k → n < 4294967296 → bourseref01_Byte.l0 k (n : Int) (i : Int) = some (steps d n : Int)
  | 0, k + 1, i, n, hi, hk, hn => by
    unfold bourseref01_Byte.l0
    rw [if_neg (by omega)]
    rfl
  | d + 1, k + 1, i, n, hi, hk, hn => by
    unfold bourseref01_Byte.l0
    rw [if_pos (by omega)]
    have e1 : Int.tmod (n : Int) 2 = ((n % 2 : Nat) : Int) := by rw [Int.tmod_eq_emod_of_nonneg (by omega)]; omega
    have e2 : Int.tdiv (n : Int) 2 % 4294967296 = ((n / 2 : Nat) : Int) := by rw [Int.tdiv_eq_ediv_of_nonneg (by omega)]; omega
    rw [e1, e2, wrap_in (by omega) (by omega)]
    have hu : Go.bits .xor .u32 ((n / 2 : Nat) : Int) 2197175160 = ((n / 2 ^^^ 2197175160 : Nat) : Int) := u32_xor_nat (n / 2) 2197175160 (by omega) (by decide)
    have e3 : (i : Int) + 1 = ((i + 1 : Nat) : Int) := by omega
    have hst := crc_step_lt hn
    rw [hu, e3]
    by_cases h : n % 2 = 1
    · have hs : crc_step n = n / 2 ^^^ 2197175160 := by unfold crc_step; rw [if_pos h]
      rw [if_pos (by omega), ← hs, byte_l d k (i + 1) _ (by omega) (by omega) hst]
      rfl
    · have hs : crc_step n = n / 2 := by unfold crc_step; rw [if_neg h]
      rw [if_neg (by omega), ← hs, byte_l d k (i + 1) _ (by omega) (by omega) hst]
      rfl
theorem byte_f (k n : Nat) (hk : 9 ≤ k) (hn : n < 4294967296) : bourseref01_Byte.f k (n : Int) = some (crc_byte n : Int) := by
  unfold bourseref01_Byte.f
  exact byte_l 8 k 0 n rfl (by omega) hn
theorem bt_of (s : List UInt8) (i : Nat) (h : i < s.length) : bt (B s) (i : Int) = (s[i].toNat : Int) := by
  unfold bt
  rw [dif_pos (by rw [B_size]; exact h)]
  simp [B, ByteArray.getElem_eq_getElem_data]
theorem go_lt : ∀ (l : List UInt8) (n : Nat), n < 4294967296 → crc_go n l < 4294967296
  | [], n, h => h
  | c :: r, n, h => by
    rw [crc_go]
    have hc := UInt8.toNat_lt c
    exact go_lt r _ (Nat.xor_lt_two_pow (n := 32) (crc_byte_lt (Nat.xor_lt_two_pow (n := 32) (by omega) (by omega))) (by omega))
theorem add_l : ∀ (d k i n : Nat) (s : List UInt8), i + d = s.length → d + 10 ≤ k → n < 4294967296 → s.length ≤ 9223372036854775807 → bourseref01_Add.l0 k (n : Int) (B s) (i : Int) = some ((4294967295 - crc_go n (s.drop i) : Nat) : Int)
  | 0, k + 1, i, n, s, hi, hk, hn, hs => by
    unfold bourseref01_Add.l0
    rw [B_size, if_neg (by omega), List.drop_of_length_le (by omega), crc_go]
    have := hn
    congr 1
    omega
  | d + 1, k + 1, i, n, s, hi, hk, hn, hs => by
    unfold bourseref01_Add.l0
    have hlt : i < s.length := by omega
    have hc := UInt8.toNat_lt s[i]
    have e1 : Int.tmod (n : Int) 256 = ((n % 256 : Nat) : Int) := by rw [Int.tmod_eq_emod_of_nonneg (by omega)]; omega
    have e2 : Int.tdiv (n : Int) 256 % 4294967296 = ((n / 256 : Nat) : Int) := by rw [Int.tdiv_eq_ediv_of_nonneg (by omega)]; omega
    have e4 : (s[i].toNat : Int) % 4294967296 = (s[i].toNat : Int) := by omega
    rw [B_size, if_pos (by omega), if_pos (by omega), bt_of s i hlt, e1, e2, e4, u32_xor_nat _ _ (by omega) (by omega)]
    have hx : n % 256 ^^^ s[i].toNat < 4294967296 := Nat.xor_lt_two_pow (n := 32) (by omega) (by omega)
    rw [byte_f k _ (by omega) hx]
    simp only [Option.bind_some]
    rw [u32_xor_nat _ _ (crc_byte_lt hx) (by omega), wrap_in (by omega) (by omega)]
    have e3 : (i : Int) + 1 = ((i + 1 : Nat) : Int) := by omega
    rw [e3, add_l d k (i + 1) _ s (by omega) (by omega) (Nat.xor_lt_two_pow (n := 32) (crc_byte_lt hx) (by omega)) hs]
    rw [List.drop_eq_getElem_cons hlt, crc_go]
theorem of_f (k : Nat) (s : List UInt8) (hk : s.length + 10 ≤ k) (hs : s.length ≤ 9223372036854775807) : bourseref01_Of.f k (B s) = some (crcL s : Int) := by
  unfold bourseref01_Of.f bourseref01_Add.f
  have e := add_l s.length k 0 4294967295 s (by omega) hk (by decide) hs
  rw [show ((4294967295 - 0 : Int) % 4294967296) = ((4294967295 : Nat) : Int) from rfl, show (0 : Int) = ((0 : Nat) : Int) from rfl, e]
  simp [crcL]
theorem or_low (a b : Nat) (ha : a < 131072) : a ||| (b * 131072) = a + b * 131072 := by
  rw [Nat.or_comm, show b * 131072 = 2 ^ 17 * b from by omega, ← Nat.two_pow_add_eq_or_of_lt (i := 17) (by simpa using ha)]
  omega
theorem mask_r (n : Nat) (h : n < 4294967296) : bourseref01_Mask.f (n : Int) = some (maskN n : Int) := by
  unfold bourseref01_Mask.f
  have e1 : Int.tmod (n : Int) 32768 = ((n % 32768 : Nat) : Int) := by rw [Int.tmod_eq_emod_of_nonneg (by omega)]; omega
  have e2 : Int.tdiv (n : Int) 32768 % 4294967296 = ((n / 32768 : Nat) : Int) := by rw [Int.tdiv_eq_ediv_of_nonneg (by omega)]; omega
  have e3 : ((n % 32768 : Nat) : Int) * 131072 = ((n % 32768 * 131072 : Nat) : Int) := by omega
  have e5 : n * 131072 % 4294967296 = n % 32768 * 131072 := by omega
  rw [e1, e2, u64w _ (by omega), e3, u64w _ (by omega)]
  rw [show ((n / 32768 : Nat) : Int) + ((n % 32768 * 131072 : Nat) : Int) = ((n / 32768 + n % 32768 * 131072 : Nat) : Int) from by omega, u64w _ (by omega)]
  rw [show ((n / 32768 + n % 32768 * 131072 : Nat) : Int) + 2726488792 = ((n / 32768 + n % 32768 * 131072 + 2726488792 : Nat) : Int) from by omega, u64w _ (by omega)]
  rw [Int.tmod_eq_emod_of_nonneg (by omega)]
  unfold maskN
  rw [e5, or_low _ _ (by omega)]
  refine congrArg some ?_
  omega
theorem little_l : ∀ (d k i n m : Nat) (acc : List UInt8), i + d = m → d < k → m ≤ 100 → acc.length ≤ i → n < 18446744073709551616 → bourseref03_Little.l0 k (n : Int) (m : Int) (B acc) (i : Int) = some (B (acc ++ le d n))
  | 0, k + 1, i, n, m, acc, hi, hk, hm, ha, hn => by
    unfold bourseref03_Little.l0
    rw [if_neg (by omega)]
    simp [le]
  | d + 1, k + 1, i, n, m, acc, hi, hk, hm, ha, hn => by
    unfold bourseref03_Little.l0
    have e1 : Int.tmod (n : Int) 256 % 256 = ((n % 256 : Nat) : Int) := by rw [Int.tmod_eq_emod_of_nonneg (by omega)]; omega
    have e2 : Int.tdiv (n : Int) 256 = ((n / 256 : Nat) : Int) := by rw [Int.tdiv_eq_ediv_of_nonneg (by omega)]; omega
    rw [if_pos (by omega)]
    simp only [Option.bind_some]
    rw [e1, e2, one_B, B_size, B_size, if_pos (by simp; omega), B_app, u64w _ (by omega), wrap_in (by omega) (by omega)]
    have e3 : (i : Int) + 1 = ((i + 1 : Nat) : Int) := by omega
    rw [e3, little_l d k (i + 1) (n / 256) m _ (by omega) (by omega) hm (by simp; omega) (by omega), ofNat_mod]
    simp [le]
theorem little_f (k m n : Nat) (hk : m < k) (hm : m ≤ 100) (hn : n < 18446744073709551616) : bourseref03_Little.f k (n : Int) (m : Int) = some (B (le m n)) := by
  unfold bourseref03_Little.f
  exact little_l m k 0 n m [] (by omega) hk hm (Nat.le_refl _) hn
theorem sum_r (k kd : Nat) (hd : kd < 256) (s : List UInt8) (hs : s.length ≤ 1000000000) (hk : s.length + 20 ≤ k) : bourseref05_sum.f k (kd : Int) (B s) = some (B (sumL kd s)) := by
  unfold bourseref05_sum.f
  simp only [Option.bind_some]
  rw [one_B, B_app, B_size, B_size, if_pos (by simp; omega), of_f k _ (by simp; omega) (by simp; omega)]
  simp only [Option.bind_some]
  have hm := mask_r (crcL ([UInt8.ofNat kd] ++ s)) (crcL_lt _)
  rw [hm]
  simp only [Option.bind_some]
  have hl := maskN_lt (crcL ([UInt8.ofNat kd] ++ s))
  rw [u64w _ (by omega)]
  have h4 := little_f k 4 (maskN (crcL ([UInt8.ofNat kd] ++ s))) (by omega) (by omega) (by omega)
  exact congrArg (fun x => Option.bind x fun t => some t) h4
end Go.Proofs.YteilnbnnhocciaaDoor.P

/-! KP2 -/
set_option linter.unusedVariables false
namespace Go.Proofs.YteilnbnnhocciaaDoor.P
open Go.RowKit Go.Proofs.YteilnbnnhocciaaDoorW.PrintWords Go.Proofs.YteilnbnnhocciaaDoorW.PrintLast Go.Proofs.YteilnbnnhocciaaDoorW.PrintMore Go.Proofs.YteilnbnnhocciaaDoorM Go.Proofs.YteilnbnnhocciaaDoor.KF
def roomN (a : Nat) : Nat := 512 - a % 512
def padN (a : Nat) : Nat := if roomN a < 7 then roomN a else 0
def spaceN (a : Nat) : Nat := roomN (a + padN a) - 7
theorem room_padded (a : Nat) : 7 ≤ roomN (a + padN a) ∧ roomN (a + padN a) ≤ 512 := by
  unfold padN roomN
  split <;> omega
theorem padN_lt (a : Nat) : padN a < 7 := by unfold padN; split <;> omega
inductive Lays : Nat → List UInt8 → Bool → List UInt8 → Prop
  | last (a : Nat) (rc : List UInt8) (bg : Bool) : rc.length ≤ spaceN a → Lays a rc bg (List.replicate (padN a) 0 ++ pieceL (kindN bg true) rc)
  | more (a : Nat) (rc : List UInt8) (bg : Bool) (out : List UInt8) : spaceN a < rc.length → Lays (a + padN a + (7 + spaceN a)) (rc.drop (spaceN a)) false out →
      Lays a rc bg (List.replicate (padN a) 0 ++ (pieceL (kindN bg false) (rc.take (spaceN a)) ++ out))
theorem lays_ex : ∀ (m a : Nat) (rc : List UInt8) (bg : Bool), 2 * rc.length + (if spaceN a = 0 then 1 else 0) ≤ m → ∃ out, Lays a rc bg out ∧ out.length ≤ rc.length + 13 * (m + 1)
  | m, a, rc, bg, hm => by
    have hp := padN_lt a
    by_cases h : rc.length ≤ spaceN a
    · exact ⟨_, .last a rc bg h, by simp [pieceL_len]; omega⟩
    · have hlt : spaceN a < rc.length := by omega
      cases m with
      | zero => omega
      | succ m =>
        have hr := room_padded a
        obtain ⟨out, ho, hl⟩ := lays_ex m (a + padN a + (7 + spaceN a)) (rc.drop (spaceN a)) false (by
          simp only [List.length_drop]
          by_cases hz : spaceN a = 0
          · have : spaceN (a + padN a + (7 + spaceN a)) ≠ 0 := by
              unfold spaceN at hz ⊢
              rw [hz]
              have e : (a + padN a) % 512 = 505 := by unfold roomN at hz hr; omega
              have e2 : (a + padN a + (7 + 0)) % 512 = 0 := by omega
              generalize a + padN a + (7 + 0) = b at e2
              have e3 : padN b = 0 := by unfold padN roomN; rw [e2]; rfl
              rw [e3]
              unfold roomN
              omega
            rw [if_neg this]
            rw [if_pos hz] at hm
            omega
          · rw [if_neg hz] at hm
            split <;> omega)
        refine ⟨_, .more a rc bg out hlt ho, ?_⟩
        simp only [List.length_append, List.length_replicate, pieceL_len, List.length_take, List.length_drop] at hl ⊢
        omega
theorem left_f (a : Nat) (h : a ≤ 1000000000000) : frame_left.f (a : Int) = some (roomN a : Int) := by
  unfold frame_left.f roomN
  rw [Int.tmod_eq_emod_of_nonneg (by omega), wrap_in (by omega) (by omega)]
  refine congrArg some ?_
  omega
theorem room_f (a : Nat) (h : a ≤ 1000000000000) : bourseref05_room.f (a : Int) = some (roomN a : Int) := left_f a h
theorem pad_f (a : Nat) (h : a ≤ 1000000000000) : frame_pad.f (a : Int) = some (padN a : Int) := by
  unfold frame_pad.f
  rw [left_f a h]
  simp only [Option.bind_some]
  unfold padN
  by_cases h7 : roomN a < 7
  · rw [if_pos (by omega), if_pos h7]
  · rw [if_neg (by omega), if_neg h7]; rfl
theorem zeros_f (p : Nat) : frame_Lay.zeros (p : Int) = B (List.replicate p 0) := by
  apply list_ext
  unfold frame_Lay.zeros
  rw [B_data]
  simp only [Int.toNat_natCast]
  induction p with
  | zero => rfl
  | succ p ih => simp [Lib.repeatL, List.replicate_succ] at ih ⊢; exact ih
theorem step_fits {a : Nat} {rc : List UInt8} : (spaceN a : Int) = wrap64 ((roomN (a + padN a) : Int) - 7) := by
  have hr := room_padded a
  rw [wrap_in (by omega) (by omega)]
  unfold spaceN
  omega
theorem lay_p {a : Nat} {rc : List UInt8} {bg : Bool} {out : List UInt8} (h : Lays a rc bg out) : ∀ acc : List UInt8, a + out.length ≤ 1000000000000 → acc.length + out.length ≤ 100000000000000 →
    ∃ K, ∀ k, K ≤ k → frame_Lay.l k (a : Int) (B rc) bg (B acc) = some (B (acc ++ out)) := by
  induction h with
  | last a rc bg h =>
    intro acc h1 h2
    refine ⟨1, fun k hk => ?_⟩
    obtain ⟨k, rfl⟩ : ∃ k', k = k' + 1 := ⟨k - 1, by omega⟩
    have hp := padN_lt a
    have hr := room_padded a
    simp only [List.length_append, List.length_replicate, pieceL_len] at h1 h2
    have hn : frame_Lay.n (roomN (a + padN a) : Int) (B rc) = (rc.length : Int) := by
      unfold frame_Lay.n mn
      rw [← step_fits (rc := rc), B_size]
      split <;> omega
    unfold frame_Lay.l
    rw [pad_f a (by omega)]
    simp only [Option.bind_some]
    rw [wrap_in (by omega) (by omega), show (a : Int) + (padN a : Int) = ((a + padN a : Nat) : Int) from by omega, left_f _ (by omega)]
    simp only [Option.bind_some, hn, B_size]
    rw [if_pos (by omega), beq_self_eq_true, kind_f]
    simp only [Option.bind_some, Int.toNat_natCast]
    rw [B_ext _ _ _ (Nat.le_refl _), B_ext _ _ _ (Nat.le_refl _), List.take_length, List.drop_length, List.drop_zero, piece_f _ (kindN_lt _ _) _ (by unfold spaceN at h; omega)]
    simp only [Option.bind_some, zeros_f, B_app, B_size]
    rw [if_pos (by simp [pieceL_len]; omega), if_pos (by rw [tl]; rfl)]
    simp
  | more a rc bg out h ho ih =>
    intro acc h1 h2
    have hp := padN_lt a
    have hr := room_padded a
    simp only [List.length_append, List.length_replicate, pieceL_len] at h1 h2
    obtain ⟨K, hK⟩ := ih (acc ++ List.replicate (padN a) 0 ++ pieceL (kindN bg false) (rc.take (spaceN a))) (by simp only [List.length_take] at h1; omega) (by simp only [List.length_append, List.length_replicate, pieceL_len]; omega)
    refine ⟨K + 1, fun k hk => ?_⟩
    obtain ⟨k, rfl⟩ : ∃ k', k = k' + 1 := ⟨k - 1, by omega⟩
    have hn : frame_Lay.n (roomN (a + padN a) : Int) (B rc) = (spaceN a : Int) := by
      unfold frame_Lay.n mn
      rw [← step_fits (rc := rc), B_size]
      split <;> omega
    have hs : spaceN a ≤ 505 := by unfold spaceN; omega
    unfold frame_Lay.l
    rw [pad_f a (by omega)]
    simp only [Option.bind_some]
    rw [wrap_in (by omega) (by omega), show (a : Int) + (padN a : Int) = ((a + padN a : Nat) : Int) from by omega, left_f _ (by omega)]
    simp only [Option.bind_some, hn, B_size]
    rw [if_pos (by omega), show ((spaceN a : Int) == (rc.length : Int)) = false from by simp; omega, kind_f]
    simp only [Option.bind_some, Int.toNat_natCast]
    rw [B_ext _ _ _ (by omega), B_ext _ _ _ (Nat.le_refl _), List.take_length, List.drop_zero, piece_f _ (kindN_lt _ _) _ (by simp only [List.length_take]; omega)]
    simp only [Option.bind_some, zeros_f, B_app, B_size]
    rw [if_pos (by simp [pieceL_len]; simp only [List.length_take] at h2; omega), if_neg (by rw [tl, B_data]; intro e; have := congrArg List.length e; simp at this; omega)]
    rw [wrap_in (n := 7 + (spaceN a : Int)) (by omega) (by omega), wrap_in (by simp only [List.length_take] at h1; omega) (by simp only [List.length_take] at h1; omega),
      show ((a + padN a : Nat) : Int) + (7 + (spaceN a : Int)) = ((a + padN a + (7 + spaceN a) : Nat) : Int) from by omega, hK k (by omega)]
    simp
theorem zero_room (a d : Nat) (h : padN a = d + 1) : padN (a + 1) = d := by
  unfold padN roomN at h ⊢
  split at h
  · by_cases hd : d = 0
    · subst hd
      have : (a + 1) % 512 = 0 := by omega
      rw [this]; rfl
    · rw [if_pos (by omega)]; omega
  · omega
theorem pads_r : ∀ (d k x : Nat) (rc acc : List UInt8) (bg : Bool), padN (x + acc.length) = d → x + acc.length + d ≤ 1000000000000 → acc.length + d ≤ 100000000000000 →
    bourseref05_Lay.l1 (k + d) (x : Int) (B rc) (B acc) bg = bourseref05_Lay.l1 k (x : Int) (B rc) (B (acc ++ List.replicate d 0)) bg
  | 0, k, x, rc, acc, bg, h, h1, h2 => by simp
  | d + 1, k, x, rc, acc, bg, h, h1, h2 => by
    rw [show k + (d + 1) = (k + d) + 1 from by omega, bourseref05_Lay.l1, B_size]
    rw [wrap_in (by omega) (by omega), show (x : Int) + (acc.length : Int) = ((x + acc.length : Nat) : Int) from by omega, room_f _ (by omega)]
    simp only [Option.bind_some]
    have hr : roomN (x + acc.length) < 7 := by unfold padN at h; split at h <;> omega
    rw [if_pos (by omega), if_pos (by omega), show (⟨#[0]⟩ : ByteArray) = B [0] from rfl, B_app, pads_r d k x rc (acc ++ [0]) bg (by
      simp only [List.length_append, List.length_singleton]; rw [← Nat.add_assoc]; exact zero_room _ _ h) (by simp; omega) (by simp; omega)]
    simp [List.replicate_succ]
theorem lay_r {a : Nat} {rc : List UInt8} {bg : Bool} {out : List UInt8} (h : Lays a rc bg out) : ∀ (x : Nat) (acc : List UInt8), a = x + acc.length → a + out.length ≤ 1000000000000 →
    ∃ K, ∀ k, K ≤ k → bourseref05_Lay.l1 k (x : Int) (B rc) (B acc) bg = some (B (acc ++ out)) := by
  induction h with
  | last a rc bg h =>
    rintro x acc rfl h1
    refine ⟨rc.length + 50, fun k hk => ?_⟩
    obtain ⟨k, rfl⟩ : ∃ k', k = k' + 4 + padN (x + acc.length) := ⟨k - 4 - padN (x + acc.length), by have := padN_lt (x + acc.length); omega⟩
    have hp := padN_lt (x + acc.length)
    have hr := room_padded (x + acc.length)
    simp only [List.length_append, List.length_replicate, pieceL_len] at h1
    rw [pads_r _ _ _ _ _ _ rfl (by omega) (by omega)]
    generalize hP : padN (x + acc.length) = P at *
    have hS : spaceN (x + acc.length) = roomN (x + acc.length + P) - 7 := by rw [spaceN, hP]
    have hw : (spaceN (x + acc.length) : Int) = wrap64 ((roomN (x + acc.length + P) : Int) - 7) := by rw [step_fits (rc := rc), hP]
    rw [bourseref05_Lay.l1, B_size]
    simp only [List.length_append, List.length_replicate]
    rw [wrap_in (by omega) (by omega), show (x : Int) + ((acc.length + P : Nat) : Int) = ((x + acc.length + P : Nat) : Int) from by omega, room_f _ (by omega)]
    simp only [Option.bind_some]
    rw [if_neg (by omega), ← hw, B_size]
    have hj : ∀ K, bourseref05_Lay.j3 K x (B rc) (B (acc ++ List.replicate P 0)) bg (rc.length : Int) = (if (spaceN (x + acc.length) : Int) > (rc.length : Int) then bourseref05_Lay.j3 K x (B rc) (B (acc ++ List.replicate P 0)) bg (rc.length : Int) else bourseref05_Lay.j3 K x (B rc) (B (acc ++ List.replicate P 0)) bg (spaceN (x + acc.length) : Int)) := by
      intro K
      split
      · rfl
      · rw [show spaceN (x + acc.length) = rc.length from by omega]
    rw [← hj]
    have h5 : ∀ kd : Nat, kd = 1 ∨ kd = 4 → bourseref05_Lay.j5 (k + 1) x (B rc) (B (acc ++ List.replicate P 0)) (rc.length : Int) (kd : Int) = some (B (acc ++ (List.replicate P 0 ++ pieceL kd rc))) := by
      intro kd hkd
      rw [bourseref05_Lay.j5]
      rw [B_size, if_pos (by omega), if_pos (by omega)]
      simp only [Int.toNat_natCast]
      rw [B_ext _ _ _ (Nat.le_refl _), List.take_length, List.drop_zero, sum_r k kd (by omega) rc (by omega) (by omega)]
      simp only [Option.bind_some, B_app, B_size, one_B]
      rw [if_pos (by simp [sumL_len]; omega), u64w _ (by omega)]
      have h2 := little_f k 2 rc.length (by omega) (by omega) (by omega)
      rw [show ((2 : Nat) : Int) = 2 from rfl] at h2
      rw [h2]
      simp only [Option.bind_some, B_app, B_size, one_B]
      rw [if_pos (by simp [sumL_len, le_len]; omega), if_pos (by simp [sumL_len, le_len]; omega), if_pos (by simp [sumL_len, le_len]; omega)]
      have e : acc ++ List.replicate P 0 ++ sumL kd rc ++ le 2 rc.length ++ [UInt8.ofNat kd] ++ rc = acc ++ (List.replicate P 0 ++ pieceL kd rc) := by simp [pieceL]
      rw [e]
      rcases hkd with rfl | rfl
      · rw [if_pos (show ((1 : Nat) : Int) = 1 from rfl)]
      · rw [if_neg (by decide), if_pos (show ((4 : Nat) : Int) = 4 from rfl)]
    cases bg with
    | true =>
      rw [bourseref05_Lay.j3, if_pos rfl, B_size, beq_self_eq_true, bourseref05_Lay.j4, if_pos rfl]
      exact h5 1 (.inl rfl)
    | false =>
      rw [bourseref05_Lay.j3, if_neg (by decide), bourseref05_Lay.j4, if_neg (by decide), if_neg (by decide), B_size, if_pos rfl]
      exact h5 4 (.inr rfl)
  | more a rc bg out h ho ih =>
    rintro x acc rfl h1
    have hp := padN_lt (x + acc.length)
    have hr := room_padded (x + acc.length)
    generalize hP : padN (x + acc.length) = P at *
    generalize hS : spaceN (x + acc.length) = S at *
    have hS2 : S = roomN (x + acc.length + P) - 7 := by rw [← hS, spaceN, hP]
    simp only [List.length_append, List.length_replicate, pieceL_len, List.length_take] at h1
    obtain ⟨K, hK⟩ := ih x (acc ++ (List.replicate P 0 ++ pieceL (kindN bg false) (rc.take S))) (by simp only [List.length_append, List.length_replicate, pieceL_len, List.length_take]; omega) (by omega)
    refine ⟨K + rc.length + 50, fun k hk => ?_⟩
    obtain ⟨k, rfl⟩ : ∃ k', k = k' + 5 + P := ⟨k - 5 - P, by omega⟩
    rw [pads_r _ _ _ _ _ _ hP (by omega) (by omega)]
    have hw : (S : Int) = wrap64 ((roomN (x + acc.length + P) : Int) - 7) := by rw [← hS, step_fits (rc := rc), hP]
    rw [bourseref05_Lay.l1, B_size]
    simp only [List.length_append, List.length_replicate]
    rw [wrap_in (by omega) (by omega), show (x : Int) + ((acc.length + P : Nat) : Int) = ((x + acc.length + P : Nat) : Int) from by omega, room_f _ (by omega)]
    simp only [Option.bind_some]
    rw [if_neg (by omega), ← hw, B_size, if_neg (by omega)]
    have h5 : ∀ kd : Nat, kd = 2 ∨ kd = 3 → kd = kindN bg false → bourseref05_Lay.j5 (k + 2) x (B rc) (B (acc ++ List.replicate P 0)) (S : Int) (kd : Int) = some (B (acc ++ (List.replicate P 0 ++ (pieceL kd (rc.take S) ++ out)))) := by
      intro kd hkd hkb
      have hTl : (rc.take S).length = S := by rw [List.length_take]; omega
      rw [bourseref05_Lay.j5]
      rw [B_size, if_pos (by omega), if_pos (by omega)]
      simp only [Int.toNat_natCast]
      rw [B_ext _ _ _ (by omega), List.drop_zero, sum_r (k + 1) kd (by omega) (rc.take S) (by omega) (by omega)]
      simp only [Option.bind_some, B_app, B_size, one_B]
      rw [if_pos (by simp [sumL_len]; omega), u64w _ (by omega)]
      have h2 := little_f (k + 1) 2 S (by omega) (by omega) (by omega)
      rw [show ((2 : Nat) : Int) = 2 from rfl] at h2
      rw [h2]
      simp only [Option.bind_some, B_app, B_size, one_B]
      rw [if_pos (by simp [sumL_len, le_len]; omega), if_pos (by simp [sumL_len, le_len]; omega), if_pos (by simp [sumL_len, le_len]; omega)]
      rw [if_neg (by rcases hkd with rfl | rfl <;> decide), if_neg (by rcases hkd with rfl | rfl <;> decide)]
      have e : acc ++ List.replicate P 0 ++ sumL kd (rc.take S) ++ le 2 S ++ [UInt8.ofNat kd] ++ rc.take S = acc ++ (List.replicate P 0 ++ pieceL kd (rc.take S)) := by simp [pieceL, hTl]
      rw [e, B_ext _ _ _ (Nat.le_refl _), List.take_length, bourseref05_Lay.l0, hkb, hK k (by omega)]
      simp
    cases bg with
    | true =>
      rw [bourseref05_Lay.j3, if_pos rfl, B_size, show ((S : Int) == (rc.length : Int)) = false from by simp; omega, bourseref05_Lay.j4, if_neg (by decide), if_pos rfl]
      exact h5 2 (.inl rfl) rfl
    | false =>
      rw [bourseref05_Lay.j3, if_neg (by decide), bourseref05_Lay.j4, if_neg (by decide), if_neg (by decide), B_size, if_neg (by omega)]
      exact h5 3 (.inr rfl) rfl
theorem bind_of {α β : Type} {x : Option α} {f : α → Option β} {a : α} {r : Option β} (h : x = some a) (h2 : f a = r) : x.bind f = r := by rw [h]; exact h2
theorem len_p {a : Nat} {rc : List UInt8} {bg : Bool} {out : List UInt8} (h : Lays a rc bg out) : ∀ f : Nat, f ≤ a → a + out.length ≤ 1000000000000 → rc.length ≤ 1000000000000 →
    ∃ K, ∀ k, K ≤ k → frame_Len.l0 k (a : Int) (rc.length : Int) (f : Int) = some ((a + out.length - f : Nat) : Int) := by
  induction h with
  | last a rc bg h =>
    intro f hf h1 hrc
    refine ⟨1, fun k hk => ?_⟩
    obtain ⟨k, rfl⟩ : ∃ k', k = k' + 1 := ⟨k - 1, by omega⟩
    have hp := padN_lt a
    have hr := room_padded a
    simp only [List.length_append, List.length_replicate, pieceL_len] at h1
    have hn : mn (wrap64 ((roomN (a + padN a) : Int) - 7)) (rc.length : Int) = (rc.length : Int) := by
      unfold mn
      rw [← step_fits (rc := rc)]
      split <;> omega
    rw [frame_Len.l0]
    refine bind_of (pad_f a (by omega)) ?_
    rw [wrap_in (n := (a : Int) + (padN a : Int)) (by omega) (by omega), show (a : Int) + (padN a : Int) = ((a + padN a : Nat) : Int) from by omega]
    refine bind_of (left_f _ (by omega)) ?_
    rw [hn, if_pos (by rw [wrap_in (by omega) (by omega)]; omega), wrap_in (n := 7 + (rc.length : Int)) (by omega) (by omega), wrap_in (n := ((a + padN a : Nat) : Int) + (7 + (rc.length : Int))) (by omega) (by omega), wrap_in (by omega) (by omega)]
    refine congrArg some ?_
    simp only [List.length_append, List.length_replicate, pieceL_len]
    omega
  | more a rc bg out h ho ih =>
    intro f hf h1 hrc
    have hp := padN_lt a
    have hr := room_padded a
    simp only [List.length_append, List.length_replicate, pieceL_len, List.length_take] at h1
    obtain ⟨K, hK⟩ := ih f (by omega) (by omega) (by simp; omega)
    refine ⟨K + 1, fun k hk => ?_⟩
    obtain ⟨k, rfl⟩ : ∃ k', k = k' + 1 := ⟨k - 1, by omega⟩
    have hn : mn (wrap64 ((roomN (a + padN a) : Int) - 7)) (rc.length : Int) = (spaceN a : Int) := by
      unfold mn
      rw [← step_fits (rc := rc)]
      split <;> omega
    rw [frame_Len.l0]
    refine bind_of (pad_f a (by omega)) ?_
    rw [wrap_in (n := (a : Int) + (padN a : Int)) (by omega) (by omega), show (a : Int) + (padN a : Int) = ((a + padN a : Nat) : Int) from by omega]
    refine bind_of (left_f _ (by omega)) ?_
    rw [hn, if_neg (by rw [wrap_in (by omega) (by omega)]; omega), wrap_in (n := 7 + (spaceN a : Int)) (by omega) (by omega), wrap_in (n := ((a + padN a : Nat) : Int) + (7 + (spaceN a : Int))) (by omega) (by omega), wrap_in (by omega) (by omega)]
    rw [show ((a + padN a : Nat) : Int) + (7 + (spaceN a : Int)) = ((a + padN a + (7 + spaceN a) : Nat) : Int) from by omega, show (rc.length : Int) - (spaceN a : Int) = ((rc.drop (spaceN a)).length : Int) from by rw [List.length_drop]; omega, hK k (by omega)]
    refine congrArg some ?_
    simp only [List.length_append, List.length_replicate, pieceL_len, List.length_take, List.length_drop]
    omega
theorem mx0 (a : Int) : mx a 0 = (a.toNat : Int) := by unfold mx; split <;> omega
theorem lays_law (a : Int) (rc : ByteArray) : ∃ k, bourselaw05_FrameLays.f k a rc = some true := by
  unfold bourselaw05_FrameLays.f
  by_cases c1 : (rc.size : Int) > 3000
  · exact ⟨0, by rw [if_pos c1]⟩
  by_cases c2 : a > 1073741824
  · exact ⟨0, by rw [if_neg c1, if_pos c2]⟩
  simp only [if_neg c1, if_neg c2]
  rw [B_of rc] at c1 ⊢
  generalize rc.data.toList = l at c1 ⊢
  rw [B_size] at c1 ⊢
  obtain ⟨out, ho, hl⟩ := lays_ex _ a.toNat l true (Nat.le_refl _)
  have hb : a.toNat + out.length ≤ 1000000000000 := by split at hl <;> omega
  obtain ⟨K1, h1⟩ := lay_p ho [] hb (by simp; omega)
  obtain ⟨K2, h2⟩ := lay_r ho a.toNat [] rfl hb
  obtain ⟨K3, h3⟩ := len_p ho a.toNat (Nat.le_refl _) hb (by omega)
  refine ⟨K1 + K2 + K3 + 2, ?_⟩
  unfold frame_Lay.f
  rw [mx0, show (⟨#[]⟩ : ByteArray) = B [] from rfl, h1 _ (by omega)]
  simp only [Option.bind_some]
  have hr : bourseref05_Lay.f (K1 + K2 + K3 + 2) a (B l) = some (B ([] ++ out)) := by
    unfold bourseref05_Lay.f
    have hj : bourseref05_Lay.j0 (K1 + K2 + K3 + 2) (a.toNat : Int) (B l) = some (B ([] ++ out)) := by
      rw [bourseref05_Lay.j0, bourseref05_Lay.l0]
      exact h2 _ (by omega)
    split
    · rw [show (0 : Int) = (a.toNat : Int) from by omega]; exact hj
    · rw [show bourseref05_Lay.j0 (K1 + K2 + K3 + 2) a (B l) = bourseref05_Lay.j0 (K1 + K2 + K3 + 2) (a.toNat : Int) (B l) from by congr 1; omega]; exact hj
  rw [hr]
  simp only [Option.bind_some]
  rw [if_pos trivial]
  unfold frame_Len.f
  rw [mx0, mx0, Int.toNat_natCast, h3 _ (by omega)]
  simp only [Option.bind_some]
  rw [B_size]
  simp
end Go.Proofs.YteilnbnnhocciaaDoor.P

/-! KP3 -/
set_option linter.unusedVariables false
namespace Go.Proofs.YteilnbnnhocciaaDoor.P
open Go.RowKit Go.Proofs.YteilnbnnhocciaaDoorW.PrintWords Go.Proofs.YteilnbnnhocciaaDoorW.PrintLast Go.Proofs.YteilnbnnhocciaaDoorW.PrintMore Go.Proofs.YteilnbnnhocciaaDoorM Go.Proofs.YteilnbnnhocciaaDoor.KF
theorem xor_lc (a b c : Nat) : a ^^^ (b ^^^ c) = b ^^^ (a ^^^ c) := by rw [← Nat.xor_assoc, Nat.xor_comm a b, Nat.xor_assoc]
theorem xor_rc {a b c : Nat} (h : a ^^^ c = b ^^^ c) : a = b := by
  have := congrArg (· ^^^ c) h
  simpa [Nat.xor_assoc] using this
theorem xor_cl {a b c : Nat} (h : c ^^^ a = c ^^^ b) : a = b := xor_rc (c := c) (by rw [Nat.xor_comm a, Nat.xor_comm b]; exact h)
theorem step_inj {a b : Nat} (ha : a < 4294967296) (hb : b < 4294967296) (h : crc_step a = crc_step b) : a = b := by
  have bit : ∀ x y : Nat, x < 2147483648 → y < 2147483648 → x ^^^ 2197175160 ≠ y := by
    intro x y hx hy e
    have h1 : (x ^^^ 2197175160).testBit 31 = true := by
      rw [Nat.testBit_xor, Nat.testBit_lt_two_pow (x := x) (i := 31) (by omega)]
      decide
    rw [e, Nat.testBit_lt_two_pow (x := y) (i := 31) (by omega)] at h1
    cases h1
  unfold crc_step at h
  by_cases h1 : a % 2 = 1 <;> by_cases h2 : b % 2 = 1
  · rw [if_pos h1, if_pos h2] at h
    have := xor_rc h
    omega
  · rw [if_pos h1, if_neg h2] at h
    exact absurd h (bit _ _ (by omega) (by omega))
  · rw [if_neg h1, if_pos h2] at h
    exact absurd h.symm (bit _ _ (by omega) (by omega))
  · rw [if_neg h1, if_neg h2] at h
    omega
theorem step_xor (a b : Nat) : crc_step (a ^^^ b) = crc_step a ^^^ crc_step b := by
  unfold crc_step
  have hd : (a ^^^ b) / 2 = a / 2 ^^^ b / 2 := Nat.xor_div_two
  have hm : (a ^^^ b) % 2 = 1 ↔ ¬ ((a % 2 = 1) ↔ (b % 2 = 1)) := Nat.xor_mod_two_eq_one
  rw [hd]
  by_cases h1 : a % 2 = 1 <;> by_cases h2 : b % 2 = 1
  · rw [if_neg (by rw [hm]; simp [h1, h2]), if_pos h1, if_pos h2]
    rw [Nat.xor_assoc, xor_lc 2197175160, Nat.xor_self, Nat.xor_zero]
  · rw [if_pos (by rw [hm]; simp [h1, h2]), if_pos h1, if_neg h2, Nat.xor_assoc, Nat.xor_assoc, Nat.xor_comm (b / 2)]
  · rw [if_pos (by rw [hm]; simp [h1, h2]), if_neg h1, if_pos h2, Nat.xor_assoc]
  · rw [if_neg (by rw [hm]; simp [h1, h2]), if_neg h1, if_neg h2]
theorem byte_xor (a b : Nat) : crc_byte (a ^^^ b) = crc_byte a ^^^ crc_byte b := by
  unfold crc_byte
  simp only [step_xor]
theorem step_even (m : Nat) : crc_step (2 * m) = m := by
  unfold crc_step
  rw [if_neg (by omega)]
  omega
theorem byte_high (m : Nat) : crc_byte (256 * m) = m := by
  unfold crc_byte
  rw [show 256 * m = 2 * (2 * (2 * (2 * (2 * (2 * (2 * (2 * m))))))) from by omega]
  simp only [step_even]
theorem low_high (n : Nat) : n = (n % 256) ^^^ (256 * (n / 256)) := by
  have h : 256 * (n / 256) ^^^ (n % 256) = 256 * (n / 256) + n % 256 := by
    have h1 := Nat.two_pow_add_eq_or_of_lt (i := 8) (b := n % 256) (by omega) (n / 256)
    have h2 : 256 * (n / 256) ^^^ (n % 256) = 256 * (n / 256) ||| (n % 256) := by
      apply Nat.eq_of_testBit_eq
      intro i
      rw [Nat.testBit_xor, Nat.testBit_or]
      by_cases hi : i < 8
      · rw [show 256 * (n / 256) = 2 ^ 8 * (n / 256) from rfl, Nat.testBit_two_pow_mul]
        simp [show ¬ 8 ≤ i from by omega]
      · have hl : (n % 256).testBit i = false := Nat.testBit_lt_two_pow (Nat.lt_of_lt_of_le (show n % 256 < 2 ^ 8 from by omega) (Nat.pow_le_pow_right (by omega) (by omega)))
        rw [hl]; simp
    rw [h2, ← h1]
  rw [Nat.xor_comm, h]
  omega
theorem round_of (n c : Nat) : crc_byte ((n % 256) ^^^ c) ^^^ (n / 256) = crc_byte (n ^^^ c) := by
  conv => rhs; rw [low_high n]
  rw [Nat.xor_assoc, Nat.xor_comm (256 * (n / 256)), ← Nat.xor_assoc, byte_xor _ (256 * (n / 256)), byte_high]
theorem byte_inj {a b : Nat} (ha : a < 4294967296) (hb : b < 4294967296) (h : crc_byte a = crc_byte b) : a = b := by
  unfold crc_byte at h
  have l := @crc_step_lt
  refine step_inj ha hb (step_inj (l ha) (l hb) (step_inj (l (l ha)) (l (l hb)) (step_inj (l (l (l ha))) (l (l (l hb))) (step_inj (l (l (l (l ha)))) (l (l (l (l hb)))) ?_))))
  exact step_inj (l (l (l (l (l ha))))) (l (l (l (l (l hb))))) (step_inj (l (l (l (l (l (l ha)))))) (l (l (l (l (l (l hb)))))) (step_inj (l (l (l (l (l (l (l ha))))))) (l (l (l (l (l (l (l hb))))))) h))
theorem go_inj : ∀ (l : List UInt8) (n m : Nat), n < 4294967296 → m < 4294967296 → crc_go n l = crc_go m l → n = m
  | [], n, m, hn, hm, h => h
  | c :: r, n, m, hn, hm, h => by
    rw [crc_go, crc_go, round_of, round_of] at h
    have hc := UInt8.toNat_lt c
    have xn : n ^^^ c.toNat < 4294967296 := Nat.xor_lt_two_pow (n := 32) (by omega) (by omega)
    have xm : m ^^^ c.toNat < 4294967296 := Nat.xor_lt_two_pow (n := 32) (by omega) (by omega)
    exact xor_rc (byte_inj xn xm (go_inj r _ _ (crc_byte_lt xn) (crc_byte_lt xm) h))
theorem go_turned : ∀ (p q : List UInt8) (c d : UInt8) (n : Nat), n < 4294967296 → crc_go n (p ++ c :: q) = crc_go n (p ++ d :: q) → c = d
  | [], q, c, d, n, hn, h => by
    rw [List.nil_append, List.nil_append, crc_go, crc_go, round_of, round_of] at h
    have hc := UInt8.toNat_lt c
    have hd := UInt8.toNat_lt d
    have xc : n ^^^ c.toNat < 4294967296 := Nat.xor_lt_two_pow (n := 32) (by omega) (by omega)
    have xd : n ^^^ d.toNat < 4294967296 := Nat.xor_lt_two_pow (n := 32) (by omega) (by omega)
    exact UInt8.toNat_inj.1 (xor_cl (byte_inj xc xd (go_inj q _ _ (crc_byte_lt xc) (crc_byte_lt xd) h)))
  | b :: p, q, c, d, n, hn, h => by
    rw [List.cons_append, List.cons_append, crc_go, crc_go, round_of] at h
    have hb := UInt8.toNat_lt b
    exact go_turned p q c d _ (crc_byte_lt (Nat.xor_lt_two_pow (n := 32) (by omega) (by omega))) h
theorem mask_inj {n m : Nat} (hn : n < 4294967296) (hm : m < 4294967296) (h : maskN n = maskN m) : n = m := by
  unfold maskN at h
  rw [show n * 131072 % 4294967296 = n % 32768 * 131072 from by omega, show m * 131072 % 4294967296 = m % 32768 * 131072 from by omega, or_low _ _ (by omega), or_low _ _ (by omega)] at h
  have h2 : n / 32768 + n % 32768 * 131072 = m / 32768 + m % 32768 * 131072 := by
    generalize hx : n / 32768 + n % 32768 * 131072 = x at h
    generalize hy : m / 32768 + m % 32768 * 131072 = y at h
    have : x < 4294967296 := by omega
    have : y < 4294967296 := by omega
    omega
  omega
theorem le_inj : ∀ (k n m : Nat), n < 256 ^ k → m < 256 ^ k → le k n = le k m → n = m
  | 0, n, m, hn, hm, _ => by simp at hn hm; omega
  | k + 1, n, m, hn, hm, h => by
    rw [le, le, List.cons.injEq] at h
    have h1 := congrArg UInt8.toNat h.1
    simp only [UInt8.toNat_ofNat'] at h1
    rw [Nat.pow_succ] at hn hm
    have h2 := le_inj k (n / 256) (m / 256) (by omega) (by omega) h.2
    omega
theorem sum_turned (kd : Nat) (p q : List UInt8) (c d : UInt8) (h : sumL kd (p ++ c :: q) = sumL kd (p ++ d :: q)) : c = d := by
  unfold sumL at h
  have h1 := le_inj 4 _ _ (by have := maskN_lt (crcL (UInt8.ofNat kd :: (p ++ c :: q))); omega) (by have := maskN_lt (crcL (UInt8.ofNat kd :: (p ++ d :: q))); omega) h
  have h2 := mask_inj (crcL_lt _) (crcL_lt _) h1
  unfold crcL at h2
  have l1 := go_lt (UInt8.ofNat kd :: (p ++ c :: q)) 4294967295 (by decide)
  have l2 := go_lt (UInt8.ofNat kd :: (p ++ d :: q)) 4294967295 (by decide)
  exact go_turned (UInt8.ofNat kd :: p) q c d 4294967295 (by decide) (by rw [List.cons_append, List.cons_append]; omega)
def Piece (log : List UInt8) (a kd : Nat) (s : List UInt8) : Prop :=
  1 ≤ kd ∧ kd ≤ 4 ∧ s.length ≤ spaceN a ∧ (List.replicate (padN a) 0 ++ pieceL kd s) <+: log.drop a
def nextN (a : Nat) (s : List UInt8) : Nat := a + padN a + (7 + s.length)
theorem spaceN_le (a : Nat) : spaceN a ≤ 505 := by have := room_padded a; unfold spaceN; omega
theorem le2_len {n m : Nat} (hn : n < 65536) (hm : m < 65536) (h : le 2 n = le 2 m) : n = m := le_inj 2 n m hn hm h
theorem piece_next {log : List UInt8} {a kd : Nat} {s : List UInt8} (h : Piece log a kd s) : nextN a s ≤ log.length := by
  have := h.2.2.2.length_le
  simp only [List.length_append, List.length_replicate, pieceL_len, List.length_drop] at this
  have : padN a + (7 + s.length) ≤ log.length - a := this
  unfold nextN
  omega
theorem app_prefix {α : Type} {p x y l : List α} (h1 : (p ++ x) <+: l) (h2 : (p ++ y) <+: l) (hxy : x.length ≤ y.length) : x <+: y := by
  have h3 : (p ++ x) <+: (p ++ y) := List.prefix_of_prefix_length_le h1 h2 (by simp; omega)
  exact (List.prefix_append_right_inj p).1 h3
theorem piece_det {log : List UInt8} {a kd kd' : Nat} {s s' : List UInt8} (h : Piece log a kd s) (h' : Piece log a kd' s') : kd = kd' ∧ s = s' := by
  have key : ∀ {kd kd' : Nat} {s s' : List UInt8}, Piece log a kd s → Piece log a kd' s' → s.length ≤ s'.length → kd = kd' ∧ s = s' := by
    intro kd kd' s s' h h' hle
    obtain ⟨h1, h2, h3, h4⟩ := h
    obtain ⟨g1, g2, g3, g4⟩ := h'
    have hs := spaceN_le a
    have hp := app_prefix h4 g4 (by simp only [pieceL_len]; omega)
    unfold pieceL at hp
    obtain ⟨t, ht⟩ := hp
    rw [List.append_assoc] at ht
    obtain ⟨e1, e2⟩ := List.append_inj ht (by simp only [sumL_len])
    rw [List.append_assoc] at e2
    obtain ⟨e3, e4⟩ := List.append_inj e2 (by simp only [le_len])
    have hl := le2_len (by omega) (by omega) e3
    rw [List.cons_append, List.cons.injEq] at e4
    have hk : kd = kd' := by
      have := congrArg UInt8.toNat e4.1
      rw [toNat_of (by omega), toNat_of (by omega)] at this
      exact this
    have e5 := List.append_inj (t₁ := t) (t₂ := []) (e4.2.trans (List.append_nil _).symm) hl
    exact ⟨hk, e5.1⟩
  rcases Nat.le_total s.length s'.length with hl | hl
  · exact key h h' hl
  · obtain ⟨e1, e2⟩ := key h' h hl
    exact ⟨e1.symm, e2.symm⟩
theorem piece_same {log log' : List UInt8} {a kd n : Nat} {s : List UInt8} (h : Piece log a kd s) (hn : nextN a s ≤ n) (e : log.take n = log'.take n) : Piece log' a kd s := by
  obtain ⟨h1, h2, h3, h4⟩ := h
  have hx := piece_next ⟨h1, h2, h3, h4⟩
  refine ⟨h1, h2, h3, ?_⟩
  unfold nextN at hn hx
  have e2 : (log.drop a).take (n - a) = (log'.drop a).take (n - a) := by rw [List.take_drop, List.take_drop, show a + (n - a) = n from by omega, e]
  have hp : (List.replicate (padN a) 0 ++ pieceL kd s) <+: (log.drop a).take (n - a) := List.prefix_take_iff.2 ⟨h4, by simp only [List.length_append, List.length_replicate, pieceL_len]; omega⟩
  rw [e2] at hp
  exact hp.trans (List.take_prefix _ _)
inductive Rec (log : List UInt8) : Nat → Bool → List UInt8 → Nat → Prop
  | last (a : Nat) (bg : Bool) (s : List UInt8) : Piece log a (kindN bg true) s → Rec log a bg s (nextN a s)
  | more (a : Nat) (bg : Bool) (s t : List UInt8) (tw : Nat) : Piece log a (kindN bg false) s → Rec log (nextN a s) false t tw → Rec log a bg (s ++ t) tw
theorem rec_next {log : List UInt8} {a : Nat} {bg : Bool} {s : List UInt8} {tw : Nat} (h : Rec log a bg s tw) : a + 7 ≤ tw ∧ tw ≤ log.length := by
  induction h with
  | last a bg s h => exact ⟨by unfold nextN; omega, piece_next h⟩
  | more a bg s t tw h _ ih => exact ⟨by unfold nextN at ih; omega, ih.2⟩
theorem rec_det {log : List UInt8} {a : Nat} {bg : Bool} {s : List UInt8} {tw : Nat} (h : Rec log a bg s tw) : ∀ {s' : List UInt8} {tw' : Nat}, Rec log a bg s' tw' → s = s' ∧ tw = tw' := by
  induction h with
  | last a bg s h =>
    intro s' tw' h'
    cases h' with
    | last _ _ _ h2 => obtain ⟨_, rfl⟩ := piece_det h h2; exact ⟨rfl, rfl⟩
    | more _ _ _ _ _ h2 _ => obtain ⟨e, _⟩ := piece_det h h2; cases bg <;> cases e
  | more a bg s t tw h _ ih =>
    intro s' tw' h'
    cases h' with
    | last _ _ _ h2 => obtain ⟨e, _⟩ := piece_det h h2; cases bg <;> cases e
    | more _ _ _ _ _ h2 h3 => obtain ⟨_, rfl⟩ := piece_det h h2; obtain ⟨rfl, rfl⟩ := ih h3; exact ⟨rfl, rfl⟩
theorem rec_same {log log' : List UInt8} {a n : Nat} {bg : Bool} {s : List UInt8} {tw : Nat} (h : Rec log a bg s tw) (hn : tw ≤ n) (e : log.take n = log'.take n) : Rec log' a bg s tw := by
  induction h with
  | last a bg s h => exact .last a bg s (piece_same h hn e)
  | more a bg s t tw h hr ih => exact .more a bg s t tw (piece_same h (by have := rec_next hr; omega) e) (ih hn)
inductive Recs (log : List UInt8) : Nat → List (List UInt8 × Nat) → Prop
  | done (a : Nat) : (∀ s tw, ¬ Rec log a true s tw) → Recs log a []
  | more (a : Nat) (s : List UInt8) (tw : Nat) (l : List (List UInt8 × Nat)) : Rec log a true s tw → Recs log tw l → Recs log a ((s, tw) :: l)
theorem rec_laid {a : Nat} {rc : List UInt8} {bg : Bool} {out : List UInt8} (h : Lays a rc bg out) : ∀ log : List UInt8, out <+: log.drop a → Rec log a bg rc (a + out.length) := by
  induction h with
  | last a rc bg h =>
    intro log hp
    have e : a + (List.replicate (padN a) 0 ++ pieceL (kindN bg true) rc).length = nextN a rc := by
      unfold nextN
      simp only [List.length_append, List.length_replicate, pieceL_len]
      omega
    rw [e]
    exact .last a bg rc ⟨by cases bg <;> decide, by cases bg <;> decide, h, hp⟩
  | more a rc bg out h _ ih =>
    intro log hp
    have hl : (rc.take (spaceN a)).length = spaceN a := by rw [List.length_take]; omega
    have e1 : nextN a (rc.take (spaceN a)) = a + padN a + (7 + spaceN a) := by unfold nextN; rw [hl]
    rw [← List.append_assoc] at hp
    obtain ⟨t, ht⟩ := hp
    have hp1 : (List.replicate (padN a) 0 ++ pieceL (kindN bg false) (rc.take (spaceN a))) <+: log.drop a := ⟨out ++ t, by rw [← ht]; simp⟩
    have hp2 : out <+: log.drop (a + padN a + (7 + spaceN a)) := by
      refine ⟨t, ?_⟩
      rw [show a + padN a + (7 + spaceN a) = a + (padN a + (7 + spaceN a)) from by omega, ← List.drop_drop, ← ht, List.append_assoc, List.drop_append_of_le_length (by simp [pieceL_len, hl]), List.drop_of_length_le (by simp [pieceL_len, hl])]
      simp
    have hr := ih log hp2
    rw [← e1] at hr
    have e2 : a + (List.replicate (padN a) 0 ++ (pieceL (kindN bg false) (rc.take (spaceN a)) ++ out)).length = nextN a (rc.take (spaceN a)) + out.length := by
      unfold nextN
      simp only [List.length_append, List.length_replicate, pieceL_len]
      omega
    rw [e2]
    have := Rec.more a bg (rc.take (spaceN a)) (rc.drop (spaceN a)) _ ⟨by cases bg <;> decide, by cases bg <;> decide, by rw [hl]; exact Nat.le_refl _, hp1⟩ hr
    rwa [List.take_append_drop] at this
end Go.Proofs.YteilnbnnhocciaaDoor.P

/-! KP4 -/
set_option linter.unusedVariables false
namespace Go.Proofs.YteilnbnnhocciaaDoor.P
open Go.RowKit Go.Proofs.YteilnbnnhocciaaDoorW.PrintWords Go.Proofs.YteilnbnnhocciaaDoorW.PrintLast Go.Proofs.YteilnbnnhocciaaDoorW.PrintMore Go.Proofs.YteilnbnnhocciaaDoorM Go.Proofs.YteilnbnnhocciaaDoor.KF
def unle : List UInt8 → Nat
  | [] => 0
  | c :: r => c.toNat + 256 * unle r
theorem unle_lt : ∀ l : List UInt8, unle l < 256 ^ l.length
  | [] => by simp [unle]
  | c :: r => by
    have h := unle_lt r
    have hc := UInt8.toNat_lt c
    rw [unle, List.length_cons, Nat.pow_succ]
    omega
theorem le_unle : ∀ l : List UInt8, le l.length (unle l) = l
  | [] => rfl
  | c :: r => by
    have hc := UInt8.toNat_lt c
    rw [List.length_cons, le, unle, show (c.toNat + 256 * unle r) / 256 = unle r from by omega, le_unle r]
    congr 1
    rw [← ofNat_mod, show (c.toNat + 256 * unle r) % 256 = c.toNat from by omega, ofNat_toNat]
theorem unle_le : ∀ k n : Nat, n < 256 ^ k → unle (le k n) = n
  | 0, n, h => by simp at h; simp [le, unle]; omega
  | k + 1, n, h => by
    rw [Nat.pow_succ] at h
    rw [le, unle, unle_le k (n / 256) (by omega)]
    simp only [UInt8.toNat_ofNat']
    omega
theorem unle_take (l : List UInt8) (i : Nat) (h : i < l.length) : unle (l.take (i + 1)) = unle (l.take i) + 256 ^ i * (l[i]).toNat := by
  induction l generalizing i with
  | nil => simp at h
  | cons c r ih =>
    cases i with
    | zero => simp [unle]
    | succ i =>
      have := ih i (by simpa using h)
      simp only [List.take_succ_cons, unle, List.getElem_cons_succ, this, Nat.pow_succ]
      rw [Nat.mul_add, Nat.add_assoc, Nat.mul_comm (256 ^ i) 256, Nat.mul_assoc]
theorem or_high (a c i : Nat) (ha : a < 256 ^ i) : a ||| (c * 2 ^ (8 * i)) = a + 256 ^ i * c := by
  have e : (256 : Nat) ^ i = 2 ^ (8 * i) := by rw [Nat.pow_mul]
  rw [e] at ha ⊢
  rw [Nat.or_comm, Nat.mul_comm c, ← Nat.two_pow_add_eq_or_of_lt ha]
  omega
theorem big_l : ∀ (d k i : Nat) (l : List UInt8), i + d = l.length → l.length ≤ 4 → d < k → varint_big.l0 k (B l) (unle (l.take i) : Int) (l.length : Int) (i : Int) = some (unle l : Int)
  | 0, k + 1, i, l, hi, hl, hk => by
    unfold varint_big.l0
    rw [if_neg (by omega), List.take_of_length_le (by omega)]
  | d + 1, k + 1, i, l, hi, hl, hk => by
    have hlt : i < l.length := by omega
    have hc := UInt8.toNat_lt l[i]
    have hu := unle_lt (l.take i)
    rw [List.length_take, Nat.min_eq_left (by omega)] at hu
    have hp : (256 : Nat) ^ i ≤ 16777216 := Nat.le_trans (Nat.pow_le_pow_right (by omega) (show i ≤ 3 from by omega)) (by decide)
    have e : (256 : Nat) ^ i = 2 ^ (8 * i) := by rw [Nat.pow_mul]
    unfold varint_big.l0
    rw [if_pos (by omega), if_pos (by omega), B_size, if_pos (by omega), wrap_in (n := 8 * (i : Int)) (by omega) (by omega), if_pos (by omega), bt_of l i hlt, u64w _ (by omega)]
    have hm : (l[i]).toNat * 256 ^ i ≤ 255 * 16777216 := Nat.mul_le_mul (by omega) hp
    have hs : shl .u64 ((l[i]).toNat : Int) (8 * (i : Int)) = (((l[i]).toNat * 2 ^ (8 * i) : Nat) : Int) := by
      unfold shl
      rw [show (8 * (i : Int)).toNat = 8 * i from by omega, Nat.min_eq_left (show 8 * i ≤ IntKind.u64.bits from by show 8 * i ≤ 64; omega)]
      rw [show ((l[i]).toNat : Int) * 2 ^ (8 * i) = (((l[i]).toNat * 2 ^ (8 * i) : Nat) : Int) from by simp, u64w _ (by rw [← e]; omega)]
    rw [hs, u64_or_nat _ _ (by omega) (by rw [← e]; omega), or_high _ _ _ hu, ← unle_take l i hlt, wrap_in (by omega) (by omega), show (i : Int) + 1 = ((i + 1 : Nat) : Int) from by omega]
    exact big_l d k (i + 1) l (by omega) hl (by omega)
theorem big_f (k : Nat) (l : List UInt8) (hl : l.length ≤ 4) (hk : 4 < k) : varint_big.f k (B l) = some (unle l : Int) := by
  unfold varint_big.f
  rw [B_size]
  exact big_l l.length k 0 l (by omega) hl (by omega)
theorem take_any (l : List UInt8) (a b c : Int) (h0 : c = 0) (ha : 0 ≤ a) (hb : 0 ≤ b) (hs : wrap64 (b + a) ≤ ((B l).size : Int)) (hs1 : a ≤ wrap64 (((B l).size : Int) - b)) (h2 : b ≤ wrap64 (b + a)) :
    varint_Reader_Take.f (B l) b c a = some ((B l).extract b.toNat (wrap64 (b + a)).toNat, B l, wrap64 (b + a), c) := by
  unfold varint_Reader_Take.f varint_Reader_ok.f
  simp only [Option.bind_some]
  rw [if_pos (by simpa using h0), if_neg (by omega), if_neg (by omega), if_pos (by omega), if_pos (by omega), if_pos (by omega)]
theorem take_r (l : List UInt8) (hl : 4 ≤ l.length) (hl2 : l.length ≤ 100) (a b c : Int) (h0 : c = 0) (ha : a = 4) (hb : b = 0) : varint_Reader_Take.f (B l) b c a = some (B (l.take 4), B l, 4, 0) := by
  have w : wrap64 (b + a) = 4 := by rw [wrap_in (by omega) (by omega)]; omega
  have w1 : wrap64 (((B l).size : Int) - b) = (l.length : Int) := by rw [B_size, wrap_in (by omega) (by omega)]; omega
  rw [take_any l a b c h0 (by omega) (by omega) (by rw [w, B_size]; omega) (by rw [w1]; omega) (by omega), w, hb, h0]
  rw [show (0 : Int).toNat = 0 from rfl, show (4 : Int).toNat = 4 from rfl, B_ext _ _ _ (by omega), List.drop_zero]
theorem fixed_r (k : Nat) (l : List UInt8) (hl : 4 ≤ l.length) (hl2 : l.length ≤ 100) (hk : 4 < k) : varint_Reader_Fixed.f k (B l) 0 0 = some ((unle (l.take 4) : Int), B l, 4, 0) := by
  have h4 : (l.take 4).length = 4 := by rw [List.length_take]; omega
  have hu := unle_lt (l.take 4)
  rw [h4] at hu
  unfold varint_Reader_Fixed.f
  rw [take_r l hl hl2 _ _ _ rfl rfl rfl]
  simp only [Option.bind_some]
  rw [big_f k _ (by omega) hk]
  simp only [Option.bind_some]
  rw [show (unle (l.take 4) : Int) % 4294967296 = (unle (l.take 4) : Int) from by omega]
theorem i64_or_nat (a b : Nat) (ha : a < 65536) (hb : b < 65536) : Go.bits .or .i64 (a : Int) (b : Int) = ((a ||| b : Nat) : Int) := by
  have hx : a ||| b < 2 ^ 16 := Nat.or_lt_two_pow (by omega) (by omega)
  show IntKind.i64.wrap ((BitVec.ofInt 64 (a : Int) ||| BitVec.ofInt 64 (b : Int)).toNat : Int) = _
  rw [BitVec.toNat_or, show (BitVec.ofInt 64 (a : Int)).toNat = a from by simp; omega, show (BitVec.ofInt 64 (b : Int)).toNat = b from by simp; omega]
  exact IntWalk.i64_in _ ⟨by omega, by omega⟩
theorem dropWhile_nil {α : Type} (p : α → Bool) : ∀ l : List α, l.dropWhile p = [] ↔ ∀ x ∈ l, p x = true
  | [] => by simp
  | x :: r => by
    by_cases h : p x = true
    · rw [List.dropWhile_cons_of_pos h, dropWhile_nil p r]; simp [h]
    · rw [List.dropWhile_cons_of_neg h]; simp [h]
theorem trim_nil (l : List UInt8) : Lib.trimB l 0 = [] ↔ l = List.replicate l.length 0 := by
  have hl : ∀ m : List UInt8, Lib.trimLeftB m 0 = [] ↔ ∀ c ∈ m, c = 0 := by
    intro m
    unfold Lib.trimLeftB
    rw [dropWhile_nil]
    simp
  have hr : (∀ c ∈ Lib.trimRightB l 0, c = 0) ↔ ∀ c ∈ l, c = 0 := by
    constructor
    · intro h
      unfold Lib.trimRightB at h
      have hd : l.reverse.dropWhile (· == 0) = [] := by
        by_cases hn : l.reverse.dropWhile (· == 0) = []
        · exact hn
        · exfalso
          have h1 := List.head_dropWhile_not (· == 0) hn
          have h2 := h ((l.reverse.dropWhile (· == 0)).head hn) (List.mem_reverse.2 (List.head_mem hn))
          rw [h2] at h1
          simp at h1
      rw [dropWhile_nil] at hd
      intro c hc
      simpa using hd c (List.mem_reverse.2 hc)
    · intro h c hc
      unfold Lib.trimRightB at hc
      exact h c (List.mem_reverse.1 ((List.dropWhile_sublist _).subset (List.mem_reverse.1 hc)))
  unfold Lib.trimB
  rw [hl, hr, List.eq_replicate_iff]
  simp
end Go.Proofs.YteilnbnnhocciaaDoor.P

/-! KP5 -/
set_option linter.unusedVariables false
namespace Go.Proofs.YteilnbnnhocciaaDoor.P
open Go.RowKit Go.Proofs.YteilnbnnhocciaaDoorW.PrintWords Go.Proofs.YteilnbnnhocciaaDoorW.PrintLast Go.Proofs.YteilnbnnhocciaaDoorW.PrintMore Go.Proofs.YteilnbnnhocciaaDoorM Go.Proofs.YteilnbnnhocciaaDoor.KF
theorem seven {l : List UInt8} (h : 7 ≤ l.length) : ∃ (s4 : List UInt8) (b4 b5 b6 : UInt8) (r : List UInt8), s4.length = 4 ∧ l = s4 ++ b4 :: b5 :: b6 :: r := by
  match l, h with
  | a :: b :: c :: d :: b4 :: b5 :: b6 :: r, _ => exact ⟨[a, b, c, d], b4, b5, b6, r, rfl, rfl⟩
theorem le2_bytes (b4 b5 : UInt8) : le 2 (b4.toNat + 256 * b5.toNat) = [b4, b5] := by
  have := le_unle [b4, b5]
  simpa [unle] using this
theorem at_app (p q : List UInt8) (i : Nat) (c : UInt8) (h : i = p.length) : bt (B (p ++ c :: q)) (i : Int) = (c.toNat : Int) := by
  subst h
  rw [bt_of _ _ (by simp)]
  simp
theorem piece_iff {log : List UInt8} {a : Nat} {s4 r : List UInt8} {b4 b5 b6 : UInt8} (hs : s4.length = 4) (hd : log.drop a = List.replicate (padN a) 0 ++ (s4 ++ b4 :: b5 :: b6 :: r)) (kd : Nat) (s : List UInt8) :
    Piece log a kd s ↔ (kd = b6.toNat ∧ 1 ≤ kd ∧ kd ≤ 4 ∧ s.length = b4.toNat + 256 * b5.toNat ∧ s.length ≤ spaceN a ∧ s.length ≤ r.length ∧ s = r.take s.length ∧ sumL kd s = s4) := by
  have hsp := spaceN_le a
  unfold Piece
  rw [hd, List.prefix_append_right_inj, pieceL]
  constructor
  · rintro ⟨h1, h2, h3, h4⟩
    obtain ⟨t, ht⟩ := h4
    rw [List.append_assoc] at ht
    obtain ⟨e1, e2⟩ := List.append_inj ht (by rw [sumL_len, hs])
    rw [le2_ofNat] at e2
    simp only [List.cons_append, List.nil_append, List.cons.injEq] at e2
    obtain ⟨g4, g5, g6, g7⟩ := e2
    have n4 := congrArg UInt8.toNat g4
    have n5 := congrArg UInt8.toNat g5
    have n6 := congrArg UInt8.toNat g6
    simp only [UInt8.toNat_ofNat'] at n4 n5 n6
    refine ⟨by omega, h1, h2, by omega, h3, ?_, ?_, e1⟩
    · rw [← g7]; simp
    · rw [← g7]; simp
  · rintro ⟨h1, h2, h3, h4, h5, h6, h7, h8⟩
    refine ⟨h2, h3, h5, ⟨r.drop s.length, ?_⟩⟩
    have hk : UInt8.ofNat kd = b6 := by rw [h1, ofNat_toNat]
    have hl : le 2 s.length = [b4, b5] := by rw [h4]; exact le2_bytes b4 b5
    have hb : s ++ r.drop s.length = r := by
      conv => lhs; lhs; rw [h7]
      exact List.take_append_drop _ _
    rw [h8, hl, hk]
    simp only [List.append_assoc, List.cons_append, List.nil_append, hb]
theorem no_piece_short {log : List UInt8} {a : Nat} (h : log.length < a + padN a + 7) (kd : Nat) (s : List UInt8) : ¬ Piece log a kd s := by
  intro hp
  have := piece_next hp
  unfold nextN at this
  omega
theorem no_piece_pad {log : List UInt8} {a : Nat} (h : (log.drop a).take (padN a) ≠ List.replicate (padN a) 0) (kd : Nat) (s : List UInt8) : ¬ Piece log a kd s := by
  rintro ⟨_, _, _, t, ht⟩
  apply h
  rw [← ht, List.append_assoc, List.take_append_of_le_length (by simp), List.take_of_length_le (by simp)]
theorem drop_left' {α : Type} {l m : List α} {n : Nat} (h : l.length = n) : (l ++ m).drop n = m := by rw [← h]; exact List.drop_left
theorem take_left' {α : Type} {l m : List α} {n : Nat} (h : l.length = n) : (l ++ m).take n = l := by rw [← h]; exact List.take_left
theorem at_of {log : List UInt8} {a P : Nat} {m : List UInt8} (hd : log.drop a = List.replicate P 0 ++ m) : log.drop (a + P) = m := by
  rw [← List.drop_drop, hd, drop_left' (by simp)]
theorem rest_of {log : List UInt8} {a P : Nat} {s4 r : List UInt8} {b4 b5 b6 : UInt8} (hs : s4.length = 4) (hd : log.drop a = List.replicate P 0 ++ (s4 ++ b4 :: b5 :: b6 :: r)) : log.drop (a + P + 7) = r := by
  rw [← List.drop_drop, at_of hd, show s4 ++ b4 :: b5 :: b6 :: r = (s4 ++ [b4, b5, b6]) ++ r from by simp, drop_left' (by simp [hs])]
theorem head_of {log : List UInt8} {a P : Nat} {s4 r : List UInt8} {b4 b5 b6 : UInt8} (hs : s4.length = 4) (hd : log.drop a = List.replicate P 0 ++ (s4 ++ b4 :: b5 :: b6 :: r)) : (log.take (a + P + 7)).drop (a + P) = s4 ++ [b4, b5, b6] := by
  rw [← List.take_drop, at_of hd, show s4 ++ b4 :: b5 :: b6 :: r = (s4 ++ [b4, b5, b6]) ++ r from by simp, take_left' (by simp [hs])]
theorem j0_true (k : Nat) (x : ByteArray) (a p : Int) : frame_take.j0 (k + 1) x a p true = some (0, B [], 0) := by
  rw [frame_take.j0, if_pos rfl]; rfl
theorem j1_true (k : Nat) (x : ByteArray) (a n s kd : Int) : frame_take.j1 (k + 1) x a n s kd true = some (0, B [], 0) := by
  rw [frame_take.j1, if_pos rfl]; rfl
theorem w_at (a p : Nat) (ha : a ≤ 2000000) (hp : p < 1000) : wrap64 ((a : Int) + (p : Int)) = ((a + p : Nat) : Int) := by rw [wrap_in (by omega) (by omega)]; omega
theorem w_lit (a : Nat) (n : Int) (m : Nat) (ha : a ≤ 2000000) (hn : n = (m : Int)) (hm : m < 1000) : wrap64 ((a : Int) + n) = ((a + m : Nat) : Int) := by rw [hn]; exact w_at a m ha hm
theorem w_min7 (a : Nat) : wrap64 ((roomN (a + padN a) : Int) - 7) = (spaceN a : Int) := (step_fits (rc := [])).symm
theorem bind_some_of {α β : Type} {x : Option α} {f : α → Option β} {a : α} (h : x = some a) : x.bind f = f a := by rw [h]; rfl
theorem j0_step (k : Nat) (x q : ByteArray) (x1 x7 y z y4 y5 y6 : Int) (w1 : wrap64 (x1 + x7) = y) (w7 : wrap64 (y + 7) = z) (w4 : wrap64 (y + 4) = y4) (w5 : wrap64 (y + 5) = y5) (w6 : wrap64 (y + 6) = y6)
    (c1 : 0 ≤ y) (c2 : y ≤ z) (c3 : z ≤ (x.size : Int)) (hq : x.extract y.toNat z.toNat = q) (t : Int) (u : ByteArray) (v v2 : Int) (hfix : varint_Reader_Fixed.f k q 0 0 = some (t, u, v, v2))
    (c4 : 0 ≤ y4) (d4 : y4 < (x.size : Int)) (c5 : 0 ≤ y5) (d5 : y5 < (x.size : Int)) (c6 : 0 ≤ y6) (d6 : y6 < (x.size : Int)) (n kd : Int) (hn : Go.bits .or .i64 (wrap64 (bt x y4)) (wrap64 ((wrap64 (bt x y5)) * 256)) = n) (hk : bt x y6 = kd)
    (room sp : Int) (hr : frame_left.f y = some room) (hs : wrap64 (room - 7) = sp) :
    frame_take.j0 (k + 1) x x1 x7 false = (if kd < 1 then frame_take.j1 k x y n t kd true else if kd > 4 then frame_take.j1 k x y n t kd true else if n > sp then frame_take.j1 k x y n t kd true else frame_take.j1 k x y n t kd (decide (wrap64 (z + n) > (x.size : Int)))) := by
  rw [frame_take.j0]
  simp only [w1, w7, w4, w5, w6, if_pos c1, if_pos c2, if_pos c3, hq, Bool.false_eq_true, if_false]
  refine (bind_some_of (a := (q, 0, 0)) rfl).trans ?_
  refine (bind_some_of hfix).trans ?_
  generalize varint_Reader_Fixed.f k q 0 0 = F at *
  simp only [if_pos c4, if_pos d4, if_pos c5, if_pos d5, if_pos c6, if_pos d6, hn, hk, hr, hs, Option.bind_some]
theorem j1_step (k : Nat) (x q : ByteArray) (x1 x7 x9 x10 y z : Int) (w1 : wrap64 (x1 + 7) = y) (w2 : wrap64 (y + x7) = z) (c1 : 0 ≤ y) (c2 : y ≤ z) (c3 : z ≤ (x.size : Int)) (hq : x.extract y.toNat z.toNat = q) (t : Int) (ht : frame_sum.f x10 q = some t) :
    frame_take.j1 (k + 1) x x1 x7 x9 x10 false = if t = x9 then some (x10, q, z) else some (0, B [], 0) := by
  rw [frame_take.j1]
  simp only [w1, w2, if_pos c1, if_pos c2, if_pos c3, hq, ht, Option.bind_some, Bool.false_eq_true, if_false]
  rfl
theorem take_short (K : Nat) (x : ByteArray) (a p y z : Int) (hp : frame_pad.f a = some p) (w1 : wrap64 (a + p) = y) (w2 : wrap64 (y + 7) = z) (h : z > (x.size : Int)) : frame_take.f (K + 1) x a = some (0, B [], 0) := by
  unfold frame_take.f
  simp only [hp, Option.bind_some, w1, w2, if_pos h]
  exact j0_true _ _ _ _
theorem take_long (K : Nat) (x q : ByteArray) (a p y z : Int) (hp : frame_pad.f a = some p) (w1 : wrap64 (a + p) = y) (w2 : wrap64 (y + 7) = z) (h : ¬ z > (x.size : Int)) (c1 : 0 ≤ a) (c2 : a ≤ y) (c3 : y ≤ (x.size : Int)) (ht : strings_Trim.f (x.extract a.toNat y.toNat) (⟨#[0]⟩ : ByteArray) = some q) :
    frame_take.f K x a = frame_take.j0 K x a p (q.toList != ([] : List UInt8)) := by
  unfold frame_take.f
  simp only [hp, Option.bind_some, w1, w2, if_neg h, if_pos c1, if_pos c2, if_pos c3, ht]
theorem pad_text (log : List UInt8) (a p : Nat) (h : a + p ≤ log.length) (hl : log.length ≤ 1000000) : strings_Trim.f ((B log).extract (a : Int).toNat ((a + p : Nat) : Int).toNat) (⟨#[0]⟩ : ByteArray) = some (B (Lib.trimB ((log.drop a).take p) 0)) := by
  rw [Int.toNat_natCast, Int.toNat_natCast, B_ext _ _ _ h, ← List.take_drop]
  unfold strings_Trim.f
  rw [if_pos ⟨rfl, by rw [B_size]; simp; omega⟩, B_data]
  rfl
theorem or_bytes (b4 b5 : UInt8) : Go.bits .or .i64 (wrap64 (b4.toNat : Int)) (wrap64 (wrap64 (b5.toNat : Int) * 256)) = ((b4.toNat + 256 * b5.toNat : Nat) : Int) := by
  have c4 := UInt8.toNat_lt b4
  have c5 := UInt8.toNat_lt b5
  rw [wrap_in (n := (b5.toNat : Int)) (by omega) (by omega), wrap_in (by omega) (by omega), wrap_in (by omega) (by omega), show (b5.toNat : Int) * 256 = ((b5.toNat * 256 : Nat) : Int) from by omega, i64_or_nat _ _ (by omega) (by omega)]
  have := or_high b4.toNat b5.toNat 1 (by omega)
  rw [show b5.toNat * 2 ^ (8 * 1) = b5.toNat * 256 from by omega, show (256 : Nat) ^ 1 = 256 from rfl] at this
  rw [this]
theorem bytes_at {log : List UInt8} {a P : Nat} {s4 r : List UInt8} {b4 b5 b6 : UInt8} (hs : s4.length = 4) (ha : a ≤ log.length) (hd : log.drop a = List.replicate P 0 ++ (s4 ++ b4 :: b5 :: b6 :: r)) :
    bt (B log) ((a + P + 4 : Nat) : Int) = (b4.toNat : Int) ∧ bt (B log) ((a + P + 5 : Nat) : Int) = (b5.toNat : Int) ∧ bt (B log) ((a + P + 6 : Nat) : Int) = (b6.toNat : Int) := by
  have hlog : log = (log.take a ++ List.replicate P 0 ++ s4) ++ b4 :: b5 :: b6 :: r := by
    conv => lhs; rw [← List.take_append_drop a log, hd]
    simp
  have hl : (log.take a ++ List.replicate P 0 ++ s4).length = a + P + 4 := by simp [hs]; omega
  generalize log.take a ++ List.replicate P 0 ++ s4 = w at hlog hl
  subst hlog
  refine ⟨at_app _ _ _ _ hl.symm, ?_, ?_⟩
  · rw [show w ++ b4 :: b5 :: b6 :: r = (w ++ [b4]) ++ b5 :: b6 :: r from by simp]
    exact at_app _ _ _ _ (by simp [hl])
  · rw [show w ++ b4 :: b5 :: b6 :: r = (w ++ [b4, b5]) ++ b6 :: r from by simp]
    exact at_app _ _ _ _ (by simp [hl])
set_option maxHeartbeats 1000000 in
theorem take_head (log : List UInt8) (a : Nat) (hl : log.length ≤ 1000000) (ha : a ≤ log.length) (K : Nat) (hK : 4 < K) {s4 r : List UInt8} {b4 b5 b6 : UInt8} (hs4 : s4.length = 4) (hd : log.drop a = List.replicate (padN a) 0 ++ (s4 ++ b4 :: b5 :: b6 :: r)) :
    frame_take.f (K + 2) (B log) (a : Int) = (if (b6.toNat : Int) < 1 then some (0, B [], 0) else if (b6.toNat : Int) > 4 then some (0, B [], 0) else if ((b4.toNat + 256 * b5.toNat : Nat) : Int) > (spaceN a : Int) then some (0, B [], 0) else
      if r.length < b4.toNat + 256 * b5.toNat then some (0, B [], 0) else if sumL b6.toNat (r.take (b4.toNat + 256 * b5.toNat)) = s4 then some ((b6.toNat : Int), B (r.take (b4.toNat + 256 * b5.toNat)), ((a + padN a + 7 + (b4.toNat + 256 * b5.toNat) : Nat) : Int)) else some (0, B [], 0)) := by
  have hp := padN_lt a
  have hpad := pad_f a (by omega)
  have hlen : log.length = a + padN a + 7 + r.length := by
    have := congrArg List.length hd
    simp only [List.length_drop, List.length_append, List.length_replicate, List.length_cons, hs4] at this
    omega
  have c4 := UInt8.toNat_lt b4
  have c5 := UInt8.toNat_lt b5
  have c6 := UInt8.toNat_lt b6
  have hz : (log.drop a).take (padN a) = List.replicate (padN a) 0 := by rw [hd, take_left' (by simp)]
  have ht := pad_text log a (padN a) (by omega) hl
  rw [hz, (trim_nil _).2 (by simp)] at ht
  have hq : (B log).extract ((a + padN a : Nat) : Int).toNat ((a + padN a + 7 : Nat) : Int).toNat = B (s4 ++ [b4, b5, b6]) := by
    rw [Int.toNat_natCast, Int.toNat_natCast, B_ext _ _ _ (by omega), head_of hs4 hd]
  have hfix := fixed_r (K + 1) (s4 ++ [b4, b5, b6]) (by simp [hs4]) (by simp [hs4]) (by omega)
  rw [take_left' hs4] at hfix
  have q1 : (0 : Int) ≤ ((a + padN a : Nat) : Int) := by omega
  have q2 : ((a + padN a : Nat) : Int) ≤ ((a + padN a + 7 : Nat) : Int) := by omega
  have q3 : ((a + padN a + 7 : Nat) : Int) ≤ ((B log).size : Int) := by rw [B_size]; omega
  have q4 : (0 : Int) ≤ ((a + padN a + 4 : Nat) : Int) := by omega
  have q5 : ((a + padN a + 4 : Nat) : Int) < ((B log).size : Int) := by rw [B_size]; omega
  have q6 : (0 : Int) ≤ ((a + padN a + 5 : Nat) : Int) := by omega
  have q7 : ((a + padN a + 5 : Nat) : Int) < ((B log).size : Int) := by rw [B_size]; omega
  have q8 : (0 : Int) ≤ ((a + padN a + 6 : Nat) : Int) := by omega
  have q9 : ((a + padN a + 6 : Nat) : Int) < ((B log).size : Int) := by rw [B_size]; omega
  have qr := left_f (a + padN a) (by omega)
  have hb1 : a ≤ 2000000 := by omega
  have hb2 : padN a < 1000 := by omega
  have hb3 : a + padN a ≤ 2000000 := by omega
  have k1 : ¬ ((a + padN a + 7 : Nat) : Int) > ((B log).size : Int) := by rw [B_size]; omega
  have k2 : (0 : Int) ≤ (a : Int) := by omega
  have k3 : (a : Int) ≤ ((a + padN a : Nat) : Int) := by omega
  have k4 : ((a + padN a : Nat) : Int) ≤ ((B log).size : Int) := by rw [B_size]; omega
  have w1 := w_at a (padN a) hb1 hb2
  have w7 := w_lit (a + padN a) 7 7 hb3 rfl (by decide)
  have w4 := w_lit (a + padN a) 4 4 hb3 rfl (by decide)
  have w5 := w_lit (a + padN a) 5 5 hb3 rfl (by decide)
  have w6 := w_lit (a + padN a) 6 6 hb3 rfl (by decide)
  rw [take_long (K + 2) (B log) _ a (padN a) _ _ hpad w1 w7 k1 k2 k3 k4 ht, show ((B []).toList != ([] : List UInt8)) = false from by rw [tl, B_data]; rfl]
  rw [j0_step (K + 1) (B log) _ a (padN a) _ _ _ _ _ w1 w7 w4 w5 w6 q1 q2 q3 hq _ _ _ _ hfix q4 q5 q6 q7 q8 q9 ((b4.toNat + 256 * b5.toNat : Nat) : Int) (b6.toNat : Int) (by rw [(bytes_at hs4 ha hd).1, (bytes_at hs4 ha hd).2.1]; exact or_bytes b4 b5) (bytes_at hs4 ha hd).2.2 _ _ qr (w_min7 a)]
  simp only [j1_true]
  clear w1 w4 w5 w6
  have W7 := Hush.mk w7
  clear w7
  generalize hN : b4.toNat + 256 * b5.toNat = N
  have hsp := spaceN_le a
  by_cases g1 : (b6.toNat : Int) < 1
  · simp only [if_pos g1]
  simp only [if_neg g1]
  by_cases g2 : (b6.toNat : Int) > 4
  · simp only [if_pos g2]
  simp only [if_neg g2]
  by_cases g3 : (N : Int) > (spaceN a : Int)
  · simp only [if_pos g3]
  simp only [if_neg g3]
  have hb4 : a + padN a + 7 ≤ 2000000 := by omega
  have hb5 : N < 1000 := by omega
  have wz := Hush.mk (w_at (a + padN a + 7) N hb4 hb5)
  have hdec : decide (wrap64 (((a + padN a + 7 : Nat) : Int) + (N : Int)) > ((B log).size : Int)) = decide (r.length < N) := by
    rw [wz.out, B_size, decide_eq_decide]
    omega
  rw [hdec]
  by_cases g4 : r.length < N
  · rw [decide_eq_true g4, if_pos g4]
    exact j1_true _ _ _ _ _ _
  rw [decide_eq_false g4, if_neg g4]
  have hbody : (B log).extract ((a + padN a + 7 : Nat) : Int).toNat ((a + padN a + 7 + N : Nat) : Int).toNat = B (r.take N) := by
    rw [Int.toNat_natCast, Int.toNat_natCast, B_ext _ _ _ (by omega), ← List.take_drop, rest_of hs4 hd]
  have hsum := sum_f b6.toNat (by omega) (r.take N) (by simp; omega)
  have u1 : (0 : Int) ≤ ((a + padN a + 7 : Nat) : Int) := by omega
  have u2 : ((a + padN a + 7 : Nat) : Int) ≤ ((a + padN a + 7 + N : Nat) : Int) := by omega
  have u3 : ((a + padN a + 7 + N : Nat) : Int) ≤ ((B log).size : Int) := by rw [B_size]; omega
  rw [j1_step K (B log) _ _ _ _ _ _ _ W7.out wz.out u1 u2 u3 hbody _ hsum]
  have hm := maskN_lt (crcL (UInt8.ofNat b6.toNat :: r.take N))
  by_cases hq : sumL b6.toNat (r.take N) = s4
  · rw [if_pos hq, if_pos]
    rw [← hq]
    unfold sumL
    rw [unle_le 4 _ (by omega)]
  · rw [if_neg hq, if_neg]
    intro e
    apply hq
    have h4 := le_unle s4
    rw [hs4] at h4
    rw [← h4, sumL]
    exact congrArg (le 4) (Int.ofNat.inj e)
theorem take_k (log : List UInt8) (a : Nat) (hl : log.length ≤ 1000000) (ha : a ≤ log.length) (K : Nat) (hK : 4 < K) :
    (∃ kd s, Piece log a kd s ∧ frame_take.f (K + 2) (B log) (a : Int) = some ((kd : Int), B s, (nextN a s : Int))) ∨
    ((∀ kd s, ¬ Piece log a kd s) ∧ frame_take.f (K + 2) (B log) (a : Int) = some (0, B [], 0)) := by
  have hp := padN_lt a
  have hpad := pad_f a (by omega)
  have hb1 : a ≤ 2000000 := by omega
  have hb2 : padN a < 1000 := by omega
  have hb3 : a + padN a ≤ 2000000 := by omega
  have w1 := Hush.mk (w_at a (padN a) hb1 hb2)
  have w7 := Hush.mk (w_lit (a + padN a) 7 7 hb3 rfl (by decide))
  by_cases h1 : log.length < a + padN a + 7
  · exact .inr ⟨no_piece_short h1, take_short (K + 1) (B log) a _ _ _ hpad w1.out w7.out (by rw [B_size]; omega)⟩
  by_cases h2 : (log.drop a).take (padN a) = List.replicate (padN a) 0
  · have hdl : 7 ≤ ((log.drop a).drop (padN a)).length := by simp only [List.length_drop]; omega
    obtain ⟨s4, b4, b5, b6, r, hs4, he⟩ := seven hdl
    have hd : log.drop a = List.replicate (padN a) 0 ++ (s4 ++ b4 :: b5 :: b6 :: r) := by
      rw [← he, ← h2, List.take_append_drop]
    have hpi := piece_iff hs4 hd
    rw [take_head log a hl ha K hK hs4 hd]
    generalize b4.toNat + 256 * b5.toNat = N at hpi ⊢
    by_cases g1 : (b6.toNat : Int) < 1
    · refine .inr ⟨fun kd s h => ?_, by rw [if_pos g1]⟩
      have := (hpi kd s).1 h; omega
    rw [if_neg g1]
    by_cases g2 : (b6.toNat : Int) > 4
    · refine .inr ⟨fun kd s h => ?_, by rw [if_pos g2]⟩
      have := (hpi kd s).1 h; omega
    rw [if_neg g2]
    by_cases g3 : (N : Int) > (spaceN a : Int)
    · refine .inr ⟨fun kd s h => ?_, by rw [if_pos g3]⟩
      have := (hpi kd s).1 h; omega
    rw [if_neg g3]
    by_cases g4 : r.length < N
    · refine .inr ⟨fun kd s h => ?_, by rw [if_pos g4]⟩
      have := (hpi kd s).1 h; omega
    rw [if_neg g4]
    have hT : (r.take N).length = N := by rw [List.length_take]; omega
    by_cases hq : sumL b6.toNat (r.take N) = s4
    · refine .inl ⟨b6.toNat, r.take N, (hpi _ _).2 ⟨rfl, by omega, by omega, hT, by omega, by omega, by rw [hT], hq⟩, ?_⟩
      rw [if_pos hq]
      unfold nextN
      rw [hT, show a + padN a + (7 + N) = a + padN a + 7 + N from by omega]
    · refine .inr ⟨fun kd s h => ?_, by rw [if_neg hq]⟩
      obtain ⟨k1, k2, k3, k4, k5, k6, k7, k8⟩ := (hpi kd s).1 h
      rw [k4] at k7
      rw [k1, k7] at k8
      exact hq k8
  · refine .inr ⟨no_piece_pad h2, ?_⟩
    rw [take_long (K + 2) (B log) _ a (padN a) _ _ hpad w1.out w7.out (by rw [B_size]; omega) (by omega) (by omega) (by rw [B_size]; omega) (pad_text log a (padN a) (by omega) hl)]
    have hne : Lib.trimB ((log.drop a).take (padN a)) 0 ≠ [] := by
      intro e
      apply h2
      rw [(trim_nil _).1 e]
      congr 1
      rw [List.length_take, List.length_drop]
      omega
    rw [show ((B (Lib.trimB ((log.drop a).take (padN a)) 0)).toList != ([] : List UInt8)) = true from by rw [tl, B_data]; simpa using hne]
    exact j0_true _ _ _ _
theorem take_f (log : List UInt8) (a : Nat) (hl : log.length ≤ 1000000) (ha : a ≤ log.length) :
    (∃ kd s, Piece log a kd s ∧ frame_take.f 20 (B log) (a : Int) = some ((kd : Int), B s, (nextN a s : Int))) ∨
    ((∀ kd s, ¬ Piece log a kd s) ∧ frame_take.f 20 (B log) (a : Int) = some (0, B [], 0)) := take_k log a hl ha 18 (by decide)
end Go.Proofs.YteilnbnnhocciaaDoor.P

/-! KP6 -/
set_option linter.unusedVariables false
namespace Go.Proofs.YteilnbnnhocciaaDoor.P
open Go.RowKit Go.Proofs.YteilnbnnhocciaaDoorW.PrintWords Go.Proofs.YteilnbnnhocciaaDoorW.PrintLast Go.Proofs.YteilnbnnhocciaaDoorW.PrintMore Go.Proofs.YteilnbnnhocciaaDoorM Go.Proofs.YteilnbnnhocciaaDoor.KF
theorem bad_kind (bg en : Bool) : frame_record.bad (kindN bg en : Int) bg = false := by cases bg <;> cases en <;> rfl
theorem bad_of {kd : Nat} {bg : Bool} (h1 : 1 ≤ kd) (h4 : kd ≤ 4) (h : ∀ en, kd ≠ kindN bg en) : frame_record.bad (kd : Int) bg = true := by
  have ht := h true
  have hf := h false
  obtain rfl | rfl | rfl | rfl : kd = 1 ∨ kd = 2 ∨ kd = 3 ∨ kd = 4 := by omega
  all_goals (cases bg <;> first | rfl | exact absurd rfl ht | exact absurd rfl hf)
theorem rec_p {log : List UInt8} (hl : log.length ≤ 1000000) {a : Nat} {bg : Bool} {s : List UInt8} {tw : Nat} (h : Rec log a bg s tw) :
    ∃ K, ∀ k, K ≤ k → ∀ acc : List UInt8, acc.length ≤ a → frame_record.l k (B log) (a : Int) bg (B acc) = some (B (acc ++ s), (tw : Int)) := by
  induction h with
  | last a bg s h =>
    have hn := piece_next h
    have hs : s.length ≤ 505 := Nat.le_trans h.2.2.1 (spaceN_le a)
    have hx : nextN a s = a + padN a + (7 + s.length) := rfl
    refine ⟨1, fun k hk acc hacc => ?_⟩
    obtain ⟨k, rfl⟩ : ∃ k', k = k' + 1 := ⟨k - 1, by omega⟩
    rcases take_f log a hl (by omega) with ⟨kd, s', hp, ht⟩ | ⟨hno, _⟩
    · obtain ⟨rfl, rfl⟩ := piece_det h hp
      rw [frame_record.l, ht]
      simp only [Option.bind_some]
      rw [bad_kind, if_neg (by decide), B_size, B_size, if_pos (by omega), if_neg (by cases bg <;> decide), B_app]
    · exact absurd h (hno _ _)
  | more a bg s t tw h hr ih =>
    obtain ⟨K, hK⟩ := ih
    have hn := piece_next h
    have hs : s.length ≤ 505 := Nat.le_trans h.2.2.1 (spaceN_le a)
    have hx : nextN a s = a + padN a + (7 + s.length) := rfl
    refine ⟨K + 1, fun k hk acc hacc => ?_⟩
    obtain ⟨k, rfl⟩ : ∃ k', k = k' + 1 := ⟨k - 1, by omega⟩
    rcases take_f log a hl (by omega) with ⟨kd, s', hp, ht⟩ | ⟨hno, _⟩
    · obtain ⟨rfl, rfl⟩ := piece_det h hp
      rw [frame_record.l, ht]
      simp only [Option.bind_some]
      rw [bad_kind, if_neg (by decide), B_size, B_size, if_pos (by omega), if_pos (by cases bg <;> decide), B_app, hK k (by omega) _ (by simp; omega), List.append_assoc]
    · exact absurd h (hno _ _)
theorem norec_p {log : List UInt8} (hl : log.length ≤ 1000000) : ∀ (m a : Nat) (bg : Bool), log.length - a ≤ m → a ≤ log.length → (∀ s tw, ¬ Rec log a bg s tw) →
    ∃ K, ∀ k, K ≤ k → ∀ acc : List UInt8, acc.length ≤ a → frame_record.l k (B log) (a : Int) bg (B acc) = some (B [], 0)
  | m, a, bg, hm, ha, h => by
    rcases take_f log a hl ha with ⟨kd, s, hp, ht⟩ | ⟨hno, ht⟩
    · have hn := piece_next hp
      have hs : s.length ≤ 505 := Nat.le_trans hp.2.2.1 (spaceN_le a)
      have hx : nextN a s = a + padN a + (7 + s.length) := rfl
      by_cases hk : ∀ en, kd ≠ kindN bg en
      · refine ⟨1, fun k hk1 acc hacc => ?_⟩
        obtain ⟨k, rfl⟩ : ∃ k', k = k' + 1 := ⟨k - 1, by omega⟩
        rw [frame_record.l, ht]
        simp only [Option.bind_some]
        rw [bad_of hp.1 hp.2.1 hk, if_pos rfl]
        rfl
      · have hk2 : ∃ en, kd = kindN bg en := Classical.byContradiction fun hx => hk fun en he => hx ⟨en, he⟩
        obtain ⟨en, rfl⟩ := hk2
        cases en with
        | true => exact absurd (Rec.last a bg s hp) (h _ _)
        | false =>
          cases m with
          | zero => omega
          | succ m =>
            obtain ⟨K, hK⟩ := norec_p hl m (nextN a s) false (by omega) hn (fun t tw hr => h _ _ (.more a bg s t tw hp hr))
            refine ⟨K + 1, fun k hk1 acc hacc => ?_⟩
            obtain ⟨k, rfl⟩ : ∃ k', k = k' + 1 := ⟨k - 1, by omega⟩
            rw [frame_record.l, ht]
            simp only [Option.bind_some]
            rw [bad_kind, if_neg (by decide), B_size, B_size, if_pos (by omega), if_pos (by cases bg <;> decide), B_app, hK k (by omega) _ (by simp; omega)]
    · refine ⟨1, fun k hk1 acc hacc => ?_⟩
      obtain ⟨k, rfl⟩ : ∃ k', k = k' + 1 := ⟨k - 1, by omega⟩
      rw [frame_record.l, ht]
      simp only [Option.bind_some]
      rw [show frame_record.bad 0 bg = true from rfl, if_pos rfl]
      rfl
def asB (l : List (List UInt8 × Nat)) : List (ByteArray × Int) := l.map fun x => (B x.1, (x.2 : Int))
theorem recs_p {log : List UInt8} (hl : log.length ≤ 1000000) {a : Nat} {l : List (List UInt8 × Nat)} (h : Recs log a l) : a ≤ log.length →
    ∃ J K, ∀ k, K ≤ k → recs k (B log) J (a : Int) = some (asB l) := by
  induction h with
  | done a h =>
    intro ha
    obtain ⟨K, hK⟩ := norec_p hl _ a true (Nat.le_refl _) ha h
    refine ⟨1, K, fun k hk => ?_⟩
    have := hK k hk [] (by simp)
    rw [recs, frame_record.f, show (⟨#[]⟩ : ByteArray) = B [] from rfl, this]
    simp only [Option.bind_some]
    rw [if_pos trivial]
    rfl
  | more a s tw l h hr ih =>
    intro ha
    have hn := rec_next h
    obtain ⟨J, K, hJ⟩ := ih hn.2
    obtain ⟨K2, hK2⟩ := rec_p hl h
    refine ⟨J + 1, K + K2, fun k hk => ?_⟩
    have := hK2 k (by omega) [] (by simp)
    rw [recs, frame_record.f, show (⟨#[]⟩ : ByteArray) = B [] from rfl, this]
    simp only [Option.bind_some]
    rw [if_neg (by omega), hJ k (by omega)]
    rfl
inductive Path (log : List UInt8) : Nat → List (List UInt8 × Nat) → Nat → Prop
  | nil (a : Nat) : Path log a [] a
  | more (a : Nat) (s : List UInt8) (tw : Nat) (l : List (List UInt8 × Nat)) (b : Nat) : Rec log a true s tw → Path log tw l b → Path log a ((s, tw) :: l) b
theorem path_snoc {log : List UInt8} {a b tw : Nat} {l : List (List UInt8 × Nat)} {s : List UInt8} (h : Path log a l b) (hr : Rec log b true s tw) : Path log a (l ++ [(s, tw)]) tw := by
  induction h with
  | nil a => exact .more a s tw [] tw hr (.nil tw)
  | more a s' tw' l b h _ ih => exact .more a s' tw' _ _ h (ih hr)
theorem path_le {log : List UInt8} {a b : Nat} {l : List (List UInt8 × Nat)} (h : Path log a l b) : a ≤ b ∧ ∀ x ∈ l, a < x.2 := by
  induction h with
  | nil a => exact ⟨Nat.le_refl _, by simp⟩
  | more a s tw l b h _ ih =>
    have := rec_next h
    refine ⟨by omega, fun x hx => ?_⟩
    rcases List.mem_cons.1 hx with rfl | hx
    · show a < tw
      omega
    · have := ih.2 x hx
      omega
theorem path_done {log : List UInt8} {a b : Nat} {l : List (List UInt8 × Nat)} (h : Path log a l b) (hd : ∀ s tw, ¬ Rec log b true s tw) : Recs log a l := by
  induction h with
  | nil a => exact .done a hd
  | more a s tw l b h _ ih => exact .more a s tw l h (ih hd)
theorem path_same {log log' : List UInt8} {a b n : Nat} {l : List (List UInt8 × Nat)} (h : Path log a l b) (hb : b ≤ n) (e : log.take n = log'.take n) : Path log' a l b := by
  induction h with
  | nil a => exact .nil a
  | more a s tw l b h hp ih => exact .more a s tw l b (rec_same h (Nat.le_trans (path_le hp).1 hb) e) (ih hb)
theorem rec_end {log : List UInt8} {bg : Bool} (s : List UInt8) (tw : Nat) : ¬ Rec log log.length bg s tw := by
  intro h
  have := rec_next h
  omega
theorem path_cut {log : List UInt8} {a b : Nat} {l : List (List UInt8 × Nat)} (h : Path log a l b) : b = log.length → ∀ k, a ≤ k → k ≤ log.length →
    ∃ m, m <+: l ∧ Recs (log.take k) a m ∧ (l.map (·.2)).countP (· ≤ k) = m.length := by
  induction h with
  | nil a =>
    rintro rfl k hk hk2
    obtain rfl : k = log.length := by omega
    rw [List.take_of_length_le (Nat.le_refl _)]
    exact ⟨[], List.prefix_refl _, .done _ (fun s tw => rec_end s tw), rfl⟩
  | more a s tw l b h hp ih =>
    intro hb k hk hk2
    by_cases ht : tw ≤ k
    · obtain ⟨m, hm, hr, hc⟩ := ih hb k ht hk2
      refine ⟨(s, tw) :: m, List.cons_prefix_cons.2 ⟨rfl, hm⟩, .more a s tw m (rec_same h ht (by rw [List.take_take, Nat.min_self])) hr, ?_⟩
      rw [List.map_cons, List.countP_cons_of_pos (by simpa using ht), hc]
      rfl
    · refine ⟨[], List.nil_prefix, .done a (fun s' tw' h' => ?_), ?_⟩
      · have hn := rec_next h'
        rw [List.length_take] at hn
        have h2 := rec_same (log' := log) h' (n := k) (by omega) (by rw [List.take_take, Nat.min_self])
        have := (rec_det h h2).2
        omega
      · rw [List.length_nil, List.countP_eq_zero]
        intro x hx
        rw [List.mem_map] at hx
        obtain ⟨y, hy, rfl⟩ := hx
        rcases List.mem_cons.1 hy with rfl | hy
        · simpa using ht
        · have := (path_le hp).2 y hy
          simp
          omega
inductive Laid : List (List UInt8) → List UInt8 → List Nat → Prop
  | nil : Laid [] [] []
  | snoc (l : List (List UInt8)) (log : List UInt8) (ends : List Nat) (s out : List UInt8) : Laid l log ends → Lays log.length s true out → Laid (l ++ [s]) (log ++ out) (ends ++ [log.length + out.length])
theorem laid_len {l : List (List UInt8)} {log : List UInt8} {ends : List Nat} (h : Laid l log ends) : l.length = ends.length := by
  induction h with
  | nil => rfl
  | snoc l log ends s out _ _ ih => simp [ih]
theorem laid_path {l : List (List UInt8)} {log : List UInt8} {ends : List Nat} (h : Laid l log ends) : ∀ rest : List UInt8, Path (log ++ rest) 0 (l.zip ends) log.length := by
  induction h with
  | nil => intro rest; exact .nil 0
  | snoc l log ends s out hl ho ih =>
    intro rest
    rw [List.append_assoc, List.zip_append (laid_len hl), List.length_append]
    refine path_snoc (ih (out ++ rest)) (rec_laid ho _ ?_)
    rw [List.drop_append_of_le_length (Nat.le_refl _), List.drop_of_length_le (Nat.le_refl _), List.nil_append]
    exact List.prefix_append _ _
end Go.Proofs.YteilnbnnhocciaaDoor.P

/-! KP7 -/
set_option linter.unusedVariables false
namespace Go.Proofs.YteilnbnnhocciaaDoor.P
open Go.RowKit Go.Proofs.YteilnbnnhocciaaDoorW.PrintWords Go.Proofs.YteilnbnnhocciaaDoorW.PrintLast Go.Proofs.YteilnbnnhocciaaDoorW.PrintMore Go.Proofs.YteilnbnnhocciaaDoorM Go.Proofs.YteilnbnnhocciaaDoor.KF
theorem sum_set (kd : Nat) (s : List UInt8) (j : Nat) (d : UInt8) (hj : j < s.length) (h : sumL kd (s.set j d) = sumL kd s) : s[j]? = some d := by
  have e1 : s.set j d = s.take j ++ d :: s.drop (j + 1) := by rw [List.set_eq_take_append_cons_drop, if_pos hj]
  have e2 : s = s.take j ++ s[j] :: s.drop (j + 1) := by
    conv => lhs; rw [← List.take_append_drop j s, List.drop_eq_getElem_cons hj]
  rw [e1] at h
  conv at h => rhs; rw [e2]
  have := sum_turned kd _ _ _ _ h
  rw [List.getElem?_eq_getElem hj, this]
theorem no_piece_turned {log : List UInt8} {a kd k : Nat} {s r : List UInt8} {d : UInt8} (h1 : 1 ≤ kd) (h4 : kd ≤ 4) (hs : s.length ≤ spaceN a) (hd : log.drop a = List.replicate (padN a) 0 ++ (pieceL kd s ++ r))
    (hk : a + padN a ≤ k) (hk2 : k < nextN a s) (hne : log[k]? ≠ some d) (h3 : k ≠ a + padN a + 4 ∧ k ≠ a + padN a + 5 ∧ k ≠ a + padN a + 6) (kd' : Nat) (s' : List UInt8) : ¬ Piece (log.set k d) a kd' s' := by
  have hsp := spaceN_le a
  unfold nextN at hk2
  obtain ⟨i, rfl⟩ : ∃ i, k = a + padN a + i := ⟨k - (a + padN a), by omega⟩
  have hdd : (log.set (a + padN a + i) d).drop a = List.replicate (padN a) 0 ++ ((pieceL kd s ++ r).set i d) := by
    rw [List.drop_set, if_neg (by omega), hd, List.set_append_right _ _ (by simp; omega)]
    congr 2
    simp
    omega
  have hget : log[a + padN a + i]? = (pieceL kd s ++ r)[i]? := by
    have : (log.drop a)[padN a + i]? = log[a + (padN a + i)]? := List.getElem?_drop
    rw [show a + padN a + i = a + (padN a + i) from by omega, ← this, hd, List.getElem?_append_right (by simp)]
    simp
  rw [hget] at hne
  have h4s := sumL_len kd s
  have split : pieceL kd s ++ r = sumL kd s ++ (UInt8.ofNat s.length :: UInt8.ofNat (s.length / 256) :: UInt8.ofNat kd :: (s ++ r)) := by
    unfold pieceL
    rw [le2_ofNat]
    simp
  rw [split] at hdd hne
  have nb4 : (UInt8.ofNat s.length).toNat + 256 * (UInt8.ofNat (s.length / 256)).toNat = s.length := by
    simp only [UInt8.toNat_ofNat']
    omega
  have nk : (UInt8.ofNat kd).toNat = kd := toNat_of (by omega)
  by_cases hi : i < 4
  · rw [List.set_append_left _ _ (by omega)] at hdd
    rw [List.getElem?_append_left (by omega)] at hne
    intro hp
    obtain ⟨e1, e2, e3, e4, e5, e6, e7, e8⟩ := (piece_iff (by rw [List.length_set, h4s]) hdd kd' s').1 hp
    rw [nb4] at e4
    rw [nk] at e1
    subst e1
    rw [e4, List.take_append_of_le_length (Nat.le_refl _), List.take_length] at e7
    subst e7
    apply hne
    rw [e8, List.getElem?_set_self (by omega)]
  · rw [List.set_append_right _ _ (by omega), h4s] at hdd
    rw [List.getElem?_append_right (by omega), h4s] at hne
    obtain ⟨j, rfl⟩ : ∃ j, i = j + 7 := ⟨i - 7, by omega⟩
    rw [show j + 7 - 4 = j + 3 from by omega] at hdd hne
    simp only [List.set_cons_succ, List.getElem?_cons_succ] at hdd hne
    have hj : j < s.length := by omega
    rw [List.set_append_left _ _ hj] at hdd
    rw [List.getElem?_append_left hj] at hne
    intro hp
    obtain ⟨e1, e2, e3, e4, e5, e6, e7, e8⟩ := (piece_iff h4s hdd kd' s').1 hp
    rw [nb4] at e4
    rw [nk] at e1
    subst e1
    rw [e4, List.take_append_of_le_length (by simp), List.take_of_length_le (by simp)] at e7
    subst e7
    exact hne (sum_set _ s j d hj e8)
inductive Heads : Nat → List UInt8 → List Nat → Prop
  | last (a : Nat) (rc : List UInt8) : rc.length ≤ spaceN a → Heads a rc [a + padN a]
  | more (a : Nat) (rc : List UInt8) (hs : List Nat) : spaceN a < rc.length → Heads (a + padN a + (7 + spaceN a)) (rc.drop (spaceN a)) hs → Heads a rc ((a + padN a) :: hs)
theorem heads_ex {a : Nat} {rc : List UInt8} {bg : Bool} {out : List UInt8} (h : Lays a rc bg out) : ∃ hs, Heads a rc hs := by
  induction h with
  | last a rc bg h => exact ⟨_, .last a rc h⟩
  | more a rc bg out h _ ih => obtain ⟨hs, ih⟩ := ih; exact ⟨_, .more a rc hs h ih⟩
theorem heads_first {a : Nat} {rc : List UInt8} {hs : List Nat} (h : Heads a rc hs) : ∃ r, hs = (a + padN a) :: r := by
  cases h with
  | last _ _ h => exact ⟨_, rfl⟩
  | more _ _ _ h h2 => exact ⟨_, rfl⟩
theorem full_next (a : Nat) : padN (a + padN a + (7 + spaceN a)) = 0 := by
  have hr := room_padded a
  have e : (a + padN a + (7 + spaceN a)) % 512 = 0 := by unfold spaceN; unfold roomN at hr ⊢; omega
  generalize a + padN a + (7 + spaceN a) = b at e ⊢
  unfold padN roomN
  rw [e]
  rfl
theorem kindN_ge (bg en : Bool) : 1 ≤ kindN bg en := by cases bg <;> cases en <;> decide
theorem kindN_le (bg en : Bool) : kindN bg en ≤ 4 := by cases bg <;> cases en <;> decide
theorem lays_len {a : Nat} {rc : List UInt8} {bg : Bool} {out : List UInt8} (h : Lays a rc bg out) : padN a + 7 ≤ out.length := by
  cases h <;> (simp only [List.length_append, List.length_replicate, pieceL_len]; omega)
theorem no_rec_turned {a : Nat} {rc : List UInt8} {bg : Bool} {out : List UInt8} (h : Lays a rc bg out) : ∀ (log : List UInt8) (hs : List Nat) (k : Nat) (d : UInt8), log.drop a = out → Heads a rc hs → a + padN a ≤ k → k < a + out.length →
    log[k]? ≠ some d → (∀ p ∈ hs, k ≠ p + 4 ∧ k ≠ p + 5 ∧ k ≠ p + 6) → ∀ s tw, ¬ Rec (log.set k d) a bg s tw := by
  induction h with
  | last a rc bg h =>
    intro log hs k d hd hh hk hk2 hne h3 s tw hr
    obtain ⟨r, rfl⟩ := heads_first hh
    have hno := no_piece_turned (r := []) (kindN_ge _ _) (kindN_le _ _) h (by rw [List.append_nil]; exact hd) hk (by unfold nextN; simp only [List.length_append, List.length_replicate, pieceL_len] at hk2; omega) hne (h3 _ (List.mem_cons_self ..))
    cases hr with
    | last _ _ _ hp => exact hno _ _ hp
    | more _ _ _ _ _ hp _ => exact hno _ _ hp
  | more a rc bg out h ho ih =>
    intro log hs k d hd hh hk hk2 hne h3 s tw hr
    have hT : (rc.take (spaceN a)).length = spaceN a := by rw [List.length_take]; omega
    have hnx : nextN a (rc.take (spaceN a)) = a + padN a + (7 + spaceN a) := by unfold nextN; rw [hT]
    cases hh with
    | last _ _ h' => omega
    | more _ _ hs _ hh =>
      by_cases hkp : k < nextN a (rc.take (spaceN a))
      · have hno := no_piece_turned (kindN_ge _ _) (kindN_le _ _) (by rw [hT]; exact Nat.le_refl _) hd hk hkp hne (h3 _ (List.mem_cons_self ..))
        cases hr with
        | last _ _ _ hp => exact hno _ _ hp
        | more _ _ _ _ _ hp _ => exact hno _ _ hp
      · have hp0 : Piece log a (kindN bg false) (rc.take (spaceN a)) := ⟨by cases bg <;> decide, by cases bg <;> decide, by rw [hT]; exact Nat.le_refl _, by rw [hd, ← List.append_assoc]; exact List.prefix_append _ _⟩
        have hp1 : Piece (log.set k d) a (kindN bg false) (rc.take (spaceN a)) := piece_same hp0 (Nat.le_refl _) (by rw [List.take_set_of_le (by omega)])
        have hd2 : log.drop (a + padN a + (7 + spaceN a)) = out := by
          rw [show a + padN a + (7 + spaceN a) = a + (padN a + (7 + spaceN a)) from by omega, ← List.drop_drop, hd, ← List.append_assoc, List.drop_append_of_le_length (by simp [pieceL_len, hT]), List.drop_of_length_le (by simp [pieceL_len, hT]), List.nil_append]
        have hno := ih log hs k d hd2 hh (by rw [full_next]; omega) (by simp only [List.length_append, List.length_replicate, pieceL_len, hT] at hk2; omega) hne (fun p hp => h3 p (List.mem_cons_of_mem _ hp))
        cases hr with
        | last _ _ _ hp => have := (piece_det hp hp1).1; cases bg <;> cases this
        | more _ _ _ _ _ hp hr2 =>
          obtain ⟨_, rfl⟩ := piece_det hp hp1
          rw [hnx] at hr2
          exact hno _ _ hr2
theorem laid_turned {l : List (List UInt8)} {log : List UInt8} {ends : List Nat} (hl : Laid l log ends) {s out : List UInt8} (ho : Lays log.length s true out) {hs : List Nat} (hh : Heads log.length s hs) {k : Nat} {d : UInt8}
    (hk : log.length + padN log.length ≤ k) (hk2 : k < (log ++ out).length) (hne : (log ++ out)[k]? ≠ some d) (h3 : ∀ p ∈ hs, k ≠ p + 4 ∧ k ≠ p + 5 ∧ k ≠ p + 6) : Recs ((log ++ out).set k d) 0 (l.zip ends) := by
  have hp := laid_path hl out
  refine path_done (path_same hp (Nat.le_refl _) (by rw [List.take_set_of_le (by omega)])) ?_
  exact no_rec_turned ho _ hs k d (by rw [List.drop_append_of_le_length (Nat.le_refl _), List.drop_of_length_le (Nat.le_refl _), List.nil_append]) hh hk (by simpa using hk2) hne h3
end Go.Proofs.YteilnbnnhocciaaDoor.P

/-! KF25 -/
namespace Go.Proofs.YteilnbnnhocciaaDoor.KF
open Go.RowKit Go.Proofs.YteilnbnnhocciaaDoorW.PrintWords Go.Proofs.YteilnbnnhocciaaDoorW.PrintLast Go.Proofs.YteilnbnnhocciaaDoorW.PrintMore Go.Proofs.YteilnbnnhocciaaDoorM
attribute [local go_sem] max2_int min2_int max_two min_two max_three min_three max_four min_four
set_option linter.unusedVariables false
set_option linter.unusedSimpArgs false
mutual
def bourseref05_Records.l0 : Nat → ByteArray → List (S55) → ByteArray → Bool → Int → Option ((List (S55)))
  | 0, _, _, _, _, _ => none
  | k + 1, x0, x3, x4, x5, x6 => bourseref05_Records.l1 k x0 x3 x4 x5 x6
def bourseref05_Records.l1 : Nat → ByteArray → List (S55) → ByteArray → Bool → Int → Option ((List (S55)))
  | 0, _, _, _, _, _ => none
  | k + 1, x0, x3, x4, x5, x6 => (bourseref05_room.f x6).bind fun t139 => (if t139 < 7 then (if x6 ≥ (x0.size : Int) then (some x3) else (if 0 ≤ x6 then (if x6 < (x0.size : Int) then (if (bt x0 x6) = 0 then (bourseref05_Records.l1 k x0 x3 x4 x5 (wrap64 (x6 + 1))) else (some x3)) else (none)) else (none))) else (if (wrap64 (x6 + 7)) > (x0.size : Int) then (some x3) else (if 0 ≤ (wrap64 (x6 + 4)) then (if (wrap64 (x6 + 4)) < (x0.size : Int) then (if 0 ≤ (wrap64 (x6 + 5)) then (if (wrap64 (x6 + 5)) < (x0.size : Int) then (if 0 ≤ (wrap64 (x6 + 6)) then (if (wrap64 (x6 + 6)) < (x0.size : Int) then (if (bt x0 (wrap64 (x6 + 6))) < 1 then (bourseref05_Records.j2 k x0 x3 x4 x5 x6 (wrap64 ((wrap64 (bt x0 (wrap64 (x6 + 4)))) + (wrap64 (256 * (wrap64 (bt x0 (wrap64 (x6 + 5)))))))) (bt x0 (wrap64 (x6 + 6))) true) else (if (bt x0 (wrap64 (x6 + 6))) > 4 then (bourseref05_Records.j2 k x0 x3 x4 x5 x6 (wrap64 ((wrap64 (bt x0 (wrap64 (x6 + 4)))) + (wrap64 (256 * (wrap64 (bt x0 (wrap64 (x6 + 5)))))))) (bt x0 (wrap64 (x6 + 6))) true) else ((bourseref05_room.f x6).bind fun t140 => (if (wrap64 ((wrap64 (bt x0 (wrap64 (x6 + 4)))) + (wrap64 (256 * (wrap64 (bt x0 (wrap64 (x6 + 5)))))))) > (wrap64 (t140 - 7)) then (bourseref05_Records.j2 k x0 x3 x4 x5 x6 (wrap64 ((wrap64 (bt x0 (wrap64 (x6 + 4)))) + (wrap64 (256 * (wrap64 (bt x0 (wrap64 (x6 + 5)))))))) (bt x0 (wrap64 (x6 + 6))) true) else (bourseref05_Records.j2 k x0 x3 x4 x5 x6 (wrap64 ((wrap64 (bt x0 (wrap64 (x6 + 4)))) + (wrap64 (256 * (wrap64 (bt x0 (wrap64 (x6 + 5)))))))) (bt x0 (wrap64 (x6 + 6))) (decide ((wrap64 ((wrap64 (x6 + 7)) + (wrap64 ((wrap64 (bt x0 (wrap64 (x6 + 4)))) + (wrap64 (256 * (wrap64 (bt x0 (wrap64 (x6 + 5)))))))))) > (x0.size : Int)))))))) else (none)) else (none)) else (none)) else (none)) else (none)) else (none))))
def bourseref05_Records.j2 : Nat → ByteArray → List (S55) → ByteArray → Bool → Int → Int → Int → Bool → Option ((List (S55)))
  | 0, _, _, _, _, _, _, _, _ => none
  | k + 1, x0, x3, x4, x5, x6, x7, x8, x69 => if x69 = true then (some x3) else (if 0 ≤ (wrap64 (x6 + 7)) then (if (wrap64 (x6 + 7)) ≤ (wrap64 ((wrap64 (x6 + 7)) + x7)) then (if (wrap64 ((wrap64 (x6 + 7)) + x7)) ≤ (x0.size : Int) then ((bourseref05_sum.f k x8 (x0.extract ((wrap64 (x6 + 7)) : Int).toNat ((wrap64 ((wrap64 (x6 + 7)) + x7)) : Int).toNat)).bind fun t141 => (if 0 ≤ x6 then (if x6 ≤ (wrap64 (x6 + 4)) then (if (wrap64 (x6 + 4)) ≤ (x0.size : Int) then (if t141.toList = (x0.extract (x6 : Int).toNat ((wrap64 (x6 + 4)) : Int).toNat).toList then (bourseref05_Records.j3 k x0 x3 x4 x6 x7 x8 (x0.extract ((wrap64 (x6 + 7)) : Int).toNat ((wrap64 ((wrap64 (x6 + 7)) + x7)) : Int).toNat) (x5 != (decide (x8 > 2)))) else (bourseref05_Records.j3 k x0 x3 x4 x6 x7 x8 (x0.extract ((wrap64 (x6 + 7)) : Int).toNat ((wrap64 ((wrap64 (x6 + 7)) + x7)) : Int).toNat) true)) else (none)) else (none)) else (none))) else (none)) else (none)) else (none))
def bourseref05_Records.j3 : Nat → ByteArray → List (S55) → ByteArray → Int → Int → Int → ByteArray → Bool → Option ((List (S55)))
  | 0, _, _, _, _, _, _, _, _ => none
  | k + 1, x0, x3, x4, x6, x7, x8, x9, x93 => if x93 = true then (some x3) else (if x4.size + x9.size ≤ 9223372036854775807 then (if x8 = 2 then (bourseref05_Records.l0 k x0 x3 (x4 ++ x9) true (wrap64 ((wrap64 (x6 + 7)) + x7))) else (if x8 = 3 then (bourseref05_Records.l0 k x0 x3 (x4 ++ x9) (x8 == 3) (wrap64 ((wrap64 (x6 + 7)) + x7))) else (if x3.length < 5864062014805 then (bourseref05_Records.l0 k x0 (x3 ++ [(⟨x4 ++ x9, wrap64 ((wrap64 (x6 + 7)) + x7)⟩ : S55)]) (⟨#[]⟩ : ByteArray) (x8 == 3) (wrap64 ((wrap64 (x6 + 7)) + x7))) else (none)))) else (none))
end
def bourseref05_Records.B11 : List Nat := [0, 0, 2, 7, 15, 0, 0, 64, 224, 480, 992, 2047, 4095]
end Go.Proofs.YteilnbnnhocciaaDoor.KF

/-! KG3 -/
set_option linter.unusedVariables false
namespace Go.Proofs.YteilnbnnhocciaaDoor.KF
open Go.RowKit Go.Shelf Go.Proofs.YteilnbnnhocciaaDoorW.PrintWords Go.Proofs.YteilnbnnhocciaaDoorW.PrintLast Go.Proofs.YteilnbnnhocciaaDoorW.PrintMore Go.Proofs.YteilnbnnhocciaaDoorM
attribute [local go_sem] Oper.semAt_some
theorem boxed_keep {W W' : World} {B : Nat} {t : TypeId} {v : Value} {row : Option Nat} (h : Boxed W B t v) (hg : W.grownBy W' row) (hr : ∀ r, row = some r → ∃ o, W.heap[r]? = some o ∧ o.isCells = false) : Boxed W' B t v :=
  h.kept hg (fun e => by
    obtain ⟨o, ho, hc⟩ := hr _ e.symm
    rw [show W.heap[B]? = _ from h] at ho
    cases ho
    cases hc)
theorem boxed_far {W : World} {B B' : Nat} {t : TypeId} {v : Value} (h : Boxed W B t v) (hne : B ≠ B') (u : Value) : Boxed (W.setCell ⟨B', 0, none⟩ u) B t v := h.kept (grownBy_setCell' W B' u) (fun e => hne (by cases e; rfl))
theorem boxed_below {W W' : World} {B : Nat} {t : TypeId} {v : Value} (h : Boxed W B t v) (hb : Below W.heap.size W W') : Boxed W' B t v := (hb.block B h.lt).trans h
end Go.Proofs.YteilnbnnhocciaaDoor.KF

/-! KF27 -/
namespace Go.Proofs.YteilnbnnhocciaaDoor.KF
open Go.RowKit Go.Proofs.YteilnbnnhocciaaDoorW.PrintWords Go.Proofs.YteilnbnnhocciaaDoorW.PrintLast Go.Proofs.YteilnbnnhocciaaDoorW.PrintMore Go.Proofs.YteilnbnnhocciaaDoorM
attribute [local go_sem] max2_int min2_int max_two min_two max_three min_three max_four min_four
set_option linter.unusedVariables false
set_option linter.unusedSimpArgs false
def bourselaw05_laid.l0 : Nat → ByteArray → List Int → List ByteArray → Int → Int → Option (ByteArray × List Int)
  | 0, _, _, _, _, _ => none
  | k + 1, x4, x5, x8, x9, x10 => if x10 < x9 then (if 0 ≤ x10 then (if x10 < (x8.length : Int) then ((frame_Lay.f k (x4.size : Int) (rdOf ByteArray.empty x8 x10)).bind fun t146 => (if x4.size + t146.size ≤ 9223372036854775807 then (if x5.length < 17592186044416 then (bourselaw05_laid.l0 k (x4 ++ t146) (x5 ++ [((x4.size : Int) + (t146.size : Int))]) x8 x9 (wrap64 (x10 + 1))) else (none)) else (none))) else (none)) else (none)) else (some (x4, x5))
def bourselaw05_laid.f (k : Nat) (l0 : List ByteArray) : Option (ByteArray × List Int) := bourselaw05_laid.l0 k (⟨#[]⟩ : ByteArray) ([] : List Int) l0 (l0.length : Int) 0
set_option maxHeartbeats 8000000 in
set_option maxRecDepth 100000 in
theorem bourselaw05_laid.calls (k : Nat) (A0 : Option Addr) (c0 : Nat) (l0 : List ByteArray) (r1 : ByteArray) (r2 : List Int) (w : World) (hr0 : Kd.C Kd.string w A0 l0.length l0) (hc0 : l0.length ≤ c0) (h : bourselaw05_laid.f k l0 = some (r1, r2)) :
    Calls Tryd.prog 28 #[.slice A0 l0.length c0] w fun e w' => ∃ v1_ : Value, e = .returned (.tuple #[.string r1, v1_]) ∧ Kd.R (Kd.int .i64) 3 w' w.heap.size (fun _ => True) v1_ r2 ∧ Below w.heap.size w w' := by
  have HR0 := Aside0.mk hr0
  have HC0 := Aside0.mk hc0
  clear hr0 hc0
  have HB := Aside0.mk (Below.refl w.heap.size w)
  have H : (bourselaw05_laid.l0 k (⟨#[]⟩ : ByteArray) ([] : List Int) l0 (l0.length : Int) 0) = some (r1, r2) := h
  clear h
  have H' := Aside0.mk H
  clear H
  go_enter Tryd.func28, Tryd.ntmps28
  go_wp2
  go_loopg [4, 5, 10] k (fun kq v4 v5 v10 w' => ∃ (x4_1 : ByteArray) (x5_1 : List Int) (x10_1 : Int), v4 = .string x4_1 ∧ v10 = .int .i64 x10_1 ∧ Aside0 (bourselaw05_laid.l0 kq x4_1 x5_1 l0 (l0.length : Int) x10_1 = some (r1, r2)) ∧ Aside0 (kq ≤ k) ∧ Aside0 (Kd.R (Kd.int .i64) 3 w' w.heap.size (fun _ => True) v5 x5_1) ∧ Aside0 (Below w.heap.size w w'))
  case atStart => exact ⟨((⟨#[]⟩ : ByteArray)), (([] : List Int)), (0), (by first | rfl | (simp; done) | (simp [*]; done)), (by first | rfl | (simp; done) | (simp [*]; done)), H', ⟨Nat.le_refl _⟩, ⟨by first | exact Kd.R_nil _ _ _ _ _ | exact Kd.N_nil _ _ _ _ _ | exact Kd.V_nil _ _ _ _ _ | exact Kd.Q_nil _ _ _ _ _ | exact Kd.S_nil _ _ _ _ _⟩, ⟨by repeat (first | (with_reducible first | exact HB.out | apply below_alloc | apply pw_below_drewN | apply below_drew1) | exact HB.out)⟩⟩
  case round =>
    clear H'
    obtain ⟨x4_1, x5_1, x10_1, rfl, rfl, HA, HK1, HO_5, HB⟩ := hrel
    cases gk with
    | zero => exact absurd HA.out (by simp [bourselaw05_laid.l0])
    | succ k1 =>
      have H := HA.out
      clear HA
      simp only [bourselaw05_laid.l0] at H
      by_cases c2 : x10_1 < (l0.length : Int)
      · rw [if_pos c2] at H
        have c2b0 : decide (x10_1 < (l0.length : Int)) = true := decide_eq_true c2
        clear c2
        by_cases c3 : 0 ≤ x10_1
        · rw [if_pos c3] at H
          have c3b0 : decide (0 ≤ x10_1) = true := decide_eq_true c3
          clear c3
          by_cases c4 : x10_1 < (l0.length : Int)
          · rw [if_pos c4] at H
            have c4b0 : decide (x10_1 < (l0.length : Int)) = true := decide_eq_true c4
            clear c4
            replace H := Option.bind_eq_some_iff.mp H
            obtain ⟨t146, A50, H⟩ := H
            replace H : (if x4_1.size + t146.size ≤ 9223372036854775807 then (if x5_1.length < 17592186044416 then (bourselaw05_laid.l0 k1 (x4_1 ++ t146) (x5_1 ++ [((x4_1.size : Int) + (t146.size : Int))]) l0 (l0.length : Int) (wrap64 (x10_1 + 1))) else (none)) else (none)) = some (r1, r2) := H
            have A5 := Aside0.mk A50
            clear A50
            by_cases c6 : x4_1.size + t146.size ≤ 9223372036854775807
            · rw [if_pos c6] at H
              have c6b0 := eq_true c6
              have c6b1 : decide (x4_1.size + t146.size ≤ 9223372036854775807) = true := decide_eq_true c6
              try have c6b2 : (9223372036854775807 < x4_1.size + t146.size) = False := eq_false (Nat.not_lt.2 c6)
              by_cases c7 : x5_1.length < 17592186044416
              · rw [if_pos c7] at H
                have LMc7 := Aside0.mk c7
                clear c7
                obtain ⟨y147, hy147⟩ : ∃ y_ : List Int, y_ = (x5_1 ++ [((x4_1.size : Int) + (t146.size : Int))]) := ⟨_, rfl⟩
                replace H : (bourselaw05_laid.l0 k1 (x4_1 ++ t146) y147 l0 (l0.length : Int) (wrap64 (x10_1 + 1))) = some (r1, r2) := by first | (rw [hy147]; with_reducible exact H) | (have H2_ := (Option.bind_some _ _).symm.trans H; rw [hy147]; with_reducible exact H2_) | (have H2_ := (Option.bind_some _ _).symm.trans H; with_reducible exact H2_) | with_reducible exact H | (rw [hy147]; exact H) | exact H
                have Ny147 := Aside0.mk hy147
                clear hy147
                have H' := Aside0.mk H
                clear H
                have p145 : 0 ≤ (x10_1 : Int) := of_decide_eq_true (by first | (with_reducible assumption) | assumption)
                have q145 : x10_1 < (l0.length : Int) := of_decide_eq_true (by first | (with_reducible assumption) | assumption)
                obtain ⟨ad145, e145, hx145_0⟩ := Kd.at_string HR0.out x10_1 p145 q145
                cases e145
                replace hx145_0 := (HB.out.cell (World.block_lt_of_cell? w _ hx145_0)).trans hx145_0
                replace p145 := eq_true p145
                replace q145 := eq_true q145
                go_wp2_with (first | ((with_reducible refine gate_callee (f := 30) rfl ?_); refine goesL_ (some 18) rfl rfl Tryd.func30 (by kernel_rfl) rfl #[.int .i64 (x4_1.size : Int), .string (rdOf ByteArray.empty l0 x10_1)] rfl (by (try simp only [List.map_toArray, List.map_cons, List.map_nil]); first | done | rfl | (simp only [List.length_drop, List.length_take]; rfl)) ?_; (with_reducible refine (frame_Lay.calls k1 (x4_1.size : Int) (rdOf ByteArray.empty l0 x10_1) t146 _ A5.out).mono ?_); rintro e w8 ⟨rfl, hb⟩; refine ⟨_, rfl, ?_⟩; have n0_ := Aside0.mk (Kd.R_below (by (with_reducible repeat (first | apply Kd.R_alloc | apply Kd.R_drewN | apply Kd.R_drew)); exact HO_5.out) hb); have n1_ := Aside0.mk (below_step (by repeat (first | (with_reducible first | exact HB.out | apply below_alloc | apply pw_below_drewN | apply below_drew1) | exact HB.out)) hb); clear HO_5; clear HB; have HO_5 := n0_; have HB := n1_; clear n0_ n1_; (try clear hb); (try clear hb2); (try clear hk); (try clear hi)) | ((with_reducible refine gate_builtin (b := .append) (xs := #[.tmp 20, .tmp 23]) rfl ?_); at_builtin; refine Kd.R_append (Kd.int .i64) (w0 := w) w.heap.size rfl (.tmp 20) (.tmp 23) 59 3 (.int .i64 0) 8 rfl Tryd.underlying59 info3 rfl (by decide) (by omega) u5 x5_1 ((x4_1.size : Int) + (t146.size : Int)) [.int .i64 ((x4_1.size : Int) + (t146.size : Int))] (fun _ => True) (fun _ => False) rfl rfl ?aP (fun _ hk => hk.elim) ?aF ?aO ?aB ?aS ?aL ?_; (case aP => exact rfl); (case aB => exact (by repeat (first | (with_reducible first | exact HB.out | apply below_alloc | apply pw_below_drewN | apply below_drew1) | exact HB.out))); (case aF => exact (fun _ _ => trivial)); (case aO => exact (by (with_reducible repeat (first | apply Kd.R_alloc | apply Kd.R_drewN | apply Kd.R_drew)); exact HO_5.out)); (case aS => exact (below_size (by repeat (first | (with_reducible first | exact HB.out | apply below_alloc | apply pw_below_drewN | apply below_drew1) | exact HB.out)))); (case aL => have := LMc7.out; omega); intro v148 w9 ho hb hg hat; rw [← Ny147.out] at ho; have n0_ := Aside0.mk (hb); have n1_ := Aside0.mk (ho); clear HB; clear HO_5; have HB := n0_; have HO149 := n1_; clear n0_ n1_; clear ho hb hg hat))
                go_roundg k1
                case measure => have := HK1.out; omega
                case rel => exact ⟨(x4_1 ++ t146), (y147), (wrap64 (x10_1 + 1)), (by first | rfl | (simp; done) | (simp [*]; done)), (by first | rfl | (simp; done) | (simp [*]; done)), H', ⟨by have := HK1.out; omega⟩, ⟨by (with_reducible repeat (first | apply Kd.R_alloc | apply Kd.R_drewN | apply Kd.R_drew)); exact HO149.out⟩, ⟨by repeat (first | (with_reducible first | exact HB.out | apply below_alloc | apply pw_below_drewN | apply below_drew1) | exact HB.out)⟩⟩
              · rw [if_neg c7] at H
                exact absurd H (by simp)
            · rw [if_neg c6] at H
              exact absurd H (by simp)
          · rw [if_neg c4] at H
            exact absurd H (by simp)
        · rw [if_neg c3] at H
          exact absurd H (by simp)
      · rw [if_neg c2] at H
        have c2b0 : decide (x10_1 < (l0.length : Int)) = false := decide_eq_false c2
        clear c2
        simp only [Option.some.injEq, Prod.mk.injEq] at H
        obtain ⟨rfl, rfl⟩ := H
        go_wp2
        go_ret2
        exact ⟨_, by first | rfl | (simp [errW_none, errW_some] <;> rfl) | (simp [*, errW_none, errW_some] <;> rfl), by (with_reducible repeat (first | apply Kd.R_alloc | apply Kd.R_drewN | apply Kd.R_drew)); exact HO_5.out, by repeat (first | (with_reducible first | exact HB.out | apply below_alloc | apply pw_below_drewN | apply below_drew1) | exact HB.out)⟩
end Go.Proofs.YteilnbnnhocciaaDoor.KF

/-! KG4 -/
set_option linter.unusedVariables false
namespace Go.Proofs.YteilnbnnhocciaaDoor.KF
open Go.RowKit Go.Shelf Go.Proofs.YteilnbnnhocciaaDoorW.PrintWords Go.Proofs.YteilnbnnhocciaaDoorW.PrintLast Go.Proofs.YteilnbnnhocciaaDoorW.PrintMore Go.Proofs.YteilnbnnhocciaaDoorM
attribute [local go_sem] Oper.semAt_some
set_option maxRecDepth 100000 in
set_option maxHeartbeats 2000000 in
theorem frameBack_many (A : Option Addr) (c : Nat) (strs : List ByteArray) (cut : Int) (w : World) (hl : 20 < strs.length) :
    Calls Tryd.prog 6 #[.slice A strs.length c, .int .i64 cut] w fun e w' => e = .returned (.bool true) ∧ Below w.heap.size w w' := by
  have b0 := (Boxed.new w 58 (.slice A strs.length c)).alloc (.cells #[.bool false] 4)
  have b1 := Boxed.new (w.alloc (.cells #[.slice A strs.length c] 58)) 4 (.bool false)
  rw [World.size_alloc] at b1
  have HB0 := Hush.mk (((Below.refl _ w).alloc (Nat.le_refl _) (.cells #[.slice A strs.length c] 58)).alloc (by simp) (.cells #[.bool false] 4))
  have B0 := Hush.mk b0
  have B1 := Hush.mk b1
  clear b0 b1
  have hd : decide (20 < strs.length) = true := decide_eq_true hl
  go_enter Tryd.func6, Tryd.ntmps6
  go_wp2_with fail
  refine (bourselaw05_awake.calls _).mono ?_
  rintro e w1 ⟨rfl, hb1⟩
  have B10 := Hush.mk (boxed_below B0.out hb1)
  have B2 := Hush.mk (boxed_below B1.out hb1)
  have HB1 := Hush.mk (HB0.out.trans (hb1.mono HB0.out.size))
  clear hb1
  have hc0 := B10.out.cell
  have hc := B2.out.cell
  have hf := B2.out.frozen
  go_wp2
  refine bodyPost_ret (v := .bool true) (by simp [results, Tryd.results6, go_sem, hc]) rfl ⟨rfl, ?_⟩
  exact HB1.out.setCell (p := ⟨w.heap.size + 1, 0, none⟩) (by simp) _
set_option maxRecDepth 100000 in
set_option maxHeartbeats 2000000 in
theorem frameBack_long (A : Option Addr) (c : Nat) (strs : List ByteArray) (cut : Int) (w : World) (hC : Kd.string.C w A strs.length strs) (hl : strs.length ≤ 20) (m : Nat) (hm : m < strs.length) (hb : 2000 < (rdOf ByteArray.empty strs (m : Int)).size) :
    Calls Tryd.prog 6 #[.slice A strs.length c, .int .i64 cut] w fun e w' => e = .returned (.bool true) ∧ Below w.heap.size w w' := by
  have b0 := (Boxed.new w 58 (.slice A strs.length c)).alloc (.cells #[.bool false] 4)
  have b1 := Boxed.new (w.alloc (.cells #[.slice A strs.length c] 58)) 4 (.bool false)
  rw [World.size_alloc] at b1
  have HB0 := Hush.mk (((Below.refl _ w).alloc (Nat.le_refl _) (.cells #[.slice A strs.length c] 58)).alloc (by simp) (.cells #[.bool false] 4))
  have B0 := Hush.mk b0
  have B1 := Hush.mk b1
  clear b0 b1
  have hd : decide (20 < strs.length) = false := by simp; omega
  have HC0 := Hush.mk hC
  have HM := Hush.mk hb
  obtain ⟨ad, rfl, _⟩ := Kd.at_string hC (m : Int) (by omega) (by omega)
  clear hC hb
  go_enter Tryd.func6, Tryd.ntmps6
  go_wp2_with fail
  refine (bourselaw05_awake.calls _).mono ?_
  rintro e w1 ⟨rfl, hb1⟩
  have B10 := Hush.mk (boxed_below B0.out hb1)
  have B2 := Hush.mk (boxed_below B1.out hb1)
  have HB1 := Hush.mk (HB0.out.trans (hb1.mono HB0.out.size))
  have HC := Hush.mk (Kd.C_below HC0.out HB1.out)
  clear hb1
  have hc0 := B10.out.cell
  have hc := B2.out.cell
  have hf := B2.out.frozen
  go_wp2
  go_loop [23] (fun t => ∃ i : Nat, i ≤ m ∧ t = .int .i64 (i : Nat)) (fun t => m - (intOf t).toNat)
  case atStart => exact ⟨0, Nat.zero_le _, rfl⟩
  case round =>
    obtain ⟨i, hi, rfl⟩ := hrel
    obtain ⟨ad', e, hs⟩ := Kd.at_string HC.out (i : Int) (by omega) (by omega)
    obtain rfl := Option.some.inj e
    simp only [Int.toNat_natCast] at hs
    have hi2 : i < strs.length := by omega
    have hi3 : (i : Int) < (strs.length : Int) := by omega
    have hM : i = m → 2000 < (rdOf ByteArray.empty strs (i : Int)).size := fun e => by rw [e]; exact HM.out
    have HMI := Hush.mk hM
    obtain ⟨s, hsn⟩ : ∃ s, s = rdOf ByteArray.empty strs (i : Int) := ⟨_, rfl⟩
    rw [← hsn] at hs HMI
    clear hsn hM
    by_cases hbig : 2000 < s.size
    · go_wp2
      refine bodyPost_ret (v := .bool true) (by simp [results, Tryd.results6, go_sem, hc]) rfl ⟨rfl, ?_⟩
      exact HB1.out.setCell (p := ⟨w.heap.size + 1, 0, none⟩) (by simp) _
    · go_wp2
      have hne : i ≠ m := fun e => hbig (HMI.out e)
      go_round
      case rel => exact ⟨i + 1, by omega, by go_num⟩
      case measure => simp [intOf]; omega
theorem count_step (ends : List Int) (q : Nat) (k : Int) (hq : q < ends.length) : (ends.take (q + 1)).countP (· ≤ k) = (ends.take q).countP (· ≤ k) + if rd ends (q : Int) ≤ k then 1 else 0 := by
  rw [List.take_succ_eq_append_getElem hq, List.countP_append]
  unfold rd
  rw [Int.toNat_natCast, List.getD_eq_getElem?_getD, List.getElem?_eq_getElem hq]
  simp [List.countP_cons]
theorem bprefix_snoc {strs : List ByteArray} {ends : List Int} {pre all : List (ByteArray × Int)} {x : ByteArray × Int} (hz : all <+: strs.zip ends) (hp : pre <+: all) (hl : pre.length < all.length) :
    (pre ++ [x]) <+: all ↔ (x.1.toList = (rdOf ByteArray.empty strs (pre.length : Int)).toList ∧ x.2 = rd ends (pre.length : Int)) := by
  have hlz : pre.length < (strs.zip ends).length := Nat.lt_of_lt_of_le hl hz.length_le
  have hls : pre.length < strs.length := by rw [List.length_zip] at hlz; omega
  have hle : pre.length < ends.length := by rw [List.length_zip] at hlz; omega
  have h1 : all[pre.length]? = (strs.zip ends)[pre.length]? := by
    obtain ⟨t, rfl⟩ := Exists.intro _ hz.choose_spec.symm |> fun (h : ∃ t, strs.zip ends = t) => h
    rw [← hz.choose_spec, List.getElem?_append_left hl]
  have h2 : all[pre.length]? = some (strs[pre.length], ends[pre.length]) := by
    rw [h1, List.getElem?_eq_getElem hlz, List.getElem_zip]
  obtain ⟨r, rfl⟩ := hp
  cases r with
  | nil => simp at hl
  | cons y r =>
    have e1 : rdOf ByteArray.empty strs (pre.length : Int) = y.1 := by
      unfold rdOf
      rw [Int.toNat_natCast, List.getD_eq_getElem?_getD, List.getElem?_eq_getElem hls]
      rw [List.getElem?_append_right (Nat.le_refl _), Nat.sub_self] at h2
      have := Option.some.inj h2
      rw [this]
      rfl
    have e2 : rd ends (pre.length : Int) = y.2 := by
      unfold rd
      rw [Int.toNat_natCast, List.getD_eq_getElem?_getD, List.getElem?_eq_getElem hle]
      rw [List.getElem?_append_right (Nat.le_refl _), Nat.sub_self] at h2
      have := Option.some.inj h2
      rw [this]
      rfl
    rw [e1, e2]
    constructor
    · intro h
      rw [List.prefix_append_right_inj, List.cons_prefix_cons] at h
      rw [h.1]
      exact ⟨rfl, rfl⟩
    · rintro ⟨h1, h2⟩
      rw [List.prefix_append_right_inj, List.cons_prefix_cons]
      refine ⟨?_, List.nil_prefix⟩
      obtain ⟨a, b⟩ := x
      obtain ⟨c, d⟩ := y
      have : a = c := by
        cases a with | mk a => cases c with | mk c =>
        congr 1
        have := h1
        simp only [ByteArray.toList_eq] at this
        exact Array.toList_inj.1 this
      rw [this]
      exact congrArg (Prod.mk c) h2
set_option maxRecDepth 100000 in
set_option maxHeartbeats 4000000 in
theorem frameBack_walk (A : Option Addr) (c : Nat) (strs : List ByteArray) (cut : Int) (w : World) (hC : Kd.string.C w A strs.length strs) (hcap : strs.length ≤ c) (hl : strs.length ≤ 20) (hsz : ∀ i : Nat, i < strs.length → (rdOf ByteArray.empty strs (i : Int)).size ≤ 2000)
    (k : Nat) (log : ByteArray) (ends : List Int) (hL : bourselaw05_laid.f k strs = some (log, ends)) (hls : log.size ≤ 1000000) (hel : ends.length = strs.length)
    (kc : Nat) (hkc : wrap64 ((IntKind.u64.wrap cut).tmod ((log.size : Int) + 1)) = (kc : Int)) (hkl : kc ≤ log.size)
    (kk j : Nat) (all : List (ByteArray × Int)) (hr : recs kk (log.extract 0 kc) j 0 = some all) (hall : all <+: strs.zip ends) (hcount : ends.countP (· ≤ (kc : Int)) = all.length)
    (kk2 j2 : Nat) (full : List (ByteArray × Int)) (hf : recs kk2 log j2 0 = some full) (hlast : lastTo full = (log.size : Int)) :
    Calls Tryd.prog 6 #[.slice A strs.length c, .int .i64 cut] w fun e w' => e = .returned (.bool true) ∧ Below w.heap.size w w' := by
  have hro : Fence.wide.round = none := rfl
  have b0 := (Boxed.new w 58 (.slice A strs.length c)).alloc (.cells #[.bool false] 4)
  have b1 := Boxed.new (w.alloc (.cells #[.slice A strs.length c] 58)) 4 (.bool false)
  rw [World.size_alloc] at b1
  have HB0 := Hush.mk (((Below.refl _ w).alloc (Nat.le_refl _) (.cells #[.slice A strs.length c] 58)).alloc (by simp) (.cells #[.bool false] 4))
  have B0 := Hush.mk b0
  have B1 := Hush.mk b1
  have HC0 := Hush.mk hC
  have HS := Hush.mk hsz
  have HL := Hush.mk hL
  have HEL := Hush.mk hel
  have HKC := Hush.mk hkc
  have HR := Hush.mk hr
  have HALL := Hush.mk hall
  have HCOUNT := Hush.mk hcount
  have HF := Hush.mk hf
  have HLAST := Hush.mk hlast
  have HCAP := Hush.mk hcap
  have HKL := Hush.mk hkl
  clear b0 b1 hC hsz hL hel hkc hr hall hcount hf hlast hcap hkl
  have hd : decide (20 < strs.length) = false := by simp; omega
  refine (callsIn_wide (n := 6)).1 ?_
  refine callsIn_of_wp_marks Tryd.func6 rfl trivial ?_ hro
  simp only [Tryd.ntmps6, List.size_toArray, List.length_cons, List.length_nil, Nat.reduceAdd, Nat.reduceSub, Array.replicate_succ, Array.replicate_zero, List.push_toArray, List.append_toArray, List.nil_append, List.cons_append]
  gi_wp2_with fail
  refine ⟨trivial, ?_⟩; gi_at_call 24; refine (callsIn_wide.2 (bourselaw05_awake.calls _)).mono ?_
  rintro e w1 ⟨rfl, hb1⟩
  have B10 := Hush.mk (boxed_below B0.out hb1)
  have B11 := Hush.mk (boxed_below B1.out hb1)
  have HB1 := Hush.mk (HB0.out.trans (hb1.mono HB0.out.size))
  have HC := Hush.mk (Kd.C_below HC0.out HB1.out)
  clear hb1
  have hc0 := B10.out.cell
  gi_wp2
  gi_loopw [23] (fun t wr => (∃ i : Nat, i ≤ strs.length ∧ t = .int .i64 (i : Nat)) ∧ wr = w1) (fun t _ => strs.length - (intOf t).toNat)
  case atStart => exact ⟨⟨0, Nat.zero_le _, rfl⟩, rfl⟩
  case round =>
    obtain ⟨⟨i, hi, rfl⟩, rfl⟩ := hrel
    by_cases hlt : i < strs.length
    · obtain ⟨ad', rfl, hs⟩ := Kd.at_string HC.out (i : Int) (by omega) (by omega)
      simp only [Int.toNat_natCast] at hs
      have hi3 : (i : Int) < (strs.length : Int) := by omega
      have hM := HS.out i hlt
      obtain ⟨s, hsn⟩ : ∃ s, s = rdOf ByteArray.empty strs (i : Int) := ⟨_, rfl⟩
      rw [← hsn] at hs hM
      clear hsn
      gi_wp2
      go_roundw
      case rel => exact ⟨⟨i + 1, by omega, by go_num⟩, trivial⟩
      case measure => simp [intOf]; omega
    · have hge : decide (i < strs.length) = false := by simp; omega
      gi_wp2_with fail
      refine ⟨trivial, ?_⟩; gi_at_call 28; refine (callsIn_wide.2 (bourselaw05_laid.calls k A c strs log ends wr HC.out HCAP.out HL.out)).mono ?_
      rintro e w2 ⟨v1, rfl, hR, hb2⟩
      obtain ⟨A2, c2, rfl, hcap2, hC2⟩ := Kd.R_reads hR
      have HC2 := Hush.mk hC2
      have B20 := Hush.mk (boxed_below B10.out hb2)
      have B21 := Hush.mk (boxed_below B11.out hb2)
      have HB2 := Hush.mk (HB1.out.trans (hb2.mono HB1.out.size))
      have HCs := Hush.mk (Kd.C_below HC.out hb2)
      clear hb2 hR hC2 hcap2 B10 B11 B0 B1 HB0 HB1 HC hc0
      have hcw := HKC.out
      have hkl := HKL.out
      have hkl2 : (kc : Int) ≤ (log.size : Int) := by omega
      gi_wp2_with fail
      refine ⟨trivial, ?_⟩; gi_at_call 26; refine (frame_Records.in_ 5 (log.extract 0 kc) _).mono ?_
      rintro e w3 ⟨rfl, rfl⟩
      have bW := ((Boxed.new w2 59 (.slice A2 ends.length c2)).alloc (.cells #[.int .i64 0] 3)).alloc (.cells #[.string (log.extract 0 kc)] 9)
      have bN := (Boxed.new (w2.alloc (.cells #[.slice A2 ends.length c2] 59)) 3 (.int .i64 0)).alloc (.cells #[.string (log.extract 0 kc)] 9)
      have bL := Boxed.new ((w2.alloc (.cells #[.slice A2 ends.length c2] 59)).alloc (.cells #[.int .i64 0] 3)) 9 (.string (log.extract 0 kc))
      simp only [World.size_alloc] at bN bL
      have BW := Hush.mk bW
      have BN := Hush.mk bN
      have BL := Hush.mk bL
      clear bW bN bL
      have HBx := Hush.mk ((((Below.refl _ w2).alloc (Nat.le_refl _) (.cells #[.slice A2 ends.length c2] 59)).alloc (by simp) (.cells #[.int .i64 0] 3)).alloc (by simp; omega) (.cells #[.string (log.extract 0 kc)] 9))
      gi_wp2
      refine wpIn_rangeFunc_ownF hro (by omega) (gf := 75) (lb := #[.pointer (some ⟨w2.heap.size + 2, 0, none⟩)]) rfl trivial (enters_of Tryd.func75 (by kernel_rfl) rfl)
        (recs_stops _ kk (w2.heap.size + 2) (by omega) (log.extract 0 kc) all j HR.out _ BL.out.cell) keepLog_t keepLog_b (Below.refl _ _) (fun _ => rfl)
        (fun pre W => (Boxed W w2.heap.size 59 (.slice A2 ends.length c2) ∧ Boxed W (w2.heap.size + 1) 3 (.int .i64 (pre.length : Nat)) ∧ pre <+: all) ∧ Below w2.heap.size w2 W)
        (fun cd pre W => (cd = .ret ∧ ¬ pre <+: all) ∧ True)
        ?hI ?hIx ?h0
        (fun x => { tmps := #[.slice A strs.length c, .int .i64 cut, .pointer (some ⟨w.heap.size, 0, none⟩), undef, .pointer (some ⟨w.heap.size + 1, 0, none⟩), undef, u6, .string log, .pointer (some ⟨w2.heap.size, 0, none⟩), .int .i64 (kc : Nat), .pointer (some ⟨w2.heap.size + 1, 0, none⟩), .string x.1, .int .i64 x.2, undef, undef, undef, .bool true, .bool false, .slice A strs.length c, .int .i64 (strs.length : Nat), .bool (decide (20 < (strs.length : Int))), .slice A strs.length c, .int .i64 (strs.length : Nat), .int .i64 (i : Nat), .bool false, u25, u26, u27, u28, u29, u30, .tuple #[.string log, .slice A2 ends.length c2], .slice A strs.length c, .tuple #[.string log, .slice A2 ends.length c2], .string log, .slice A2 ends.length c2, .int .i64 cut, .int .u64 (IntKind.u64.wrap cut), .string log, .int .i64 (log.size : Nat), .int .i64 ((log.size : Int) + 1), .int .u64 ((log.size : Int) + 1), .int .u64 ((IntKind.u64.wrap cut).tmod ((log.size : Int) + 1)), .int .i64 (kc : Nat), .string log, .int .i64 (kc : Nat), .string (log.extract 0 kc), .func (.func 75) #[] #[.pointer (some ⟨w2.heap.size + 2, 0, none⟩)], .string x.1, .int .i64 x.2, undef, undef, undef, undef, undef, undef, undef, undef, undef, undef, undef, undef, undef, undef, undef, undef, undef, undef, undef, undef, undef, undef, undef, undef, undef, undef, undef, undef, undef, undef, undef, undef, undef, undef, undef, undef, undef, undef, undef, undef, undef, undef, undef, undef, undef, undef, undef, undef, undef], defers := [] }) ?assign ?body ?done ?stop
      case hI => exact OwnFrom.and (Own.from (fun s X Y row hs hg hr => ⟨boxed_keep hs.1 hg hr, boxed_keep hs.2.1 hg hr, hs.2.2⟩) _) (ownFrom_below (Nat.le_refl _) (by simp; omega))
      case hIx => exact fun cd => fun _ _ _ _ hs _ _ => hs
      case h0 => exact ⟨⟨BW.out, BN.out, List.nil_prefix⟩, HBx.out⟩
      case assign =>
        intro l x W K hK
        simp only [enc2]
        gi_wp2
        exact hK
      case body =>
        rintro l pre x W ⟨⟨hw, hn, hp⟩, hB⟩ hlp
        have B30 := Hush.mk (boxed_below B20.out hB)
        have B31 := Hush.mk (boxed_below B21.out hB)
        have hC1 := Kd.C_below (Kd.C_below HCs.out (Below.refl _ _)) hB
        have hC2 := Kd.C_below HC2.out hB
        have hzl : pre.length < (strs.zip ends).length := Nat.lt_of_lt_of_le hlp HALL.out.length_le
        rw [List.length_zip] at hzl
        obtain ⟨ad1, rfl, hs1⟩ := Kd.at_string hC1 (pre.length : Int) (by omega) (by omega)
        obtain ⟨ad2, rfl, hs2⟩ := Kd.at_int hC2 (pre.length : Int) (by omega) (by omega)
        simp only [Int.toNat_natCast] at hs1 hs2
        have HWn := Hush.mk hw
        have HNn := Hush.mk hn
        have HBn := Hush.mk hB
        have cl := B30.out.cell
        have cw := hw.cell
        have cn := hn.cell
        have fn := hn.frozen
        have cr := B31.out.cell
        have fr := B31.out.frozen
        have hge2 : decide (strs.length ≤ pre.length) = false := by simp; omega
        have hix : pre.length < strs.length := by omega
        have hix2 : (pre.length : Int) < (strs.length : Int) := by omega
        have hix3 : pre.length < ends.length := by omega
        have hix4 : (pre.length : Int) < (ends.length : Int) := by omega
        have hps := bprefix_snoc (x := x) HALL.out hp hlp
        have hpl : pre.length ≤ 4000 := by omega
        have hz1 : w.heap.size + 1 < w2.heap.size := B21.out.lt
        obtain ⟨y1, hy1⟩ : ∃ y, y = rdOf ByteArray.empty strs (pre.length : Int) := ⟨_, rfl⟩
        obtain ⟨y2, hy2⟩ : ∃ y, y = rd ends (pre.length : Int) := ⟨_, rfl⟩
        rw [← hy1] at hs1 hps
        rw [← hy2] at hs2 hps
        have HPS := Hush.mk hps
        clear hy1 hy2 hp hlp hw hn hB hC1 hC2 hps hzl hge
        by_cases hx1 : x.1.toList = y1.toList
        · by_cases hx2 : x.2 = y2
          · have hb2 : (x.2 != y2) = false := by simpa using hx2
            have HPX : Hush ((pre ++ [x]) <+: all) := ⟨HPS.out.2 ⟨hx1, hx2⟩⟩
            clear hx2
            gi_wp2
            exact ⟨KeepsOthers.setCell _ _ _, fun hL => by rw [World.cell?_setCell_other _ _ _ _ (by simp)]; exact hL, ⟨boxed_far HWn.out (by omega) _, (show Value.int .i64 ((pre ++ [x]).length : Int) = .int .i64 ((pre.length : Int) + 1) from by simp) ▸ HNn.out.set _, HPX.out⟩, HBn.out.setCell (p := ⟨w2.heap.size + 1, 0, none⟩) (by simp) _⟩
          · have hb2 : (x.2 != y2) = true := by simpa using hx2
            have HPX : Hush (¬ (pre ++ [x]) <+: all) := ⟨fun h => hx2 (HPS.out.1 h).2⟩
            clear hx2
            gi_wp2
            exact ⟨KeepsOthers.setCell _ _ _, ⟨rfl, HPX.out⟩, trivial⟩
        · have HPX : Hush (¬ (pre ++ [x]) <+: all) := ⟨fun h => hx1 (HPS.out.1 h).1⟩
          gi_wp2
          exact ⟨KeepsOthers.setCell _ _ _, ⟨rfl, HPX.out⟩, trivial⟩
      case stop =>
        rintro D cd pre W hD hpre ⟨⟨rfl, hn⟩, _⟩ hK
        exact absurd hpre hn
      case done =>
        rintro D ys W hD rfl ⟨⟨hw, hn, hp⟩, hB⟩ hK
        have B30 := Hush.mk (boxed_below B20.out hB)
        have B31 := Hush.mk (boxed_below B21.out hB)
        have HC3 := Hush.mk (Kd.C_below HC2.out hB)
        have HW1 : Hush (Below w.heap.size w W) := ⟨HB2.out.trans (hB.mono HB2.out.size)⟩
        have HKK := Hush.mk hK
        have cl := B30.out.cell
        have cw := hw.cell
        have cn := hn.cell
        have cr := B31.out.cell
        have fr := B31.out.frozen
        have hz1 : w.heap.size + 1 < w2.heap.size := B21.out.lt
        have hel : ends.length ≤ 20 := by have := HEL.out; omega
        clear hp hw hn hK hB
        gi_wp2
        gi_loopw [13, 74] (fun v t wq => (∃ i : Nat, i ≤ ends.length ∧ t = .int .i64 (i : Nat) ∧ v = .int .i64 ((ends.take i).countP (· ≤ (kc : Int)) : Nat)) ∧ wq = W) (fun _ t _ => ends.length - (intOf t).toNat)
        case atStart => exact ⟨⟨0, Nat.zero_le _, rfl, rfl⟩, rfl⟩
        case round =>
          obtain ⟨⟨q, hq, rfl, rfl⟩, rfl⟩ := hrel
          by_cases hqlt : q < ends.length
          · obtain ⟨ad', rfl, hs⟩ := Kd.at_int HC3.out (q : Int) (by omega) (by omega)
            simp only [Int.toNat_natCast] at hs
            have hi3 : (q : Int) < (ends.length : Int) := by omega
            have hcs := count_step ends q (kc : Int) hqlt
            have hcl : (ends.take q).countP (· ≤ (kc : Int)) ≤ 20 := Nat.le_trans List.countP_le_length (by rw [List.length_take]; omega)
            obtain ⟨e1, he1⟩ : ∃ e1, e1 = rd ends (q : Int) := ⟨_, rfl⟩
            rw [← he1] at hs hcs
            have HCS := Hush.mk hcs
            generalize (ends.take q).countP (· ≤ (kc : Int)) = cq at *
            clear he1 hcs
            gi_wp2
            · have hle : e1 ≤ (kc : Int) := by assumption
              exact ⟨⟨⟨q + 1, by omega, by go_num, by rw [HCS.out, if_pos hle]; go_num⟩, trivial⟩, by simp [intOf]; omega⟩
            · have hle : (kc : Int) < e1 := by assumption
              exact ⟨⟨⟨q + 1, by omega, by go_num, by rw [HCS.out, if_neg (by omega)]; go_num⟩, trivial⟩, by simp [intOf]; omega⟩
          · have hqd : decide (q < ends.length) = false := by simp; omega
            have HEND : Hush ((ends.take q).countP (· ≤ (kc : Int)) = ys.length) := ⟨by rw [List.take_of_length_le (by omega)]; exact HCOUNT.out⟩
            have hE := HEND.out
            rw [hE]
            clear hE
            gi_wp2_with fail
            refine ⟨trivial, ?_⟩; gi_at_call 27; refine (callsIn_wide.2 (frame_Whole.calls kk2 j2 log full _ HF.out)).mono ?_
            rintro e W3 ⟨rfl, hb3⟩
            have B41 := Hush.mk (boxed_below B31.out hb3)
            have HK3 := Hush.mk ((hb3.block D (Array.getElem?_eq_some_iff.1 HKK.out).1).trans HKK.out)
            have hlw := HLAST.out
            have HW3 : Hush (Below w.heap.size w W3) := ⟨HW1.out.trans (hb3.mono HW1.out.size)⟩
            have cr3 := B41.out.cell
            have fr3 := B41.out.frozen
            clear hb3
            gi_wp2
            have hb4 : Boxed ((W3.setCell ⟨w.heap.size + 1, 0, none⟩ (.bool true)).putObj D (.deferred none)) (w.heap.size + 1) 4 (.bool true) := boxed_keep (B41.out.set _) (grownBy_putObj' _ D _) (fun r e => by cases e; exact ⟨_, (KeepsOthers.setCell _ _ _).same D _ HK3.out rfl, rfl⟩)
            refine ⟨by simp, .inl ⟨_, _, rfl, run_takeDeferred ((KeepsOthers.setCell _ _ _).same D _ HK3.out rfl), ?_⟩⟩
            exact ⟨_, by simp [results, Tryd.results6, go_sem, hb4.cell], rfl, (HW3.out.setCell (p := ⟨w.heap.size + 1, 0, none⟩) (by simp) _).trans (belowK_b (w := w) (Nat.le_refl _) _ D _ _ (by have := HB2.out.size; simp at hD; omega) ((KeepsOthers.setCell _ _ _).same D _ HK3.out rfl) rfl rfl)⟩
end Go.Proofs.YteilnbnnhocciaaDoor.KF

/-! KP10 -/
set_option linter.unusedVariables false
namespace Go.Proofs.YteilnbnnhocciaaDoor.P
open Go.RowKit Go.Proofs.YteilnbnnhocciaaDoorW.PrintWords Go.Proofs.YteilnbnnhocciaaDoorW.PrintLast Go.Proofs.YteilnbnnhocciaaDoorW.PrintMore Go.Proofs.YteilnbnnhocciaaDoorM Go.Proofs.YteilnbnnhocciaaDoor.KF
theorem full_space (a : Nat) : spaceN (a + padN a + (7 + spaceN a)) = 505 := by
  have hr := room_padded a
  have h0 := full_next a
  have e : (a + padN a + (7 + spaceN a)) % 512 = 0 := by unfold spaceN; unfold roomN at hr ⊢; omega
  generalize a + padN a + (7 + spaceN a) = b at e h0 ⊢
  unfold spaceN
  rw [h0]
  unfold roomN
  omega
theorem lays_bound {a : Nat} {rc : List UInt8} {bg : Bool} {out : List UInt8} (h : Lays a rc bg out) : out.length ≤ 14 * rc.length + (if spaceN a = 0 then 40 else 20) := by
  induction h with
  | last a rc bg h =>
    have := padN_lt a
    simp only [List.length_append, List.length_replicate, pieceL_len]
    split <;> omega
  | more a rc bg out h ho ih =>
    have := padN_lt a
    rw [full_space, if_neg (by decide)] at ih
    simp only [List.length_append, List.length_replicate, pieceL_len, List.length_take, List.length_drop] at ih ⊢
    by_cases hz : spaceN a = 0
    · rw [if_pos hz]; omega
    · rw [if_neg hz]; omega
theorem lays_any (a : Nat) (rc : List UInt8) : ∃ out, Lays a rc true out ∧ out.length ≤ 14 * rc.length + 40 := by
  obtain ⟨out, ho, _⟩ := lays_ex _ a rc true (Nat.le_refl _)
  refine ⟨out, ho, ?_⟩
  have := lays_bound ho
  split at this <;> omega
theorem lay_f (a : Nat) (rc : List UInt8) (out : List UInt8) (ho : Lays a rc true out) (ha : a + out.length ≤ 10000000) : ∃ K, ∀ k, K ≤ k → frame_Lay.f k (a : Int) (B rc) = some (B out) := by
  obtain ⟨K, hK⟩ := lay_p ho [] (by omega) (by simp; omega)
  refine ⟨K, fun k hk => ?_⟩
  have := hK k hk
  unfold frame_Lay.f
  rw [mx0, Int.toNat_natCast]
  exact this
def lists (strs : List ByteArray) : List (List UInt8) := strs.map fun s => s.data.toList
def ints (l : List Nat) : List Int := l.map fun n : Nat => (n : Int)
theorem ints_len (l : List Nat) : (ints l).length = l.length := by simp [ints]
theorem laid_l (strs : List ByteArray) (hs : strs.length ≤ 20) (hb : ∀ s ∈ strs, s.size ≤ 2000) : ∀ (d i : Nat) (log : List UInt8) (ends : List Nat), i + d = strs.length → Laid ((lists strs).take i) log ends → log.length ≤ i * 28040 → ends.length = i →
    ∃ log' ends', Laid (lists strs) log' ends' ∧ log'.length ≤ strs.length * 28040 ∧ (∃ K, ∀ k, K ≤ k → bourselaw05_laid.l0 k (B log) (ints ends) strs (strs.length : Int) (i : Int) = some (B log', ints ends'))
  | 0, i, log, ends, hi, hl, hlen, he => by
    refine ⟨log, ends, ?_, ?_, 1, fun k hk => ?_⟩
    · rw [List.take_of_length_le (by simp [lists]; omega)] at hl; exact hl
    · rw [show strs.length = i by omega]; exact hlen
    · obtain ⟨k, rfl⟩ : ∃ k', k = k' + 1 := ⟨k - 1, by omega⟩
      rw [bourselaw05_laid.l0, if_neg (by omega)]
  | d + 1, i, log, ends, hi, hl, hlen, he => by
    have hlt : i < strs.length := by omega
    obtain ⟨out, ho, hout⟩ := lays_any log.length (strs[i]).data.toList
    have hsz : (strs[i]).size ≤ 2000 := hb _ (List.getElem_mem hlt)
    have hsz2 : (strs[i]).data.toList.length ≤ 2000 := by rw [Array.length_toList]; exact hsz
    obtain ⟨K1, hK1⟩ := lay_f log.length _ out ho (by omega)
    have hl2 : Laid ((lists strs).take (i + 1)) (log ++ out) (ends ++ [log.length + out.length]) := by
      rw [List.take_succ_eq_append_getElem (by simp [lists]; omega)]
      have := Laid.snoc _ log ends (strs[i]).data.toList out hl ho
      simpa [lists] using this
    obtain ⟨log', ends', h1, h2, K2, hK2⟩ := laid_l strs hs hb d (i + 1) (log ++ out) (ends ++ [log.length + out.length]) (by omega) hl2 (by rw [List.length_append]; omega) (by simp [he])
    refine ⟨log', ends', h1, h2, K1 + K2 + 1, fun k hk => ?_⟩
    obtain ⟨k, rfl⟩ : ∃ k', k = k' + 1 := ⟨k - 1, by omega⟩
    have hrd : rdOf ByteArray.empty strs (i : Int) = B (strs[i]).data.toList := by
      unfold rdOf
      rw [Int.toNat_natCast, List.getD_eq_getElem?_getD, List.getElem?_eq_getElem hlt]
      exact B_of _
    have q1 : (i : Int) < (strs.length : Int) := by omega
    have q2 : (0 : Int) ≤ (i : Int) := by omega
    have q3 : log.length + (B out).size ≤ 9223372036854775807 := by rw [B_size]; omega
    have q4 : (ints ends).length < 17592186044416 := by rw [ints_len]; omega
    rw [bourselaw05_laid.l0, if_pos q1, if_pos q2, if_pos q1, hrd]
    have hf := hK1 k (by omega)
    rw [B_size]
    refine (bind_some_of hf).trans ?_
    rw [if_pos q3, if_pos q4, B_app]
    have w1 : wrap64 ((i : Int) + 1) = ((i + 1 : Nat) : Int) := by rw [wrap_in (by omega) (by omega)]; omega
    have e : ints ends ++ [((log.length : Int) + ((B out).size : Int))] = ints (ends ++ [log.length + out.length]) := by
      rw [B_size]
      simp [ints]
    rw [w1, e]
    exact hK2 k (by omega)
theorem laid_f (strs : List ByteArray) (hs : strs.length ≤ 20) (hb : ∀ s ∈ strs, s.size ≤ 2000) :
    ∃ (log : List UInt8) (ends : List Nat) (k : Nat), Laid (lists strs) log ends ∧ log.length ≤ 600000 ∧ bourselaw05_laid.f k strs = some (B log, ints ends) := by
  obtain ⟨log, ends, h1, h2, K, hK⟩ := laid_l strs hs hb strs.length 0 [] [] (by omega) (by simpa using Laid.nil) (by simp) rfl
  exact ⟨log, ends, K, h1, by omega, hK K (Nat.le_refl _)⟩
theorem asB_zip : ∀ (strs : List ByteArray) (ends : List Nat), asB ((lists strs).zip ends) = strs.zip (ints ends)
  | [], _ => rfl
  | _ :: _, [] => rfl
  | s :: r, n :: m => by
    have := asB_zip r m
    simp only [lists, ints, asB, List.map_cons, List.zip_cons_cons] at this ⊢
    rw [this, ← B_of]
theorem path_last {log : List UInt8} {a b : Nat} {l : List (List UInt8 × Nat)} (h : Path log a l b) : (asB l).foldl (fun _ x => x.2) (a : Int) = (b : Int) := by
  induction h with
  | nil a => rfl
  | more a s tw l b _ _ ih => exact ih
theorem asB_prefix {l m : List (List UInt8 × Nat)} (h : m <+: l) : asB m <+: asB l := by
  obtain ⟨t, rfl⟩ := h
  exact ⟨asB t, by simp [asB]⟩
theorem u64_range (n : Int) : 0 ≤ IntKind.u64.wrap n ∧ IntKind.u64.wrap n < 18446744073709551616 := by
  show 0 ≤ n % 18446744073709551616 ∧ n % 18446744073709551616 < 18446744073709551616
  omega
theorem cut_n (cut : Int) (n : Nat) (hn : n ≤ 1000000) : ∃ kc : Nat, wrap64 ((IntKind.u64.wrap cut).tmod ((n : Int) + 1)) = (kc : Int) ∧ kc ≤ n := by
  obtain ⟨h1, h2⟩ := u64_range cut
  generalize IntKind.u64.wrap cut = u at h1 h2
  have e : u.tmod ((n : Int) + 1) = u % ((n : Int) + 1) := Int.tmod_eq_emod_of_nonneg h1
  have h3 := Int.emod_nonneg u (show ((n : Int) + 1) ≠ 0 by omega)
  have h4 := Int.emod_lt_of_pos u (show 0 < ((n : Int) + 1) by omega)
  refine ⟨(u % ((n : Int) + 1)).toNat, ?_, by omega⟩
  rw [e, wrap_in (by omega) (by omega)]
  omega
theorem back_law (strs : List ByteArray) (cut : Int) (hs : strs.length ≤ 20) (hb : ∀ s ∈ strs, s.size ≤ 2000) :
    ∃ (k : Nat) (log : ByteArray) (ends : List Int), bourselaw05_laid.f k strs = some (log, ends) ∧ log.size ≤ 1000000 ∧ ends.length = strs.length ∧
    ∃ kc : Nat, wrap64 ((IntKind.u64.wrap cut).tmod ((log.size : Int) + 1)) = (kc : Int) ∧ kc ≤ log.size ∧
    (∃ (kk j : Nat) (all : List (ByteArray × Int)), recs kk (log.extract 0 kc) j 0 = some all ∧ all <+: strs.zip ends ∧ ends.countP (· ≤ (kc : Int)) = all.length) ∧
    ∃ (kk2 j2 : Nat) (full : List (ByteArray × Int)), recs kk2 log j2 0 = some full ∧ lastTo full = (log.size : Int) := by
  obtain ⟨log, ends, k, hl, hlen, hf⟩ := laid_f strs hs hb
  have hlz := laid_len hl
  have hls : (lists strs).length = strs.length := by simp [lists]
  obtain ⟨kc, hkc, hkl⟩ := cut_n cut log.length (by omega)
  have hp := laid_path hl []
  rw [List.append_nil] at hp
  obtain ⟨m, hm, hr, hc⟩ := path_cut hp rfl kc (Nat.zero_le _) hkl
  obtain ⟨J, K, hJ⟩ := recs_p (by rw [List.length_take]; omega) hr (Nat.zero_le _)
  obtain ⟨J2, K2, hJ2⟩ := recs_p (by omega) (path_done hp (fun s tw => rec_end s tw)) (Nat.zero_le _)
  refine ⟨k, B log, ints ends, hf, by rw [B_size]; omega, by rw [ints_len]; omega, kc, by rw [B_size]; exact hkc, by rw [B_size]; exact hkl, ⟨K, J, asB m, ?_, ?_, ?_⟩, K2, J2, _, hJ2 K2 (Nat.le_refl _), ?_⟩
  · rw [B_ext _ _ _ hkl, List.drop_zero]
    exact hJ K (Nat.le_refl _)
  · rw [← asB_zip]
    exact asB_prefix hm
  · have e : (ints ends).countP (· ≤ (kc : Int)) = ends.countP (· ≤ kc) := by
      unfold ints
      rw [List.countP_map]
      congr 1
      funext x
      simp
    rw [e]
    have e2 : ((lists strs).zip ends).map (·.2) = ends := List.map_snd_zip (by omega)
    rw [e2] at hc
    rw [hc]
    simp [asB]
  · rw [B_size]
    exact path_last hp
end Go.Proofs.YteilnbnnhocciaaDoor.P

/-! KF29 -/
namespace Go.Proofs.YteilnbnnhocciaaDoor.KF
open Go.RowKit Go.Proofs.YteilnbnnhocciaaDoorW.PrintWords Go.Proofs.YteilnbnnhocciaaDoorW.PrintLast Go.Proofs.YteilnbnnhocciaaDoorW.PrintMore Go.Proofs.YteilnbnnhocciaaDoorM
attribute [local go_sem] max2_int min2_int max_two min_two max_three min_three max_four min_four
set_option linter.unusedVariables false
set_option linter.unusedSimpArgs false
def bourselaw05_pieces.l0 : Nat → ByteArray → Int → List Int → Option (List Int)
  | 0, _, _, _ => none
  | k + 1, x0, x1, x5 => if x1 < (x0.size : Int) then (if (wrap64 (512 - (Int.tmod x1 512))) < 7 then (bourselaw05_pieces.l0 k x0 (wrap64 (x1 + (wrap64 (512 - (Int.tmod x1 512))))) x5) else (if x5.length < 17592186044416 then (if 0 ≤ (wrap64 (x1 + 4)) then (if (wrap64 (x1 + 4)) < (x0.size : Int) then (if 0 ≤ (wrap64 (x1 + 5)) then (if (wrap64 (x1 + 5)) < (x0.size : Int) then (bourselaw05_pieces.l0 k x0 (wrap64 (x1 + (wrap64 ((wrap64 (7 + (wrap64 (bt x0 (wrap64 (x1 + 4)))))) + (wrap64 (256 * (wrap64 (bt x0 (wrap64 (x1 + 5)))))))))) (x5 ++ [x1])) else (none)) else (none)) else (none)) else (none)) else (none))) else (some x5)
def bourselaw05_pieces.f (k : Nat) (a0 : ByteArray) (a1 : Int) : Option (List Int) := bourselaw05_pieces.l0 k a0 a1 ([] : List Int)
set_option maxHeartbeats 8000000 in
set_option maxRecDepth 100000 in
theorem bourselaw05_pieces.calls (k : Nat) (a0 : ByteArray) (a1 : Int) (r : List Int) (w : World) (h : bourselaw05_pieces.f k a0 a1 = some r) :
    Calls Tryd.prog 29 #[.string a0, .int .i64 a1] w fun e w' => ∃ v0_ : Value, e = .returned (v0_) ∧ Kd.R (Kd.int .i64) 3 w' w.heap.size (fun _ => True) v0_ r ∧ Below w.heap.size w w' := by
  have HB := Aside0.mk (Below.refl w.heap.size w)
  have H : (bourselaw05_pieces.l0 k a0 a1 ([] : List Int)) = some r := h
  clear h
  have H' := Aside0.mk H
  clear H
  go_enter Tryd.func29, Tryd.ntmps29
  go_wp2
  repeat (go_quiet (fail); try go_wp2)
  go_loopg [1, 5] k (fun kq v1 v5 w' => ∃ (x1_1 : Int) (x5_1 : List Int), v1 = .int .i64 x1_1 ∧ Aside0 (bourselaw05_pieces.l0 kq a0 x1_1 x5_1 = some r) ∧ Aside0 (kq ≤ k) ∧ Aside0 (Kd.R (Kd.int .i64) 3 w' w.heap.size (fun _ => True) v5 x5_1) ∧ Aside0 (Below w.heap.size w w'))
  case atStart => exact ⟨(a1), (([] : List Int)), (by first | rfl | (simp; done) | (simp [*]; done)), H', ⟨Nat.le_refl _⟩, ⟨by first | exact Kd.R_nil _ _ _ _ _ | exact Kd.N_nil _ _ _ _ _ | exact Kd.V_nil _ _ _ _ _ | exact Kd.Q_nil _ _ _ _ _ | exact Kd.S_nil _ _ _ _ _⟩, ⟨by repeat (first | (with_reducible first | exact HB.out | apply below_alloc | apply pw_below_drewN | apply below_drew1) | exact HB.out)⟩⟩
  case round =>
    clear H'
    try clear c2
    try clear p2
    obtain ⟨x1_1, x5_1, rfl, HA, HK1, HO_5, HB⟩ := hrel
    cases gk with
    | zero => exact absurd HA.out (by simp [bourselaw05_pieces.l0])
    | succ k1 =>
      have H := HA.out
      clear HA
      simp only [bourselaw05_pieces.l0] at H
      by_cases c3 : x1_1 < (a0.size : Int)
      · rw [if_pos c3] at H
        have c3b0 : decide (x1_1 < (a0.size : Int)) = true := decide_eq_true c3
        clear c3
        by_cases c4 : (wrap64 (512 - (Int.tmod x1_1 512))) < 7
        · rw [if_pos c4] at H
          have c4b0 : decide ((wrap64 (512 - (Int.tmod x1_1 512))) < 7) = true := decide_eq_true c4
          clear c4
          have H' := Aside0.mk H
          clear H
          go_wp2
          repeat (go_quiet (fail); try go_wp2)
          go_roundg k1
          case measure => have := HK1.out; omega
          case rel => exact ⟨(wrap64 (x1_1 + (wrap64 (512 - (Int.tmod x1_1 512))))), (x5_1), (by first | rfl | (simp; done) | (simp [*]; done)), H', ⟨by have := HK1.out; omega⟩, ⟨by (with_reducible repeat (first | apply Kd.R_alloc | apply Kd.R_drewN | apply Kd.R_drew)); exact HO_5.out⟩, ⟨by repeat (first | (with_reducible first | exact HB.out | apply below_alloc | apply pw_below_drewN | apply below_drew1) | exact HB.out)⟩⟩
        · rw [if_neg c4] at H
          have c4b0 : decide ((wrap64 (512 - (Int.tmod x1_1 512))) < 7) = false := decide_eq_false c4
          clear c4
          by_cases c5 : x5_1.length < 17592186044416
          · rw [if_pos c5] at H
            have LMc5 := Aside0.mk c5
            clear c5
            obtain ⟨y150, hy150⟩ : ∃ y_ : List Int, y_ = (x5_1 ++ [x1_1]) := ⟨_, rfl⟩
            replace H : (if 0 ≤ (wrap64 (x1_1 + 4)) then (if (wrap64 (x1_1 + 4)) < (a0.size : Int) then (if 0 ≤ (wrap64 (x1_1 + 5)) then (if (wrap64 (x1_1 + 5)) < (a0.size : Int) then (bourselaw05_pieces.l0 k1 a0 (wrap64 (x1_1 + (wrap64 ((wrap64 (7 + (wrap64 (bt a0 (wrap64 (x1_1 + 4)))))) + (wrap64 (256 * (wrap64 (bt a0 (wrap64 (x1_1 + 5)))))))))) y150) else (none)) else (none)) else (none)) else (none)) = some r := by first | (rw [hy150]; with_reducible exact H) | (have H2_ := (Option.bind_some _ _).symm.trans H; rw [hy150]; with_reducible exact H2_) | (have H2_ := (Option.bind_some _ _).symm.trans H; with_reducible exact H2_) | with_reducible exact H | (rw [hy150]; exact H) | exact H
            have Ny150 := Aside0.mk hy150
            clear hy150
            obtain ⟨ji6, hji6⟩ : ∃ j_ : Int, (wrap64 (x1_1 + 4)) = j_ := ⟨_, rfl⟩
            replace H : (if 0 ≤ (ji6) then (if (ji6) < (a0.size : Int) then (if 0 ≤ (wrap64 (x1_1 + 5)) then (if (wrap64 (x1_1 + 5)) < (a0.size : Int) then (bourselaw05_pieces.l0 k1 a0 (wrap64 (x1_1 + (wrap64 ((wrap64 (7 + (wrap64 (bt a0 (ji6))))) + (wrap64 (256 * (wrap64 (bt a0 (wrap64 (x1_1 + 5)))))))))) y150) else (none)) else (none)) else (none)) else (none)) = some r := by first | (rw [hji6] at H; exact H) | (simp only [hji6] at H ⊢; exact H)
            have hji6w : (IntKind.i64.wrap (x1_1 + 4)) = ji6 := (i64_w _).trans hji6
            by_cases c7 : 0 ≤ (ji6)
            · rw [if_pos c7] at H
              have c7b0 : decide (0 ≤ (ji6)) = true := decide_eq_true c7
              clear c7
              by_cases c8 : (ji6) < (a0.size : Int)
              · rw [if_pos c8] at H
                have c8b0 : decide ((ji6) < (a0.size : Int)) = true := decide_eq_true c8
                clear c8
                obtain ⟨ji10, hji10⟩ : ∃ j_ : Int, (wrap64 (x1_1 + 5)) = j_ := ⟨_, rfl⟩
                replace H : (if 0 ≤ (ji10) then (if (ji10) < (a0.size : Int) then (bourselaw05_pieces.l0 k1 a0 (wrap64 (x1_1 + (wrap64 ((wrap64 (7 + (wrap64 (bt a0 (ji6))))) + (wrap64 (256 * (wrap64 (bt a0 (ji10))))))))) y150) else (none)) else (none)) = some r := by first | (rw [hji10] at H; exact H) | (simp only [hji10] at H ⊢; exact H)
                have hji10w : (IntKind.i64.wrap (x1_1 + 5)) = ji10 := (i64_w _).trans hji10
                by_cases c11 : 0 ≤ (ji10)
                · rw [if_pos c11] at H
                  have c11b0 : decide (0 ≤ (ji10)) = true := decide_eq_true c11
                  clear c11
                  by_cases c12 : (ji10) < (a0.size : Int)
                  · rw [if_pos c12] at H
                    have c12b0 : decide ((ji10) < (a0.size : Int)) = true := decide_eq_true c12
                    clear c12
                    have H' := Aside0.mk H
                    clear H
                    go_wp2_with (first | ((with_reducible refine gate_builtin (b := .append) (xs := #[.tmp 19, .tmp 21]) rfl ?_); at_builtin; refine Kd.R_append (Kd.int .i64) (w0 := w) w.heap.size rfl (.tmp 19) (.tmp 21) 59 3 (.int .i64 0) 8 rfl Tryd.underlying59 info3 rfl (by decide) (by omega) u5 x5_1 x1_1 [.int .i64 x1_1] (fun _ => True) (fun _ => False) rfl rfl ?aP (fun _ hk => hk.elim) ?aF ?aO ?aB ?aS ?aL ?_; (case aP => exact rfl); (case aB => exact (by repeat (first | (with_reducible first | exact HB.out | apply below_alloc | apply pw_below_drewN | apply below_drew1) | exact HB.out))); (case aF => exact (fun _ _ => trivial)); (case aO => exact (by (with_reducible repeat (first | apply Kd.R_alloc | apply Kd.R_drewN | apply Kd.R_drew)); exact HO_5.out)); (case aS => exact (below_size (by repeat (first | (with_reducible first | exact HB.out | apply below_alloc | apply pw_below_drewN | apply below_drew1) | exact HB.out)))); (case aL => have := LMc5.out; omega); intro v151 w14 ho hb hg hat; rw [← Ny150.out] at ho; have n0_ := Aside0.mk (hb); have n1_ := Aside0.mk (ho); clear HB; clear HO_5; have HB := n0_; have HO152 := n1_; clear n0_ n1_; clear ho hb hg hat; have p9 : 0 ≤ ((ji6) : Int) := of_decide_eq_true (by first | (with_reducible assumption) | assumption); have q9 : (ji6) < (a0.size : Int) := of_decide_eq_true (by first | (with_reducible assumption) | assumption); have hx9 := bt_at a0 (ji6); replace p9 := eq_true p9; replace q9 := eq_true q9; have p13 : 0 ≤ ((ji10) : Int) := of_decide_eq_true (by first | (with_reducible assumption) | assumption); have q13 : (ji10) < (a0.size : Int) := of_decide_eq_true (by first | (with_reducible assumption) | assumption); have hx13 := bt_at a0 (ji10); replace p13 := eq_true p13; replace q13 := eq_true q13))
                    repeat (go_quiet (first | ((with_reducible refine gate_builtin (b := .append) (xs := #[.tmp 19, .tmp 21]) rfl ?_); at_builtin; refine Kd.R_append (Kd.int .i64) (w0 := w) w.heap.size rfl (.tmp 19) (.tmp 21) 59 3 (.int .i64 0) 8 rfl Tryd.underlying59 info3 rfl (by decide) (by omega) u5 x5_1 x1_1 [.int .i64 x1_1] (fun _ => True) (fun _ => False) rfl rfl ?aP (fun _ hk => hk.elim) ?aF ?aO ?aB ?aS ?aL ?_; (case aP => exact rfl); (case aB => exact (by repeat (first | (with_reducible first | exact HB.out | apply below_alloc | apply pw_below_drewN | apply below_drew1) | exact HB.out))); (case aF => exact (fun _ _ => trivial)); (case aO => exact (by (with_reducible repeat (first | apply Kd.R_alloc | apply Kd.R_drewN | apply Kd.R_drew)); exact HO_5.out)); (case aS => exact (below_size (by repeat (first | (with_reducible first | exact HB.out | apply below_alloc | apply pw_below_drewN | apply below_drew1) | exact HB.out)))); (case aL => have := LMc5.out; omega); intro v151 w14 ho hb hg hat; rw [← Ny150.out] at ho; have n0_ := Aside0.mk (hb); have n1_ := Aside0.mk (ho); clear HB; clear HO_5; have HB := n0_; have HO152 := n1_; clear n0_ n1_; clear ho hb hg hat; have p9 : 0 ≤ ((ji6) : Int) := of_decide_eq_true (by first | (with_reducible assumption) | assumption); have q9 : (ji6) < (a0.size : Int) := of_decide_eq_true (by first | (with_reducible assumption) | assumption); have hx9 := bt_at a0 (ji6); replace p9 := eq_true p9; replace q9 := eq_true q9; have p13 : 0 ≤ ((ji10) : Int) := of_decide_eq_true (by first | (with_reducible assumption) | assumption); have q13 : (ji10) < (a0.size : Int) := of_decide_eq_true (by first | (with_reducible assumption) | assumption); have hx13 := bt_at a0 (ji10); replace p13 := eq_true p13; replace q13 := eq_true q13)); try go_wp2_with (first | ((with_reducible refine gate_builtin (b := .append) (xs := #[.tmp 19, .tmp 21]) rfl ?_); at_builtin; refine Kd.R_append (Kd.int .i64) (w0 := w) w.heap.size rfl (.tmp 19) (.tmp 21) 59 3 (.int .i64 0) 8 rfl Tryd.underlying59 info3 rfl (by decide) (by omega) u5 x5_1 x1_1 [.int .i64 x1_1] (fun _ => True) (fun _ => False) rfl rfl ?aP (fun _ hk => hk.elim) ?aF ?aO ?aB ?aS ?aL ?_; (case aP => exact rfl); (case aB => exact (by repeat (first | (with_reducible first | exact HB.out | apply below_alloc | apply pw_below_drewN | apply below_drew1) | exact HB.out))); (case aF => exact (fun _ _ => trivial)); (case aO => exact (by (with_reducible repeat (first | apply Kd.R_alloc | apply Kd.R_drewN | apply Kd.R_drew)); exact HO_5.out)); (case aS => exact (below_size (by repeat (first | (with_reducible first | exact HB.out | apply below_alloc | apply pw_below_drewN | apply below_drew1) | exact HB.out)))); (case aL => have := LMc5.out; omega); intro v151 w14 ho hb hg hat; rw [← Ny150.out] at ho; have n0_ := Aside0.mk (hb); have n1_ := Aside0.mk (ho); clear HB; clear HO_5; have HB := n0_; have HO152 := n1_; clear n0_ n1_; clear ho hb hg hat; have p9 : 0 ≤ ((ji6) : Int) := of_decide_eq_true (by first | (with_reducible assumption) | assumption); have q9 : (ji6) < (a0.size : Int) := of_decide_eq_true (by first | (with_reducible assumption) | assumption); have hx9 := bt_at a0 (ji6); replace p9 := eq_true p9; replace q9 := eq_true q9; have p13 : 0 ≤ ((ji10) : Int) := of_decide_eq_true (by first | (with_reducible assumption) | assumption); have q13 : (ji10) < (a0.size : Int) := of_decide_eq_true (by first | (with_reducible assumption) | assumption); have hx13 := bt_at a0 (ji10); replace p13 := eq_true p13; replace q13 := eq_true q13)))
                    go_roundg k1
                    case measure => have := HK1.out; omega
                    case rel => exact ⟨(wrap64 (x1_1 + (wrap64 ((wrap64 (7 + (wrap64 (bt a0 (ji6))))) + (wrap64 (256 * (wrap64 (bt a0 (ji10))))))))), (y150), (by first | rfl | (simp; done) | (simp only [← hji6, ← hji10] <;> (first | rfl | simp)) | (simp [*]; done)), H', ⟨by have := HK1.out; omega⟩, ⟨by (with_reducible repeat (first | apply Kd.R_alloc | apply Kd.R_drewN | apply Kd.R_drew)); exact HO152.out⟩, ⟨by repeat (first | (with_reducible first | exact HB.out | apply below_alloc | apply pw_below_drewN | apply below_drew1) | exact HB.out)⟩⟩
                  · rw [if_neg c12] at H
                    exact absurd H (by simp)
                · rw [if_neg c11] at H
                  exact absurd H (by simp)
              · rw [if_neg c8] at H
                exact absurd H (by simp)
            · rw [if_neg c7] at H
              exact absurd H (by simp)
          · rw [if_neg c5] at H
            exact absurd H (by simp)
      · rw [if_neg c3] at H
        have c3b0 : decide (x1_1 < (a0.size : Int)) = false := decide_eq_false c3
        clear c3
        obtain rfl := Option.some.inj H
        go_wp2
        repeat (go_quiet (fail); try go_wp2)
        go_ret
        exact ⟨_, by first | rfl | (simp [errW_none, errW_some] <;> rfl) | (simp [*, errW_none, errW_some] <;> rfl), by (with_reducible repeat (first | apply Kd.R_alloc | apply Kd.R_drewN | apply Kd.R_drew)); exact HO_5.out, by repeat (first | (with_reducible first | exact HB.out | apply below_alloc | apply pw_below_drewN | apply below_drew1) | exact HB.out)⟩
end Go.Proofs.YteilnbnnhocciaaDoor.KF

/-! KG5 -/
set_option linter.unusedVariables false
namespace Go.Proofs.YteilnbnnhocciaaDoor.KF
open Go.RowKit Go.Shelf Go.Proofs.YteilnbnnhocciaaDoorW.PrintWords Go.Proofs.YteilnbnnhocciaaDoorW.PrintLast Go.Proofs.YteilnbnnhocciaaDoorW.PrintMore Go.Proofs.YteilnbnnhocciaaDoorM
attribute [local go_sem] Oper.semAt_some
set_option maxRecDepth 100000 in
set_option maxHeartbeats 2000000 in
theorem frameTurns_few (A : Option Addr) (c : Nat) (strs : List ByteArray) (at_ : Int) (turn : Nat) (w : World) (hl : strs.length < 1 ∨ 10 < strs.length ∨ turn = 0) :
    Calls Tryd.prog 7 #[.slice A strs.length c, .int .i64 at_, .int .u8 (turn : Nat)] w fun e w' => e = .returned (.bool true) ∧ Below w.heap.size w w' := by
  have b0 := (Boxed.new w 58 (.slice A strs.length c)).alloc (.cells #[.bool false] 4)
  have b1 := Boxed.new (w.alloc (.cells #[.slice A strs.length c] 58)) 4 (.bool false)
  rw [World.size_alloc] at b1
  have HB0 := Hush.mk (((Below.refl _ w).alloc (Nat.le_refl _) (.cells #[.slice A strs.length c] 58)).alloc (by simp) (.cells #[.bool false] 4))
  have B0 := Hush.mk b0
  have B1 := Hush.mk b1
  have HL := Hush.mk hl
  clear b0 b1 hl
  by_cases h1 : strs.length < 1
  · have hd1 : decide (strs.length < 1) = true := decide_eq_true h1
    go_enter Tryd.func7, Tryd.ntmps7
    go_wp2_with fail
    refine (bourselaw05_awake.calls _).mono ?_
    rintro e w1 ⟨rfl, hb1⟩
    have B10 := Hush.mk (boxed_below B0.out hb1)
    have B2 := Hush.mk (boxed_below B1.out hb1)
    have HB1 := Hush.mk (HB0.out.trans (hb1.mono HB0.out.size))
    clear hb1
    have hc0 := B10.out.cell
    have hc := B2.out.cell
    have hf := B2.out.frozen
    go_wp2
    refine bodyPost_ret (v := .bool true) (by simp [results, Tryd.results7, go_sem, hc]) rfl ⟨rfl, ?_⟩
    exact HB1.out.setCell (p := ⟨w.heap.size + 1, 0, none⟩) (by simp) _
  · have hd1 : decide (strs.length < 1) = false := decide_eq_false h1
    by_cases h2 : 10 < strs.length
    · have hd2 : decide (10 < strs.length) = true := decide_eq_true h2
      go_enter Tryd.func7, Tryd.ntmps7
      go_wp2_with fail
      refine (bourselaw05_awake.calls _).mono ?_
      rintro e w1 ⟨rfl, hb1⟩
      have B10 := Hush.mk (boxed_below B0.out hb1)
      have B2 := Hush.mk (boxed_below B1.out hb1)
      have HB1 := Hush.mk (HB0.out.trans (hb1.mono HB0.out.size))
      clear hb1
      have hc0 := B10.out.cell
      have hc := B2.out.cell
      have hf := B2.out.frozen
      go_wp2
      refine bodyPost_ret (v := .bool true) (by simp [results, Tryd.results7, go_sem, hc]) rfl ⟨rfl, ?_⟩
      exact HB1.out.setCell (p := ⟨w.heap.size + 1, 0, none⟩) (by simp) _
    · have hd2 : decide (10 < strs.length) = false := decide_eq_false h2
      obtain rfl : turn = 0 := by have := HL.out; omega
      go_enter Tryd.func7, Tryd.ntmps7
      go_wp2_with fail
      refine (bourselaw05_awake.calls _).mono ?_
      rintro e w1 ⟨rfl, hb1⟩
      have B10 := Hush.mk (boxed_below B0.out hb1)
      have B2 := Hush.mk (boxed_below B1.out hb1)
      have HB1 := Hush.mk (HB0.out.trans (hb1.mono HB0.out.size))
      clear hb1
      have hc0 := B10.out.cell
      have hc := B2.out.cell
      have hf := B2.out.frozen
      go_wp2
      refine bodyPost_ret (v := .bool true) (by simp [results, Tryd.results7, go_sem, hc]) rfl ⟨rfl, ?_⟩
      exact HB1.out.setCell (p := ⟨w.heap.size + 1, 0, none⟩) (by simp) _
set_option maxRecDepth 100000 in
set_option maxHeartbeats 2000000 in
theorem frameTurns_long (A : Option Addr) (c : Nat) (strs : List ByteArray) (at_ : Int) (turn : Nat) (w : World) (hC : Kd.string.C w A strs.length strs) (hl : strs.length ≤ 10) (ht : turn ≠ 0) (m : Nat) (hm : m < strs.length) (hb : 400 < (rdOf ByteArray.empty strs (m : Int)).size) :
    Calls Tryd.prog 7 #[.slice A strs.length c, .int .i64 at_, .int .u8 (turn : Nat)] w fun e w' => e = .returned (.bool true) ∧ Below w.heap.size w w' := by
  have b0 := (Boxed.new w 58 (.slice A strs.length c)).alloc (.cells #[.bool false] 4)
  have b1 := Boxed.new (w.alloc (.cells #[.slice A strs.length c] 58)) 4 (.bool false)
  rw [World.size_alloc] at b1
  have HB0 := Hush.mk (((Below.refl _ w).alloc (Nat.le_refl _) (.cells #[.slice A strs.length c] 58)).alloc (by simp) (.cells #[.bool false] 4))
  have B0 := Hush.mk b0
  have B1 := Hush.mk b1
  clear b0 b1
  have hd1 : decide (strs.length < 1) = false := decide_eq_false (by omega)
  have hd : decide (10 < strs.length) = false := by simp; omega
  have ht2 : ((turn : Int) == 0) = false := by simp; omega
  have HC0 := Hush.mk hC
  have HM := Hush.mk hb
  obtain ⟨ad, rfl, _⟩ := Kd.at_string hC (m : Int) (by omega) (by omega)
  clear hC hb ht
  go_enter Tryd.func7, Tryd.ntmps7
  go_wp2_with fail
  refine (bourselaw05_awake.calls _).mono ?_
  rintro e w1 ⟨rfl, hb1⟩
  have B10 := Hush.mk (boxed_below B0.out hb1)
  have B2 := Hush.mk (boxed_below B1.out hb1)
  have HB1 := Hush.mk (HB0.out.trans (hb1.mono HB0.out.size))
  have HC := Hush.mk (Kd.C_below HC0.out HB1.out)
  clear hb1
  have hc0 := B10.out.cell
  have hc := B2.out.cell
  have hf := B2.out.frozen
  go_wp2
  go_loop [34] (fun t => ∃ i : Nat, i ≤ m ∧ t = .int .i64 (i : Nat)) (fun t => m - (intOf t).toNat)
  case atStart => exact ⟨0, Nat.zero_le _, rfl⟩
  case round =>
    obtain ⟨i, hi, rfl⟩ := hrel
    obtain ⟨ad', e, hs⟩ := Kd.at_string HC.out (i : Int) (by omega) (by omega)
    obtain rfl := Option.some.inj e
    simp only [Int.toNat_natCast] at hs
    have hi2 : i < strs.length := by omega
    have hi3 : (i : Int) < (strs.length : Int) := by omega
    have hM : i = m → 400 < (rdOf ByteArray.empty strs (i : Int)).size := fun e => by rw [e]; exact HM.out
    have HMI := Hush.mk hM
    obtain ⟨s, hsn⟩ : ∃ s, s = rdOf ByteArray.empty strs (i : Int) := ⟨_, rfl⟩
    rw [← hsn] at hs HMI
    clear hsn hM
    by_cases hbig : 400 < s.size
    · go_wp2
      refine bodyPost_ret (v := .bool true) (by simp [results, Tryd.results7, go_sem, hc]) rfl ⟨rfl, ?_⟩
      exact HB1.out.setCell (p := ⟨w.heap.size + 1, 0, none⟩) (by simp) _
    · go_wp2
      have hne : i ≠ m := fun e => hbig (HMI.out e)
      go_round
      case rel => exact ⟨i + 1, by omega, by go_num⟩
      case measure => simp [intOf]; omega
def badAt (kk i p : Nat) : Prop := (i = 0 ∧ kk < p) ∨ kk = p + 4 ∨ kk = p + 5 ∨ kk = p + 6
instance (kk i p : Nat) : Decidable (badAt kk i p) := by unfold badAt; infer_instance
def natInts (l : List Nat) : List Int := l.map fun n : Nat => (n : Int)
theorem natInts_len (l : List Nat) : (natInts l).length = l.length := by simp [natInts]
theorem natInts_rd (l : List Nat) (i : Nat) (h : i < l.length) : rd (natInts l) (i : Int) = ((l[i] : Nat) : Int) := by
  unfold rd natInts
  rw [Int.toNat_natCast, List.getD_eq_getElem?_getD]
  simp [h]
theorem bytes_free {W : World} {g sz kk t : Nat} {cells : Array Value} (h : W.heap[g]? = some (.cells cells t (sz, sz + 1))) (hk : kk < sz) : W.frozen? ⟨g, kk, none⟩ = false := by
  simp [World.frozen?, h]
  omega
theorem bytesCells_size (w : World) (e : TypeId) (s : ByteArray) : s.size ≤ (Lib.bytesCells w e s).size := by
  unfold Lib.bytesCells
  rw [Array.size_append, Array.size_map]
  exact Nat.le_add_right _ _
theorem reads_turned {W : World} {g n kk : Nat} {xs : List Int} (h : ReadsInt W .u8 (some ⟨g, 0, none⟩) n xs) (d : Int) (o : Obj) : ReadsInt ((W.setCell ⟨g, kk, none⟩ (.int .u8 d)).alloc o) .u8 (some ⟨g, 0, none⟩) n (xs.set kk d) := by
  refine ReadsInt.allocS ?_ o
  obtain ⟨h1, h2, h3⟩ := h
  refine ⟨by rw [List.length_set]; exact h1, h2, fun hn => ⟨_, rfl, fun j hj => ?_⟩⟩
  obtain ⟨ad, e, hc⟩ := h3 hn
  obtain rfl := Option.some.inj e
  have hj2 := hc j hj
  rw [add_plain] at hj2 ⊢
  by_cases hjk : j = kk
  · subst hjk
    rw [World.cell?_setCell_same' _ _ _ (by rw [hj2]; rfl)]
    simp [List.getD_eq_getElem?_getD, show j < xs.length from by omega]
  · rw [World.cell?_setCell_other _ _ _ _ (by simp [hjk]), hj2]
    simp [List.getD_eq_getElem?_getD, List.getElem?_set_ne (Ne.symm hjk)]
theorem nprefix_snoc {strs : List ByteArray} {ends : List Int} {pre all : List (ByteArray × Int)} {x : ByteArray × Int} (hz : all <+: strs.zip ends) (hp : pre.map Prod.fst <+: all.map Prod.fst) (hl : pre.length < all.length) :
    (pre ++ [x]).map Prod.fst <+: all.map Prod.fst ↔ x.1.toList = (rdOf ByteArray.empty strs (pre.length : Int)).toList := by
  have hlz : pre.length < (strs.zip ends).length := Nat.lt_of_lt_of_le hl hz.length_le
  have hls : pre.length < strs.length := by rw [List.length_zip] at hlz; omega
  have h2 : (all.map Prod.fst)[pre.length]? = some strs[pre.length] := by
    have h3 : all[pre.length]? = (strs.zip ends)[pre.length]? := by
      obtain ⟨t, ht⟩ := hz
      rw [← ht, List.getElem?_append_left hl]
    rw [List.getElem?_map, h3, List.getElem?_eq_getElem hlz, List.getElem_zip]
    rfl
  obtain ⟨r, hr⟩ := hp
  have hlen : (all.map Prod.fst).length = all.length := by simp
  cases r with
  | nil => rw [← hr] at hlen; simp at hlen; omega
  | cons y r =>
    have e1 : rdOf ByteArray.empty strs (pre.length : Int) = y := by
      unfold rdOf
      rw [Int.toNat_natCast, List.getD_eq_getElem?_getD, List.getElem?_eq_getElem hls]
      rw [← hr, List.getElem?_append_right (by simp)] at h2
      simp at h2
      rw [h2]
      rfl
    rw [e1, ← hr, List.map_append]
    constructor
    · intro h
      rw [List.prefix_append_right_inj, List.map_cons, List.cons_prefix_cons] at h
      rw [h.1]
    · intro h1
      rw [List.prefix_append_right_inj, List.map_cons, List.cons_prefix_cons]
      refine ⟨?_, List.nil_prefix⟩
      obtain ⟨a, b⟩ := x
      cases a with | mk a => cases y with | mk c =>
      show ByteArray.mk a = ByteArray.mk c
      congr 1
      have := h1
      simp only [ByteArray.toList_eq] at this
      exact Array.toList_inj.1 this
set_option maxRecDepth 100000 in
set_option maxHeartbeats 4000000 in
theorem frameTurns_walk (A : Option Addr) (c : Nat) (strs : List ByteArray) (at_ : Int) (turn : Nat) (w : World) (hC : Kd.string.C w A strs.length strs) (hcap : strs.length ≤ c) (hl0 : 0 < strs.length) (hl : strs.length ≤ 10) (ht : turn ≠ 0) (htl : turn < 256) (hsz : ∀ i : Nat, i < strs.length → (rdOf ByteArray.empty strs (i : Int)).size ≤ 400)
    (k : Nat) (log : ByteArray) (ends : List Int) (hL : bourselaw05_laid.f k strs = some (log, ends)) (hls : log.size ≤ 1000000) (hel : ends.length = strs.length)
    (fr : Nat) (hfr : 1 < strs.length → rd ends ((strs.length : Int) - 2) = (fr : Int)) (hfr0 : ¬ 1 < strs.length → fr = 0) (hfl : fr < log.size)
    (m kk : Nat) (hm : wrap64 ((IntKind.u64.wrap at_).tmod ((log.size : Int) - (fr : Int))) = (m : Int)) (hkk : fr + m = kk) (hml : kk < log.size)
    (kp : Nat) (hs : List Nat) (hp : bourselaw05_pieces.f kp log (fr : Int) = some (natInts hs)) (hhl : hs.length ≤ 1000000) (hhb : ∀ p ∈ hs, p ≤ 1000000)
    (d : Nat) (hd : Go.bits .xor .u8 (rd (bytesOf log) (kk : Int)) (turn : Int) = (d : Int)) (T : ByteArray) (hT : strOfNums ((bytesOf log).set kk (d : Int)) = T)
    (hok : (∀ i p, hs[i]? = some p → ¬ badAt kk i p) → ∃ (k3 j : Nat) (all : List (ByteArray × Int)), recs k3 T j 0 = some all ∧ all <+: strs.zip ends ∧ all.length + 1 = strs.length) :
    Calls Tryd.prog 7 #[.slice A strs.length c, .int .i64 at_, .int .u8 (turn : Nat)] w fun e w' => e = .returned (.bool true) ∧ Below w.heap.size w w' := by
  have hro : Fence.wide.round = none := rfl
  have b0 := (Boxed.new w 58 (.slice A strs.length c)).alloc (.cells #[.bool false] 4)
  have b1 := Boxed.new (w.alloc (.cells #[.slice A strs.length c] 58)) 4 (.bool false)
  rw [World.size_alloc] at b1
  have HB0 := Hush.mk (((Below.refl _ w).alloc (Nat.le_refl _) (.cells #[.slice A strs.length c] 58)).alloc (by simp) (.cells #[.bool false] 4))
  have B0 := Hush.mk b0
  have B1 := Hush.mk b1
  have HC0 := Hush.mk hC
  have HS := Hush.mk hsz
  have HL := Hush.mk hL
  have HEL := Hush.mk hel
  have HFR := Hush.mk hfr
  have HFR0 := Hush.mk hfr0
  have HM := Hush.mk hm
  have HP := Hush.mk hp
  have HHB := Hush.mk hhb
  have HD := Hush.mk hd
  have HT := Hush.mk hT
  have HOK := Hush.mk hok
  have HCAP := Hush.mk hcap
  have HT0 := Hush.mk ht
  clear b0 b1 hC hsz hL hel hfr hfr0 hm hp hhb hd hT hok hcap ht
  have hd1 : decide (strs.length < 1) = false := decide_eq_false (by omega)
  have hd2 : decide (10 < strs.length) = false := decide_eq_false (by omega)
  have ht2 : ((turn : Int) == 0) = false := by have := HT0.out; simp; omega
  refine (callsIn_wide (n := 6)).1 ?_
  refine callsIn_of_wp_marks Tryd.func7 rfl trivial ?_ hro
  simp only [Tryd.ntmps7, List.size_toArray, List.length_cons, List.length_nil, Nat.reduceAdd, Nat.reduceSub, Array.replicate_succ, Array.replicate_zero, List.push_toArray, List.append_toArray, List.nil_append, List.cons_append]
  gi_wp2_with fail
  refine ⟨trivial, ?_⟩; gi_at_call 24; refine (callsIn_wide.2 (bourselaw05_awake.calls _)).mono ?_
  rintro e w1 ⟨rfl, hb1⟩
  have B10 := Hush.mk (boxed_below B0.out hb1)
  have B11 := Hush.mk (boxed_below B1.out hb1)
  have HB1 := Hush.mk (HB0.out.trans (hb1.mono HB0.out.size))
  have HC := Hush.mk (Kd.C_below HC0.out HB1.out)
  clear hb1
  have hc0 := B10.out.cell
  gi_wp2
  gi_loopw [34] (fun t wr => (∃ i : Nat, i ≤ strs.length ∧ t = .int .i64 (i : Nat)) ∧ wr = w1) (fun t _ => strs.length - (intOf t).toNat)
  case atStart => exact ⟨⟨0, Nat.zero_le _, rfl⟩, rfl⟩
  case round =>
    obtain ⟨⟨i, hi, rfl⟩, rfl⟩ := hrel
    by_cases hlt : i < strs.length
    · obtain ⟨ad', rfl, hs⟩ := Kd.at_string HC.out (i : Int) (by omega) (by omega)
      simp only [Int.toNat_natCast] at hs
      have hi3 : (i : Int) < (strs.length : Int) := by omega
      have hM := HS.out i hlt
      obtain ⟨s, hsn⟩ : ∃ s, s = rdOf ByteArray.empty strs (i : Int) := ⟨_, rfl⟩
      rw [← hsn] at hs hM
      clear hsn
      gi_wp2
      go_roundw
      case rel => exact ⟨⟨i + 1, by omega, by go_num⟩, trivial⟩
      case measure => simp [intOf]; omega
    · have hge : decide (i < strs.length) = false := by simp; omega
      gi_wp2_with fail
      refine ⟨trivial, ?_⟩; gi_at_call 28; refine (callsIn_wide.2 (bourselaw05_laid.calls k A c strs log ends wr HC.out HCAP.out HL.out)).mono ?_
      rintro e w2 ⟨v1, rfl, hR, hb2⟩
      obtain ⟨A2, c2, rfl, hcap2, hC2⟩ := Kd.R_reads hR
      have HC2 := Hush.mk hC2
      have B20 := Hush.mk (boxed_below B10.out hb2)
      have B21 := Hush.mk (boxed_below B11.out hb2)
      have HB2 := Hush.mk (HB1.out.trans (hb2.mono HB1.out.size))
      have HCs := Hush.mk (Kd.C_below HC.out hb2)
      clear hb2 hR hC2 hcap2 B10 B11 B0 B1 HB0 HB1 HC hc0
      have hc0 := B20.out.cell
      have hconv := Lib.run_convert_string_bytes (P := Tryd.prog) w2 9 64 5 log Tryd.underlying9 Tryd.underlying64 Tryd.underlying5
      have hbb : Below w2.heap.size w2 (Lib.bytesWorld w2 5 log) := bytes_below (Below.refl _ _) (Nat.le_refl _) 5 log
      have hbr := bytes_reads w2 5 log (by omega)
      have hbn := Lib.bytesWorld_at_new w2 5 log
      generalize Lib.bytesWorld w2 5 log = wb at hconv hbb hbr hbn
      generalize grownCap w2 log.size 0 5 = cb at hconv
      have HBB := Hush.mk hbb
      have HBR := Hush.mk hbr
      have HBN := Hush.mk hbn
      have B30 := Hush.mk (boxed_below B20.out hbb)
      have B31 := Hush.mk (boxed_below B21.out hbb)
      have HB3 := Hush.mk (HB2.out.trans (hbb.mono HB2.out.size))
      have HCb := Hush.mk (Kd.C_below HCs.out hbb)
      have hsz2 : w2.heap.size < wb.heap.size := (Array.getElem?_eq_some_iff.1 hbn).1
      have hz1 : w.heap.size + 1 < w2.heap.size := B21.out.lt
      clear hbb hbr hbn
      have hfork : (1 < strs.length ∧ (fr : Int) + (m : Int) = (kk : Int) ∧ ∃ ad2, A2 = some ad2 ∧ w2.cell? (ad2.add (strs.length - 2)) = some (.int .i64 (fr : Nat))) ∨ (strs.length = 1 ∧ fr = 0 ∧ m = kk) := by
        by_cases h1 : 1 < strs.length
        · obtain ⟨ad2, e, hc⟩ := Kd.at_int HC2.out ((strs.length : Int) - 2) (by omega) (by have := HEL.out; omega)
          rw [HFR.out h1, show ((strs.length : Int) - 2).toNat = strs.length - 2 from by omega] at hc
          exact .inl ⟨h1, by omega, ad2, e, hc⟩
        · have := HFR0.out h1
          exact .inr ⟨by omega, this, by omega⟩
      have hml2 : (kk : Int) < (log.size : Int) := by omega
      have hfl2 : (fr : Int) < (log.size : Int) := by omega
      rcases hfork with ⟨h1, hkk2, ad2, rfl, hc2⟩ | ⟨h1, rfl, hmk⟩
      case' inl =>
        have h1b : decide (1 < strs.length) = true := decide_eq_true h1
        have hel2 : ends.length = strs.length := HEL.out
        have hmm := HM.out
        have HPI := Hush.mk HP.out
        gi_wp2_with fail
        clear hel2 hmm hkk2 hc2 h1 h1b
      case' inr =>
        obtain rfl := hmk.symm
        have h1b : decide (1 < strs.length) = false := decide_eq_false (by omega)
        have h1c : ¬ 1 < strs.length := by omega
        have hmm := HM.out
        simp only [Int.natCast_zero, Int.sub_zero] at hmm
        have HPI : Hush (bourselaw05_pieces.f kp log 0 = some (natInts hs)) := ⟨HP.out⟩
        clear h1
        gi_wp2_with fail
        clear hmm h1b h1c
      all_goals
        refine ⟨trivial, ?_⟩; gi_at_call 29; refine (callsIn_wide.2 (bourselaw05_pieces.calls kp log _ _ _ HPI.out)).mono ?_
        rintro e w3 ⟨v3, rfl, hR3, hb3⟩
        obtain ⟨A3, c3, rfl, hcap3, hC3⟩ := Kd.R_reads hR3
        rw [natInts_len] at hC3 ⊢
        have HC3 := Hush.mk hC3
        have B40 := Hush.mk (boxed_below B30.out hb3)
        have B41 := Hush.mk (boxed_below B31.out hb3)
        have HB4 := Hush.mk (HB3.out.trans (hb3.mono HB3.out.size))
        have HC4 := Hush.mk (Kd.C_below HCb.out hb3)
        have HBR3 := Hush.mk (HBR.out.below hb3)
        have HBN3 := Hush.mk ((hb3.block w2.heap.size hsz2).trans HBN.out)
        have hsz3 : w2.heap.size < w3.heap.size := Nat.lt_of_lt_of_le hsz2 hb3.size
        have cr := B41.out.cell
        have fr1 := B41.out.frozen
        clear hb3 hR3 hC3 hcap3 B30 B31 HB3 HCb hconv hc0
        gi_wp2
        gi_loopw [73] (fun t wq => (∃ q : Nat, q ≤ hs.length ∧ t = .int .i64 (q : Nat) ∧ Hush (∀ j p, j < q → hs[j]? = some p → ¬ badAt kk j p)) ∧ wq = w3) (fun t _ => hs.length - (intOf t).toNat)
        case atStart => exact ⟨⟨0, Nat.zero_le _, rfl, ⟨fun _ _ h => absurd h (Nat.not_lt_zero _)⟩⟩, rfl⟩
        case round =>
          obtain ⟨⟨q, hq, rfl, HQ⟩, rfl⟩ := hrel
          by_cases hqlt : q < hs.length
          · obtain ⟨ad3, rfl, hcq⟩ := Kd.at_int HC3.out (q : Int) (by omega) (by omega)
            rw [natInts_rd hs q hqlt] at hcq
            simp only [Int.toNat_natCast] at hcq
            have hpb : hs[q] ≤ 1000000 := HHB.out _ (List.getElem_mem hqlt)
            have HPQ : Hush (hs[q]? = some hs[q]) := ⟨List.getElem?_eq_getElem hqlt⟩
            have hq3 : (q : Int) < (hs.length : Int) := by omega
            generalize hs[q] = p at hcq hpb HPQ
            by_cases hbad : badAt kk q p
            · have HBAD := Hush.mk hbad
              clear hbad
              by_cases hA : q = 0 ∧ kk < p
              · have b0 : ((q : Int) == 0) = true := by simp; omega
                have b1 : decide (kk < p) = true := decide_eq_true hA.2
                clear hA
                gi_wp2
                refine ⟨.bool true, by simp [results, Tryd.results7, go_sem, cr], rfl, ?_⟩
                exact HB4.out.setCell (p := ⟨w.heap.size + 1, 0, none⟩) (by simp) _
              · have hB : (((q : Int) == 0) = false) ∨ (((q : Int) == 0) = true ∧ decide (kk < p) = false) := by
                  by_cases hq0 : q = 0
                  · exact .inr ⟨by simp; omega, decide_eq_false (fun e => hA ⟨hq0, e⟩)⟩
                  · exact .inl (by simp; omega)
                clear hA
                by_cases h4 : kk = p + 4
                · have b4 : ((kk : Int) == (p : Int) + 4) = true := by simp; omega
                  clear h4
                  rcases hB with b0 | ⟨b0, b1⟩
                  all_goals
                    gi_wp2
                    refine ⟨.bool true, by simp [results, Tryd.results7, go_sem, cr], rfl, ?_⟩
                    exact HB4.out.setCell (p := ⟨w.heap.size + 1, 0, none⟩) (by simp) _
                · have b4 : ((kk : Int) == (p : Int) + 4) = false := by simp; omega
                  by_cases h5 : kk = p + 5
                  · have b5 : ((kk : Int) == (p : Int) + 5) = true := by simp; omega
                    clear h4 h5
                    rcases hB with b0 | ⟨b0, b1⟩
                    all_goals
                      gi_wp2
                      refine ⟨.bool true, by simp [results, Tryd.results7, go_sem, cr], rfl, ?_⟩
                      exact HB4.out.setCell (p := ⟨w.heap.size + 1, 0, none⟩) (by simp) _
                  · have b5 : ((kk : Int) == (p : Int) + 5) = false := by simp; omega
                    have h6 : kk = p + 6 := by
                      rcases HBAD.out with h | h | h | h
                      · rcases hB with b0 | ⟨b0, b1⟩
                        · simp at b0; omega
                        · simp at b1; omega
                      · exact absurd h h4
                      · exact absurd h h5
                      · exact h
                    have b6 : ((kk : Int) == (p : Int) + 6) = true := by simp; omega
                    clear h4 h5 h6
                    rcases hB with b0 | ⟨b0, b1⟩
                    all_goals
                      gi_wp2
                      refine ⟨.bool true, by simp [results, Tryd.results7, go_sem, cr], rfl, ?_⟩
                      exact HB4.out.setCell (p := ⟨w.heap.size + 1, 0, none⟩) (by simp) _
            · have hn4 : ¬ kk = p + 4 := fun e => hbad (.inr (.inl e))
              have hn5 : ¬ kk = p + 5 := fun e => hbad (.inr (.inr (.inl e)))
              have hn6 : ¬ kk = p + 6 := fun e => hbad (.inr (.inr (.inr e)))
              have hn0 : ¬ (q = 0 ∧ kk < p) := fun e => hbad (.inl e)
              have b4 : ((kk : Int) == (p : Int) + 4) = false := by simp; omega
              have b5 : ((kk : Int) == (p : Int) + 5) = false := by simp; omega
              have b6 : ((kk : Int) == (p : Int) + 6) = false := by simp; omega
              have HNB := Hush.mk hbad
              clear hbad hn4 hn5 hn6
              by_cases hq0 : q = 0
              · have hp0 : ¬ kk < p := fun e => hn0 ⟨hq0, e⟩
                have b0 : ((q : Int) == 0) = true := by simp; omega
                have b1 : decide (kk < p) = false := decide_eq_false hp0
                have HQ0 := Hush.mk hq0
                clear hn0 hq0 hp0
                gi_wp2
                exact ⟨⟨⟨q + 1, by omega, by go_num, ⟨fun j p' hj hjp => by
                  rcases Nat.lt_or_ge j q with h | h
                  · exact HQ.out j p' h hjp
                  · obtain rfl : j = q := by omega
                    rw [HPQ.out] at hjp
                    obtain rfl := Option.some.inj hjp
                    exact HNB.out⟩⟩, trivial⟩, by simp [intOf]; omega⟩
              · have b0 : ((q : Int) == 0) = false := by simp; omega
                clear hn0
                gi_wp2
                exact ⟨⟨⟨q + 1, by omega, by go_num, ⟨fun j p' hj hjp => by
                  rcases Nat.lt_or_ge j q with h | h
                  · exact HQ.out j p' h hjp
                  · obtain rfl : j = q := by omega
                    rw [HPQ.out] at hjp
                    obtain rfl := Option.some.inj hjp
                    exact HNB.out⟩⟩, trivial⟩, by simp [intOf]; omega⟩
          · have hqd : decide (q < hs.length) = false := by simp; omega
            obtain ⟨k3, j3, all, hr, hall, hlen⟩ := HOK.out (fun i p hp => HQ.out i p (by have := (List.getElem?_eq_some_iff.1 hp).1; omega) hp)
            have HR := Hush.mk hr
            have HALL := Hush.mk hall
            have HLEN := Hush.mk hlen
            clear hr hall hlen
            obtain ⟨adb, eb, hcb⟩ := HBR3.out.at_ (kk : Int) (by omega) (by omega)
            obtain rfl := Option.some.inj eb
            rw [Int.toNat_natCast, add_plain] at hcb
            have hfb : wr.frozen? ⟨w2.heap.size, kk, none⟩ = false := bytes_free HBN3.out (Nat.lt_of_lt_of_le hml (bytesCells_size _ _ _))
            have hxd := HD.out
            generalize rd (bytesOf log) (kk : Int) = x0 at hcb hxd
            have hcv := string_of_reads (P := Tryd.prog) (src := 64) (dst := 9) (e := 5) (c := cb) Tryd.underlying64 Tryd.underlying5 Tryd.underlying9 (reads_turned (kk := kk) HBR3.out (d : Int) (.cells #[.int .i64 0] 3))
            rw [HT.out] at hcv
            have cl := B40.out.cell
            gi_wp2_with fail
            refine ⟨trivial, ?_⟩; gi_at_call 26; refine (frame_Records.in_ 5 T _).mono ?_
            rintro e w4 ⟨rfl, rfl⟩
            have hzs : (wr.setCell ⟨w2.heap.size, kk, none⟩ (.int .u8 (d : Int))).heap.size = wr.heap.size := by simp
            obtain ⟨ws, hws⟩ : ∃ ws, wr.setCell ⟨w2.heap.size, kk, none⟩ (.int .u8 (d : Int)) = ws := ⟨_, rfl⟩
            have hbs : Below w2.heap.size wr ws := by rw [← hws]; exact (Below.refl _ _).setCell (p := ⟨w2.heap.size, kk, none⟩) (by simp) _
            rw [hws] at hzs hcv ⊢
            have bN := (Boxed.new ws 3 (.int .i64 0)).alloc (.cells #[.string T] 9)
            rw [hzs] at bN
            have BN := Hush.mk bN
            have bL := Boxed.new (ws.alloc (.cells #[.int .i64 0] 3)) 9 (.string T)
            rw [World.size_alloc] at bL
            have BL := Hush.mk bL
            have HBx := Hush.mk (((Below.refl _ ws).alloc (Nat.le_refl _) (.cells #[.int .i64 0] 3)).alloc (by simp) (.cells #[.string T] 9))
            have B50 : Hush (Boxed ws w.heap.size 58 (.slice A strs.length c)) := ⟨(hbs.block _ (by omega)).trans B40.out⟩
            have B51 : Hush (Boxed ws (w.heap.size + 1) 4 (.bool false)) := ⟨(hbs.block _ (by omega)).trans B41.out⟩
            have HB5 : Hush (Below w.heap.size w ws) := ⟨HB4.out.trans (hbs.mono (by omega))⟩
            have HCW := Hush.mk (Kd.C_below HC4.out (Below.refl _ _))
            have HCWs : Hush (Kd.string.C ws A strs.length strs) := ⟨Kd.C_below HC0.out HB5.out⟩
            have HZ := Hush.mk hzs
            have HBS := Hush.mk hbs
            clear bN bL hcv hws hcb hfb hxd cl hzs hbs
            gi_wp2
            apply wpIn_rangeFunc_ownF hro (by omega) (gf := 75) (lb := #[.pointer (some ⟨ws.heap.size + 1, 0, none⟩)]) rfl trivial (enters_of Tryd.func75 (by kernel_rfl) rfl)
              (recs_stops _ k3 (ws.heap.size + 1) (by omega) T all j3 HR.out _ BL.out.cell) keepLog_t keepLog_b (Below.refl _ _) (fun _ => rfl)
              (fun pre W => (Boxed W wr.heap.size 3 (.int .i64 (pre.length : Nat)) ∧ pre.map Prod.fst <+: all.map Prod.fst) ∧ Below ws.heap.size ws W)
              (fun cd pre W => (cd = .ret ∧ ¬ pre.map Prod.fst <+: all.map Prod.fst) ∧ True)
              (OwnFrom.and (Own.from (fun s X Y row hs hg hr => ⟨boxed_keep hs.1 hg hr, hs.2⟩) _) (ownFrom_below (Nat.le_refl _) (by simp; omega)))
              (fun cd => fun _ _ _ _ hs _ _ => hs)
              ⟨⟨BN.out, by simp⟩, HBx.out⟩
            · intro l x W K hK
              simp only [enc2]
              gi_wp2
              exact hK
            · rintro l pre x W ⟨⟨hn, hp⟩, hB⟩ hlp
              have B60 := Hush.mk (boxed_below B50.out hB)
              have B61 := Hush.mk (boxed_below B51.out hB)
              have hC1 := Kd.C_below HCWs.out hB
              obtain ⟨ad1, rfl, hs1⟩ := Kd.at_string hC1 (pre.length : Int) (by omega) (by have := HLEN.out; omega)
              simp only [Int.toNat_natCast] at hs1
              have HNn := Hush.mk hn
              have HBn := Hush.mk hB
              have cl := B60.out.cell
              have cn := hn.cell
              have fn := hn.frozen
              have cr2 := B61.out.cell
              have fr2 := B61.out.frozen
              have hge2 : decide ((strs.length : Int) - 1 ≤ (pre.length : Int)) = false := by have := HLEN.out; simp; omega
              have hix : pre.length < strs.length := by have := HLEN.out; omega
              have hix2 : (pre.length : Int) < (strs.length : Int) := by omega
              have hps := nprefix_snoc (x := x) HALL.out hp hlp
              have hpl : pre.length ≤ 4000 := by omega
              have hz2 : w.heap.size + 1 < wr.heap.size := by have := HZ.out; have := B51.out.lt; omega
              obtain ⟨y1, hy1⟩ : ∃ y, y = rdOf ByteArray.empty strs (pre.length : Int) := ⟨_, rfl⟩
              rw [← hy1] at hs1 hps
              have HPS := Hush.mk hps
              clear hy1 hp hlp hn hB hC1 hps hge
              by_cases hx1 : x.1.toList = y1.toList
              · have HPX : Hush ((pre ++ [x]).map Prod.fst <+: all.map Prod.fst) := ⟨HPS.out.2 hx1⟩
                gi_wp2
                exact ⟨KeepsOthers.setCell _ _ _, fun hL => by rw [World.cell?_setCell_other _ _ _ _ (by have := HZ.out; first | (simp; done) | (simp; omega))]; exact hL, ⟨(show Value.int .i64 ((pre ++ [x]).length : Int) = .int .i64 ((pre.length : Int) + 1) from by simp) ▸ HNn.out.set _, HPX.out⟩, HBn.out.setCell (p := ⟨wr.heap.size, 0, none⟩) (by have := HZ.out; simp; omega) _⟩
              · have HPX : Hush (¬ (pre ++ [x]).map Prod.fst <+: all.map Prod.fst) := ⟨fun h => hx1 (HPS.out.1 h)⟩
                have hx2 : (x.1.toList == y1.toList) = false := by simpa using hx1
                clear hx1
                gi_wp2
                exact ⟨KeepsOthers.setCell _ _ _, ⟨rfl, HPX.out⟩, trivial⟩
            · rintro D ys W hD rfl ⟨⟨hn, hp⟩, hB⟩ hK
              have B60 := Hush.mk (boxed_below B50.out hB)
              have B61 := Hush.mk (boxed_below B51.out hB)
              have HW1 : Hush (Below w.heap.size w W) := ⟨HB5.out.trans (hB.mono HB5.out.size)⟩
              have HKK := Hush.mk hK
              have cl := B60.out.cell
              have cn := hn.cell
              have cr2 := B61.out.cell
              have fr2 := B61.out.frozen
              have hz2 : w.heap.size + 1 < wr.heap.size := by have := HZ.out; have := B51.out.lt; omega
              have heq : ((ys.length : Int) == (strs.length : Int) - 1) = true := by have := HLEN.out; simp; omega
              clear hp hn hK hB
              gi_wp2
              have hb4 : Boxed ((W.setCell ⟨w.heap.size + 1, 0, none⟩ (.bool true)).putObj D (.deferred none)) (w.heap.size + 1) 4 (.bool true) := boxed_keep (B61.out.set _) (grownBy_putObj' _ D _) (fun r e => by cases e; exact ⟨_, (KeepsOthers.setCell _ _ _).same D _ HKK.out rfl, rfl⟩)
              refine ⟨by simp, .inl ⟨_, _, rfl, run_takeDeferred ((KeepsOthers.setCell _ _ _).same D _ HKK.out rfl), ?_⟩⟩
              exact ⟨_, by simp [results, Tryd.results7, go_sem, hb4.cell], rfl, (HW1.out.setCell (p := ⟨w.heap.size + 1, 0, none⟩) (by simp) _).trans (belowK_b (w := w) (Nat.le_refl _) _ D _ _ (by have := HZ.out; simp at hD; omega) ((KeepsOthers.setCell _ _ _).same D _ HKK.out rfl) rfl rfl)⟩
            · rintro D cd pre W hD hpre ⟨⟨rfl, hn⟩, _⟩ hK
              obtain ⟨t, rfl⟩ := hpre
              exact absurd (by rw [List.map_append]; exact List.prefix_append _ _) hn
end Go.Proofs.YteilnbnnhocciaaDoor.KF

/-! KP11 -/
set_option linter.unusedVariables false
namespace Go.Proofs.YteilnbnnhocciaaDoor.P
open Go.RowKit Go.Proofs.YteilnbnnhocciaaDoorW.PrintWords Go.Proofs.YteilnbnnhocciaaDoorW.PrintLast Go.Proofs.YteilnbnnhocciaaDoorW.PrintMore Go.Proofs.YteilnbnnhocciaaDoorM Go.Proofs.YteilnbnnhocciaaDoor.KF
theorem p_pad (k : Nat) (x : ByteArray) (a lf z : Int) (out : List Int) (h1 : a < (x.size : Int)) (hl : wrap64 (512 - (Int.tmod a 512)) = lf) (h7 : lf < 7) (hz : wrap64 (a + lf) = z) :
    bourselaw05_pieces.l0 (k + 1) x a out = bourselaw05_pieces.l0 k x z out := by
  rw [bourselaw05_pieces.l0]
  simp only [if_pos h1, hl, if_pos h7, hz]
theorem p_end (k : Nat) (x : ByteArray) (a : Int) (out : List Int) (h1 : ¬ a < (x.size : Int)) : bourselaw05_pieces.l0 (k + 1) x a out = some out := by
  rw [bourselaw05_pieces.l0]
  simp only [if_neg h1]
theorem p_step (k : Nat) (x : ByteArray) (a lf y4 y5 n z : Int) (out : List Int) (h1 : a < (x.size : Int)) (hl : wrap64 (512 - (Int.tmod a 512)) = lf) (h7 : ¬ lf < 7) (ho : out.length < 17592186044416) (w4 : wrap64 (a + 4) = y4) (w5 : wrap64 (a + 5) = y5)
    (c4 : 0 ≤ y4) (d4 : y4 < (x.size : Int)) (c5 : 0 ≤ y5) (d5 : y5 < (x.size : Int)) (hn : wrap64 ((wrap64 (7 + (wrap64 (bt x y4)))) + (wrap64 (256 * (wrap64 (bt x y5))))) = n) (hz : wrap64 (a + n) = z) :
    bourselaw05_pieces.l0 (k + 1) x a out = bourselaw05_pieces.l0 k x z (out ++ [a]) := by
  rw [bourselaw05_pieces.l0]
  simp only [if_pos h1, hl, if_neg h7, if_pos ho, w4, w5, if_pos c4, if_pos d4, if_pos c5, if_pos d5, hn, hz]
theorem w_room (a : Nat) (ha : a ≤ 2000000) : wrap64 (512 - (Int.tmod (a : Int) 512)) = (roomN a : Int) := by
  have h := left_f a (by omega)
  unfold frame_left.f at h
  exact Option.some.inj h
theorem seven_bytes (b4 b5 : UInt8) : wrap64 (wrap64 (7 + wrap64 (b4.toNat : Int)) + wrap64 (256 * wrap64 (b5.toNat : Int))) = ((7 + (b4.toNat + 256 * b5.toNat) : Nat) : Int) := by
  have c4 := UInt8.toNat_lt b4
  have c5 := UInt8.toNat_lt b5
  rw [wrap_in (n := (b4.toNat : Int)) (by omega) (by omega), wrap_in (n := (b5.toNat : Int)) (by omega) (by omega), wrap_in (n := 7 + (b4.toNat : Int)) (by omega) (by omega), wrap_in (n := 256 * (b5.toNat : Int)) (by omega) (by omega), wrap_in (by omega) (by omega)]
  omega
theorem natInts_app (l m : List Nat) : natInts (l ++ m) = natInts l ++ natInts m := by simp [natInts]
theorem p_piece {log : List UInt8} {a kd : Nat} {s r : List UInt8} (hl : log.length ≤ 1000000) (hs : s.length ≤ 505) (ha : a ≤ log.length) (hd : log.drop a = List.replicate (padN a) 0 ++ (pieceL kd s ++ r)) (acc : List Nat) (hacc : acc.length ≤ 1000000) (k : Nat) :
    ∃ j, k ≤ j ∧ j ≤ k + 1 ∧ bourselaw05_pieces.l0 (j + 1) (B log) (a : Int) (natInts acc) = bourselaw05_pieces.l0 k (B log) ((a + padN a + (7 + s.length) : Nat) : Int) (natInts (acc ++ [a + padN a])) := by
  have hp := padN_lt a
  have hrm := room_padded a
  have split : pieceL kd s ++ r = sumL kd s ++ (UInt8.ofNat s.length :: UInt8.ofNat (s.length / 256) :: UInt8.ofNat kd :: (s ++ r)) := by
    unfold pieceL
    rw [le2_ofNat]
    simp
  rw [split] at hd
  have h4 := sumL_len kd s
  have hlen : log.length = a + padN a + 7 + (s ++ r).length := by
    have := congrArg List.length hd
    simp only [List.length_drop, List.length_append, List.length_replicate, List.length_cons, h4] at this ⊢
    omega
  have nb4 : (UInt8.ofNat s.length).toNat + 256 * (UInt8.ofNat (s.length / 256)).toNat = s.length := by
    simp only [UInt8.toNat_ofNat']
    omega
  simp only [List.length_append] at hlen
  have q1 : ((a + padN a : Nat) : Int) < ((B log).size : Int) := by rw [B_size]; omega
  have q3 : (0 : Int) ≤ ((a + padN a + 4 : Nat) : Int) := by omega
  have q4 : ((a + padN a + 4 : Nat) : Int) < ((B log).size : Int) := by rw [B_size]; omega
  have q5 : (0 : Int) ≤ ((a + padN a + 5 : Nat) : Int) := by omega
  have q6 : ((a + padN a + 5 : Nat) : Int) < ((B log).size : Int) := by rw [B_size]; omega
  have q7 : ¬ (roomN (a + padN a) : Int) < 7 := by omega
  have q8 : (natInts acc).length < 17592186044416 := by rw [natInts_len]; omega
  have hb3 : a + padN a ≤ 2000000 := by omega
  have hb4 : 7 + s.length < 1000 := by omega
  have step : bourselaw05_pieces.l0 (k + 1) (B log) ((a + padN a : Nat) : Int) (natInts acc) = bourselaw05_pieces.l0 k (B log) ((a + padN a + (7 + s.length) : Nat) : Int) (natInts (acc ++ [a + padN a])) := by
    rw [p_step k (B log) ((a + padN a : Nat) : Int) _ _ _ ((7 + s.length : Nat) : Int) _ (natInts acc) q1 (w_room (a + padN a) hb3) q7 q8 (w_lit (a + padN a) 4 4 hb3 rfl (by decide)) (w_lit (a + padN a) 5 5 hb3 rfl (by decide)) q3 q4 q5 q6
      (by rw [(bytes_at h4 ha hd).1, (bytes_at h4 ha hd).2.1, seven_bytes, nb4]) (w_at (a + padN a) (7 + s.length) hb3 hb4), natInts_app]
    rfl
  by_cases hz : padN a = 0
  · refine ⟨k, Nat.le_refl _, by omega, ?_⟩
    rw [← step, hz]
    rfl
  · refine ⟨k + 1, by omega, Nat.le_refl _, ?_⟩
    have hr7 : roomN a < 7 := by unfold padN at hz; split at hz <;> omega
    have hre : roomN a = padN a := by unfold padN; rw [if_pos hr7]
    have g1 : (a : Int) < ((B log).size : Int) := by rw [B_size]; omega
    have g2 : (padN a : Int) < 7 := by omega
    have g3 : a ≤ 2000000 := by omega
    have g4 : padN a < 1000 := by omega
    have wr := w_room a g3
    rw [hre] at wr
    rw [p_pad (k + 1) (B log) (a : Int) _ _ (natInts acc) g1 wr g2 (w_at a (padN a) g3 g4)]
    exact step
theorem pieces_l {a : Nat} {rc : List UInt8} {bg : Bool} {out : List UInt8} (h : Lays a rc bg out) : ∀ (log : List UInt8) (hs acc : List Nat), log.length ≤ 1000000 → log.drop a = out → a ≤ log.length → Heads a rc hs → acc.length ≤ a →
    ∃ k, bourselaw05_pieces.l0 k (B log) (a : Int) (natInts acc) = some (natInts (acc ++ hs)) := by
  induction h with
  | last a rc bg h =>
    intro log hs acc hl hd ha hh hacc
    have hsp := spaceN_le a
    have hd2 : log.drop a = List.replicate (padN a) 0 ++ (pieceL (kindN bg true) rc ++ []) := by rw [List.append_nil]; exact hd
    have hlen : log.length = a + padN a + (7 + rc.length) := by
      have := congrArg List.length hd
      simp only [List.length_drop, List.length_append, List.length_replicate, pieceL_len] at this
      omega
    obtain ⟨j, hj, _, e⟩ := p_piece hl (by omega) ha hd2 acc (by omega) 1
    refine ⟨j + 1, ?_⟩
    rw [e, p_end 0 (B log) _ _ (by rw [B_size]; omega)]
    cases hh with
    | last _ _ _ => rfl
    | more _ _ _ h2 _ => omega
  | more a rc bg out h ho ih =>
    intro log hs acc hl hd ha hh hacc
    have hsp := spaceN_le a
    have hT : (rc.take (spaceN a)).length = spaceN a := by rw [List.length_take]; omega
    cases hh with
    | last _ _ h' => omega
    | more _ _ hs _ hh =>
      have hd2 : log.drop (a + padN a + (7 + spaceN a)) = out := by
        rw [show a + padN a + (7 + spaceN a) = a + (padN a + (7 + spaceN a)) from by omega, ← List.drop_drop, hd, ← List.append_assoc, drop_left' (by simp [pieceL_len, hT])]
      have hlen : a + padN a + (7 + spaceN a) ≤ log.length := by
        have := congrArg List.length hd
        simp only [List.length_drop, List.length_append, List.length_replicate, pieceL_len, hT] at this
        omega
      obtain ⟨k, hk⟩ := ih log hs (acc ++ [a + padN a]) hl hd2 hlen hh (by simp; omega)
      obtain ⟨j, hj, _, e⟩ := p_piece hl (by rw [hT]; omega) ha hd acc (by omega) k
      refine ⟨j + 1, ?_⟩
      rw [e, hT, hk, List.append_assoc]
      rfl
theorem heads_len {a : Nat} {rc : List UInt8} {bg : Bool} {out : List UInt8} (h : Lays a rc bg out) : ∀ hs, Heads a rc hs → hs.length ≤ out.length ∧ ∀ p ∈ hs, p ≤ a + out.length := by
  induction h with
  | last a rc bg h =>
    intro hs hh
    cases hh with
    | last _ _ _ => exact ⟨by simp [pieceL_len]; omega, by simp [pieceL_len]⟩
    | more _ _ _ h2 _ => omega
  | more a rc bg out h ho ih =>
    intro hs hh
    have hT : (rc.take (spaceN a)).length = spaceN a := by rw [List.length_take]; omega
    cases hh with
    | last _ _ h' => omega
    | more _ _ hs _ hh =>
      obtain ⟨h1, h2⟩ := ih hs hh
      refine ⟨by simp only [List.length_cons, List.length_append, List.length_replicate, pieceL_len, hT]; omega, fun p hp => ?_⟩
      simp only [List.length_append, List.length_replicate, pieceL_len, hT]
      rcases List.mem_cons.1 hp with rfl | hp
      · omega
      · have := h2 p hp
        omega
theorem laid_last {l : List (List UInt8)} {log : List UInt8} {ends : List Nat} (h : Laid l log ends) : (0 < l.length → ends[ends.length - 1]? = some log.length) ∧ (l.length = 0 → log = []) := by
  cases h with
  | nil => exact ⟨fun h => absurd h (by simp), fun _ => rfl⟩
  | snoc l log ends s out _ _ => exact ⟨fun _ => by simp, fun h => by simp at h⟩
theorem xor_u8 (c turn : Nat) (hc : c < 256) (ht : turn < 256) : Go.bits .xor .u8 (c : Int) (turn : Int) = ((c ^^^ turn : Nat) : Int) := u8_xor_nat c turn hc ht
theorem turns_law (strs : List ByteArray) (at_ : Int) (turn : Nat) (h0 : 0 < strs.length) (hs : strs.length ≤ 10) (hb : ∀ s ∈ strs, s.size ≤ 400) (ht : turn ≠ 0) (htl : turn < 256) :
    ∃ (k : Nat) (log : ByteArray) (ends : List Int), bourselaw05_laid.f k strs = some (log, ends) ∧ log.size ≤ 1000000 ∧ ends.length = strs.length ∧
    ∃ fr : Nat, (1 < strs.length → rd ends ((strs.length : Int) - 2) = (fr : Int)) ∧ (¬ 1 < strs.length → fr = 0) ∧ fr < log.size ∧
    ∃ m kk : Nat, wrap64 ((IntKind.u64.wrap at_).tmod ((log.size : Int) - (fr : Int))) = (m : Int) ∧ fr + m = kk ∧ kk < log.size ∧
    ∃ (kp : Nat) (hs : List Nat), bourselaw05_pieces.f kp log (fr : Int) = some (natInts hs) ∧ hs.length ≤ 1000000 ∧ (∀ p ∈ hs, p ≤ 1000000) ∧
    ∃ (d : Nat) (T : ByteArray), Go.bits .xor .u8 (rd (bytesOf log) (kk : Int)) (turn : Int) = (d : Int) ∧ strOfNums ((bytesOf log).set kk (d : Int)) = T ∧
    ((∀ i p, hs[i]? = some p → ¬ badAt kk i p) → ∃ (k3 j : Nat) (all : List (ByteArray × Int)), recs k3 T j 0 = some all ∧ all <+: strs.zip ends ∧ all.length + 1 = strs.length) := by
  obtain ⟨log, ends, k, hl, hlen, hf⟩ := laid_f strs (by omega) (fun s hs => Nat.le_trans (hb s hs) (by decide))
  have hlz := laid_len hl
  have hls : (lists strs).length = strs.length := by simp [lists]
  generalize hL : lists strs = L at hl hlz hls
  cases hl with
  | nil => simp at hls; omega
  | snoc l0 log0 ends0 s out hl0 ho =>
    have hz0 := laid_len hl0
    have hll : l0.length + 1 = strs.length := by simpa using hls
    obtain ⟨hla, hlb⟩ := laid_last hl0
    have hout := lays_len ho
    simp only [List.length_append] at hlen
    obtain ⟨hs', hh⟩ := heads_ex ho
    obtain ⟨h1, h2⟩ := heads_len ho hs' hh
    have hd : (log0 ++ out).drop log0.length = out := drop_left' rfl
    obtain ⟨kp, hkp⟩ := pieces_l ho (log0 ++ out) hs' [] (by simp; omega) hd (by simp) hh (by simp)
    obtain ⟨m, hm, hml⟩ : ∃ m : Nat, wrap64 ((IntKind.u64.wrap at_).tmod (((log0 ++ out).length : Int) - (log0.length : Int))) = (m : Int) ∧ m < out.length := by
      have e : (((log0 ++ out).length : Int) - (log0.length : Int)) = ((out.length - 1 : Nat) : Int) + 1 := by simp; omega
      obtain ⟨m, hm, hml⟩ := cut_n at_ (out.length - 1) (by omega)
      exact ⟨m, by rw [e]; exact hm, by omega⟩
    have hkk : log0.length + m < (log0 ++ out).length := by simp; omega
    have hcl := UInt8.toNat_lt (log0 ++ out)[log0.length + m]
    generalize hc : (log0 ++ out)[log0.length + m] = c at hcl
    have hx : c.toNat ^^^ turn < 256 := Nat.xor_lt_two_pow (n := 8) (by omega) (by omega)
    refine ⟨k, B (log0 ++ out), _, hf, by rw [B_size]; simp; omega, by rw [ints_len]; omega, log0.length, ?_, ?_, by rw [B_size]; simp; omega, m, log0.length + m, by rw [B_size]; exact hm, rfl, by rw [B_size]; exact hkk, kp, hs', ?_, by omega, fun p hp => by have := h2 p hp; omega,
      c.toNat ^^^ turn, B ((log0 ++ out).set (log0.length + m) (UInt8.ofNat (c.toNat ^^^ turn))), ?_, ?_, ?_⟩
    · intro h1s
      have := hla (by omega)
      unfold rd ints
      rw [show ((strs.length : Int) - 2).toNat = ends0.length - 1 from by omega, List.getD_eq_getElem?_getD, List.getElem?_map, List.getElem?_append_left (by omega), this]
      rfl
    · intro h1s
      rw [hlb (by omega)]
      rfl
    · have := hkp
      simpa [bourselaw05_pieces.f, natInts] using this
    · have e : rd (bytesOf (B (log0 ++ out))) ((log0.length + m : Nat) : Int) = (c.toNat : Int) := by
        unfold rd bytesOf
        rw [Int.toNat_natCast, B_data, List.getD_eq_getElem?_getD, List.getElem?_map, List.getElem?_eq_getElem hkk, hc]
        rfl
      rw [e]
      exact xor_u8 _ _ hcl htl
    · apply list_ext
      rw [strOfNums_data, B_data]
      unfold bytesOf
      rw [B_data, List.map_set, List.map_map]
      congr 1
      rw [show ((fun n : Int => UInt8.ofNat n.toNat) ∘ fun b : UInt8 => (b.toNat : Int)) = id from by funext b; simp]
      simp
    · intro hok
      obtain ⟨r, hr⟩ := heads_first hh
      have hk1 : log0.length + padN log0.length ≤ log0.length + m := by
        have := hok 0 (log0.length + padN log0.length) (by rw [hr]; rfl)
        unfold badAt at this
        omega
      have hne : (log0 ++ out)[log0.length + m]? ≠ some (UInt8.ofNat (c.toNat ^^^ turn)) := by
        rw [List.getElem?_eq_getElem hkk, hc]
        intro e
        have e2 := congrArg UInt8.toNat (Option.some.inj e)
        rw [toNat_of hx] at e2
        have e3 : c.toNat ^^^ turn = c.toNat ^^^ 0 := by rw [Nat.xor_zero]; exact e2.symm
        exact ht (xor_cl e3)
      have hrec := laid_turned hl0 ho hh hk1 hkk hne (fun p hp => by
        obtain ⟨i, hi, rfl⟩ := List.getElem_of_mem hp
        have := hok i _ (List.getElem?_eq_getElem hi)
        unfold badAt at this
        omega)
      obtain ⟨J, K, hJ⟩ := recs_p (by rw [List.length_set]; simp; omega) hrec (Nat.zero_le _)
      refine ⟨K, J, asB (l0.zip ends0), hJ K (Nat.le_refl _), ?_, ?_⟩
      · rw [← asB_zip, hL]
        refine asB_prefix ?_
        rw [List.zip_append hz0]
        exact List.prefix_append _ _
      · simp [asB]
        omega
end Go.Proofs.YteilnbnnhocciaaDoor.P

/-! M3 -/
set_option linter.unusedVariables false
namespace Go.Proofs.YteilnbnnhocciaaDoorM
open Go.RowKit Go.Proofs.YteilnbnnhocciaaDoorW.PrintWords
def Opens (P : Program) (t : TypeId) {α : Type} (d : Kd α) (G : α → Prop) : Prop :=
  ∀ {H : Type} (enc : TypeId × Value → H) (w : World) (base : Nat) (spare : Nat → Bool) (held : Bool) (n : Nat) (cs : List Value) (x : DataW H × List MemPlace), DataW.trod enc P w base spare held n t cs = some x → ∃ a, d.K w a cs ∧ G a
variable {P : Program}
theorem opens_string {t : TypeId} (ht : P.underlying t = some .string) : Opens P t Kd.string (fun s => s.size ≤ maxLen) := by
  intro H enc w base spare held n cs x h
  obtain ⟨s, rfl, _, hs⟩ := DataW.trod_string ht h
  exact ⟨s, rfl, hs⟩
theorem add_of_add' (a : Addr) (i j : Nat) : (a.add i).add j = a.add (i + j) := by
  unfold Addr.add
  by_cases hi : i = 0 <;> by_cases hj : j = 0 <;> simp [hi, hj, Nat.add_assoc]
theorem list_of {α : Type} {n : Nat} {p : Nat → α → Prop} (h : ∀ i, i < n → ∃ x, p i x) : ∃ l : List α, l.length = n ∧ ∀ i (hi : i < l.length), p i l[i] := by
  induction n with
  | zero => exact ⟨[], rfl, fun i hi => absurd hi (Nat.not_lt_zero _)⟩
  | succ n ih =>
    obtain ⟨l, hl, hp⟩ := ih (fun i hi => h i (by omega))
    obtain ⟨x, hx⟩ := h n (by omega)
    refine ⟨l ++ [x], by simp [hl], fun i hi => ?_⟩
    by_cases hi' : i < l.length
    · rw [List.getElem_append_left hi']; exact hp i hi'
    · have hn : i = n := by simp [hl] at hi; omega
      subst hn
      rw [List.getElem_append_right (by omega)]
      simpa [hl] using hx
theorem opens_slice {t e : TypeId} {α : Type} {d : Kd α} {G : α → Prop} (ht : P.underlying t = some (.slice e)) (hs : P.cellsOf e = d.sz) (h : Opens P e d G) : Opens P t (Kd.slice e d) (fun l => ∀ x ∈ l, G x) := by
  intro H enc w base spare held n cs x hx
  rcases DataW.trod_slice ht hx with ⟨rfl, _⟩ | ⟨a, len, cap, elems, rest, m, _, rfl, _, hb, hl, hm, hlen, hel, _, _⟩
  · exact ⟨[], ⟨none, 0, rfl, Nat.le_refl _, Kd.C_nil _ _⟩, fun x hx => by cases hx⟩
  · obtain ⟨l, hll, hp⟩ := list_of (n := len) (p := fun i a' => ∃ c, w.cells? base (a.add (i * P.cellsOf e)) (P.cellsOf e) = some c ∧ d.K w a' c ∧ G a') (fun i hi => by
      have h1 := hel i hi
      rw [List.getElem?_eq_getElem (by omega)] at h1
      obtain ⟨c, hc, hy⟩ := Option.bind_eq_some_iff.mp h1
      obtain ⟨a', hK, hG⟩ := h enc w base spare held m c _ hy
      exact ⟨a', c, hc, hK, hG⟩)
    refine ⟨l, ⟨some a, cap, by rw [hll], by omega, rfl, by unfold maxLen at hm; omega, fun _ => ⟨a, rfl, fun j p hj => ?_⟩⟩, fun x hx => ?_⟩
    · have hjl : j < l.length := (List.getElem?_eq_some_iff.1 hj).1
      obtain ⟨c, hc, hK, _⟩ := hp j hjl
      obtain rfl : l[j] = p := by rw [List.getElem?_eq_getElem hjl] at hj; exact Option.some.inj hj
      obtain ⟨_, hcl, hcell⟩ := World.cells?_some hc
      refine ⟨c, by rw [hcl, hs], hK, fun i u hu => ?_⟩
      have hi : i < P.cellsOf e := by rw [← hcl]; exact (List.getElem?_eq_some_iff.1 hu).1
      rw [← hs, ← add_of_add', hcell i hi, hu]
    · obtain ⟨i, hi, rfl⟩ := List.getElem_of_mem hx
      obtain ⟨c, _, _, hG⟩ := hp i hi
      exact hG
end Go.Proofs.YteilnbnnhocciaaDoorM

/-! R8 -/
set_option linter.unusedVariables false
namespace Go.Proofs.YteilnbnnhocciaaDoor.R8
open Go.ChangeShapes Go.WideShapes Go.ChangeAt Go.RowKit Go.Lib Go.Shelf
open Go.ChangeMaps (open_string shut_string)
open Go.Proofs.YteilnbnnhocciaaDoor.KF Go.Proofs.YteilnbnnhocciaaDoor.P
theorem own : ownKnob Tryd.prog.godebug = none := by kernel_rfl
theorem laidOut : laidOutB Tryd.prog = true := by kernel_rfl
def cell1 : DataW Unit → Value
  | .lit (.int k n) => Value.int k n
  | _ => Value.bool false
def cellsA : DataW Unit → Array Value
  | .agg l => (l.map cell1).toArray
  | _ => #[]
def cellsB : DataW Unit → Array Value
  | .agg l => (l.flatMap fun
    | .agg m => m.map cell1
    | _ => []).toArray
  | _ => #[]
noncomputable def laidWorld (os : Os) : World :=
  let w0 := World.holding Tryd.prog os ⟨#[], #[], []⟩
  let put (h : Array Obj) (g : Nat) (cs : Array Value) : Array Obj := h.modify g fun
    | .cells _ t frozen => .cells cs t frozen
    | o => o
  { w0 with heap := put (put w0.heap 6 (cellsA Rows.laid_unicode_utf8_first)) 7 (cellsB Rows.laid_unicode_utf8_acceptRanges) }
theorem laid_met (os : Os) (args : Array Value) : laidMet Tryd.prog Rows.frameLaysRow.laid ((laidWorld os).forCall (fun _ _ => 0) ⟨#[], args, []⟩).memory :=
  (LaidIn.of_run [6, 7] 8 (by kernel_rfl) (by kernel_rfl) (by kernel_rfl) (by kernel_rfl)).met
set_option maxRecDepth 100000 in
theorem lifted (os : Os) (started : os.Started) (H : Type) (enc : TypeId × Value → H) :
    ReturnsInHanded {} Tryd.checked os 8 .any (fun w args => (Rows.frameLaysSpec.pre enc Tryd.prog Tryd.f8 [] false w args ∧ laidMet Tryd.prog Rows.frameLaysRow.laid w) ∧ sizedMet enc Tryd.prog Tryd.f8 (OpenSpec.ofChange Rows.frameLaysSpec) false w args)
      (Rows.frameLaysSpec.post enc Tryd.prog Tryd.f8 false true false false) := by
  refine returnsInHanded_of_change_and (C := Tryd.checked) (X := fun w _ => laidMet Tryd.prog Rows.frameLaysRow.laid w) (fun _ _ _ hh h => h.of_heap hh) own started (by kernel_rfl) Tryd.func8
    (ChangeSpec.witness_at (enc := enc) (C := Tryd.checked) (os := os) (X := fun w _ => laidMet Tryd.prog Rows.frameLaysRow.laid w) false (laidWorld os)
      #[.int .i64 0, .string ByteArray.empty] 8
      rfl (by kernel_rfl) (by kernel_rfl) (by kernel_rfl) (by kernel_rfl) (by kernel_rfl) (laid_met os _)) ?_
  intro W base args ds gs before hval0 hW hcnd hsz0 hX _
  have hval : ∀ (j : Nat) t v, Tryd.f8.params[j]? = some t → args[j]? = some v → Value.okWide Tryd.prog W .any base t v := hval0
  have hW' := hW
  obtain ⟨p, q, hA0, hV, rfl, hfz, hnd⟩ := hW
  have hA : DataW.TrodAll enc Tryd.prog W 0 (fun _ => true) true Tryd.f8.params.toList args.toList ds p := hA0
  rw [Tryd.params8] at hA hval
  obtain ⟨v0, v1, d0, d1, p0, p1, rfl, rfl, rfl, h0, h1⟩ := trodAll_two hA
  obtain ⟨rfl, rfl⟩ := trodVars_none hV
  obtain ⟨n, rfl, rfl, rfl, hn⟩ := open_int Tryd.underlying3 (hval 0 3 v0 rfl rfl) h0
  obtain ⟨s, rfl, rfl, rfl, hs⟩ := open_string Tryd.underlying9 (hval 1 9 v1 rfl rfl) h1
  clear hA0 hval0 hsz0
  obtain ⟨k, hr⟩ := lays_law n s
  refine (bourselaw05_FrameLays.calls k n s true W hr).mono ?_
  rintro r W' ⟨rfl, bel⟩
  exact ⟨_, rfl, _, _, _, [], _, [], hW', trodAll_mk1 (shut_bool Tryd.underlying4 _), (trodAll_cons_mk (shut_int Tryd.underlying3 hn) (trodAll_cons_mk (shut_string Tryd.underlying9 hs) trodAll_mk0)), rfl, bel.frame _, fun h => by cases h⟩
theorem over : Rows.frameLaysRow.holds Tryd.pinned (OpenSpec.ofChange Rows.frameLaysSpec) :=
  OpenClaim.holds_of_wide 8 Tryd.f8 rfl rfl rfl rfl rfl rfl rfl ⟨rfl, rfl, rfl, rfl, rfl⟩ rfl rfl rfl rfl rfl (by kernel_rfl) Tryd.func8 (by kernel_rfl) (of_decide_eq_true (by kernel_rfl))
    (by unfold Func.isWrapper; first | (rw [if_pos (by decide +kernel)]; kernel_rfl) | (rw [if_neg (by decide +kernel)]; exact ⟨rfl, rfl⟩))
    (fun os started H enc _ => lifted os started H enc)
end Go.Proofs.YteilnbnnhocciaaDoor.R8
namespace Go.Proofs.YteilnbnnhocciaaDoor
end Go.Proofs.YteilnbnnhocciaaDoor

/-! R6 -/
set_option linter.unusedVariables false
namespace Go.Proofs.YteilnbnnhocciaaDoor.R6
open Go.ChangeShapes Go.WideShapes Go.ChangeAt Go.RowKit Go.Lib Go.Shelf
open Go.ChangeMaps (open_string shut_string)
open Go.Proofs.YteilnbnnhocciaaDoor.KF Go.Proofs.YteilnbnnhocciaaDoor.P Go.Proofs.YteilnbnnhocciaaDoor.R8 Go.Proofs.YteilnbnnhocciaaDoorM Go.Proofs.YteilnbnnhocciaaDoorW.PrintWords
set_option maxRecDepth 10000
theorem opens58 : Opens Tryd.prog 58 (Kd.slice 9 Kd.string) (fun l => ∀ x ∈ l, x.size ≤ maxLen) := opens_slice Tryd.underlying58 (show Tryd.prog.cellsOf 9 = 1 by kernel_rfl) (opens_string Tryd.underlying9)
theorem open58 {H : Type} {enc : TypeId × Value → H} {W : World} {base base' : Nat} {sp : Nat → Bool} {held : Bool} {v : Value} {d : DataW H} {p : List MemPlace}
    (hv : Value.okWide Tryd.prog W .any base 58 v) (h : DataW.Trod enc Tryd.prog W base' sp held 58 v d p) :
    ∃ (A : Option Addr) (c : Nat) (l : List ByteArray), v = .slice A l.length c ∧ l.length ≤ c ∧ Kd.string.C W A l.length l := by
  obtain ⟨a, n, c, rfl⟩ := okWide_slice Tryd.underlying58 hv
  obtain ⟨m, hm⟩ := h
  obtain ⟨l, ⟨A, c', hcs, hl, hC⟩, _⟩ := opens58 enc W base' sp held m _ _ hm
  simp only [Value.cells] at hcs
  injection hcs with h1 _
  injection h1 with h1 h2 h3
  subst h1 h2 h3
  exact ⟨_, _, l, rfl, hl, hC⟩
set_option maxRecDepth 100000 in
theorem lifted (os : Os) (started : os.Started) (H : Type) (enc : TypeId × Value → H) :
    ReturnsInHanded {} Tryd.checked os 6 .any (fun w args => (Rows.frameBackSpec.pre enc Tryd.prog Tryd.f6 [] false w args ∧ laidMet Tryd.prog Rows.frameBackRow.laid w) ∧ sizedMet enc Tryd.prog Tryd.f6 (OpenSpec.ofChange Rows.frameBackSpec) false w args)
      (Rows.frameBackSpec.post enc Tryd.prog Tryd.f6 false true false false) := by
  refine returnsInHanded_of_change_and (C := Tryd.checked) (X := fun w _ => laidMet Tryd.prog Rows.frameBackRow.laid w) (fun _ _ _ hh h => h.of_heap hh) own started (by kernel_rfl) Tryd.func6
    (ChangeSpec.witness_at (enc := enc) (C := Tryd.checked) (os := os) (X := fun w _ => laidMet Tryd.prog Rows.frameBackRow.laid w) false (laidWorld os)
      #[.slice none 0 0, .int .i64 0] 8
      rfl (by kernel_rfl) (by kernel_rfl) (by kernel_rfl) (by kernel_rfl) (by kernel_rfl) (laid_met os _)) ?_
  intro W base args ds gs before hval0 hW hcnd hsz0 hX _
  have hval : ∀ (j : Nat) t v, Tryd.f6.params[j]? = some t → args[j]? = some v → Value.okWide Tryd.prog W .any base t v := hval0
  have hW' := hW
  obtain ⟨p, q, hA0, hV, rfl, hfz, hnd⟩ := hW
  have hA : DataW.TrodAll enc Tryd.prog W 0 (fun _ => true) true Tryd.f6.params.toList args.toList ds p := hA0
  rw [Tryd.params6] at hA hval
  obtain ⟨v0, v1, d0, d1, p0, p1, rfl, rfl, rfl, h0, h1⟩ := trodAll_two hA
  obtain ⟨rfl, rfl⟩ := trodVars_none hV
  have hk0 := h0
  have lt0 : ∀ x ∈ p0, x.block < W.heap.size := by obtain ⟨m, hm⟩ := hk0; exact DataW.trod_lt m _ _ _ hm
  obtain ⟨A, c, l, rfl, hl, hC⟩ := open58 (hval 0 58 v0 rfl rfl) h0
  obtain ⟨n, rfl, rfl, rfl, hn⟩ := open_int Tryd.underlying3 (hval 1 3 v1 rfl rfl) h1
  clear hA0 hval0 hsz0
  have hcall : Calls Tryd.prog 6 #[.slice A l.length c, .int .i64 n] W fun e w' => e = .returned (.bool true) ∧ Below W.heap.size W w' := by
    by_cases h20 : 20 < l.length
    · exact frameBack_many A c l n W h20
    · by_cases hb : ∀ i : Nat, i < l.length → (rdOf ByteArray.empty l (i : Int)).size ≤ 2000
      · have hb2 : ∀ s ∈ l, s.size ≤ 2000 := fun s hs => by
          obtain ⟨i, hi, rfl⟩ := List.getElem_of_mem hs
          have := hb i hi
          unfold rdOf at this
          rwa [Int.toNat_natCast, List.getD_eq_getElem?_getD, List.getElem?_eq_getElem hi] at this
        obtain ⟨k, log, ends, hf, hls, hel, kc, hkc, hkl, ⟨kk, j, all, hr, hall, hcount⟩, kk2, j2, full, hfull, hlast⟩ := back_law l n (by omega) hb2
        exact frameBack_walk A c l n W hC hl (by omega) hb k log ends hf hls hel kc hkc hkl kk j all hr hall hcount kk2 j2 full hfull hlast
      · have hex : ∃ i : Nat, i < l.length ∧ 2000 < (rdOf ByteArray.empty l (i : Int)).size := Classical.byContradiction fun hx => hb fun i hi => by
          rcases Nat.lt_or_ge 2000 (rdOf ByteArray.empty l (i : Int)).size with h | h
          · exact absurd ⟨i, hi, h⟩ hx
          · exact h
        obtain ⟨i, hi, h⟩ := hex
        exact frameBack_long A c l n W hC (by omega) i hi h
  refine hcall.mono ?_
  rintro r W' ⟨rfl, bel⟩
  exact ⟨_, rfl, _, _, _, [], _, [], hW', trodAll_mk1 (shut_bool Tryd.underlying4 _), (trodAll_cons_mk (Below.trod laidOut (by kernel_rfl) (of_decide_eq_true (by kernel_rfl)) hk0 bel lt0) (trodAll_cons_mk (shut_int Tryd.underlying3 hn) trodAll_mk0)), rfl, bel.frame _, fun h => by cases h⟩
theorem over : Rows.frameBackRow.holds Tryd.pinned (OpenSpec.ofChange Rows.frameBackSpec) :=
  OpenClaim.holds_of_wide 6 Tryd.f6 rfl rfl rfl rfl rfl rfl rfl ⟨rfl, rfl, rfl, rfl, rfl⟩ rfl rfl rfl rfl rfl (by kernel_rfl) Tryd.func6 (by kernel_rfl) (of_decide_eq_true (by kernel_rfl))
    (by unfold Func.isWrapper; first | (rw [if_pos (by decide +kernel)]; kernel_rfl) | (rw [if_neg (by decide +kernel)]; exact ⟨rfl, rfl⟩))
    (fun os started H enc _ => lifted os started H enc)
end Go.Proofs.YteilnbnnhocciaaDoor.R6
namespace Go.Proofs.YteilnbnnhocciaaDoor
end Go.Proofs.YteilnbnnhocciaaDoor

/-! R7 -/
set_option linter.unusedVariables false
namespace Go.Proofs.YteilnbnnhocciaaDoor.R7
open Go.ChangeShapes Go.WideShapes Go.ChangeAt Go.RowKit Go.Lib Go.Shelf
open Go.ChangeMaps (open_string shut_string)
open Go.Proofs.YteilnbnnhocciaaDoor.KF Go.Proofs.YteilnbnnhocciaaDoor.P Go.Proofs.YteilnbnnhocciaaDoor.R8 Go.Proofs.YteilnbnnhocciaaDoor.R6 Go.Proofs.YteilnbnnhocciaaDoorM Go.Proofs.YteilnbnnhocciaaDoorW.PrintWords
set_option maxRecDepth 100000 in
theorem lifted (os : Os) (started : os.Started) (H : Type) (enc : TypeId × Value → H) :
    ReturnsInHanded {} Tryd.checked os 7 .any (fun w args => (Rows.frameTurnsSpec.pre enc Tryd.prog Tryd.f7 [] false w args ∧ laidMet Tryd.prog Rows.frameTurnsRow.laid w) ∧ sizedMet enc Tryd.prog Tryd.f7 (OpenSpec.ofChange Rows.frameTurnsSpec) false w args)
      (Rows.frameTurnsSpec.post enc Tryd.prog Tryd.f7 false true false false) := by
  refine returnsInHanded_of_change_and (C := Tryd.checked) (X := fun w _ => laidMet Tryd.prog Rows.frameTurnsRow.laid w) (fun _ _ _ hh h => h.of_heap hh) own started (by kernel_rfl) Tryd.func7
    (ChangeSpec.witness_at (enc := enc) (C := Tryd.checked) (os := os) (X := fun w _ => laidMet Tryd.prog Rows.frameTurnsRow.laid w) false (laidWorld os)
      #[.slice none 0 0, .int .i64 0, .int .u8 0] 8
      rfl (by kernel_rfl) (by kernel_rfl) (by kernel_rfl) (by kernel_rfl) (by kernel_rfl) (laid_met os _)) ?_
  intro W base args ds gs before hval0 hW hcnd hsz0 hX _
  have hval : ∀ (j : Nat) t v, Tryd.f7.params[j]? = some t → args[j]? = some v → Value.okWide Tryd.prog W .any base t v := hval0
  have hW' := hW
  obtain ⟨p, q, hA0, hV, rfl, hfz, hnd⟩ := hW
  have hA : DataW.TrodAll enc Tryd.prog W 0 (fun _ => true) true Tryd.f7.params.toList args.toList ds p := hA0
  rw [Tryd.params7] at hA hval
  obtain ⟨v0, v1, v2, d0, d1, d2, p0, p1, p2, rfl, rfl, rfl, h0, h1, h2⟩ := trodAll_three hA
  obtain ⟨rfl, rfl⟩ := trodVars_none hV
  have hk0 := h0
  have lt0 : ∀ x ∈ p0, x.block < W.heap.size := by obtain ⟨m, hm⟩ := hk0; exact DataW.trod_lt m _ _ _ hm
  obtain ⟨A, c, l, rfl, hl, hC⟩ := open58 (hval 0 58 v0 rfl rfl) h0
  obtain ⟨n, rfl, rfl, rfl, hn⟩ := open_int Tryd.underlying3 (hval 1 3 v1 rfl rfl) h1
  obtain ⟨q, rfl, rfl, rfl, hq⟩ := open_int Tryd.underlying5 (hval 2 5 v2 rfl rfl) h2
  clear hA0 hval0 hsz0
  obtain ⟨turn, rfl⟩ : ∃ m : Nat, q = (m : Int) := ⟨q.toNat, by have hn2 := hq; simp [Lit.wf, IntKind.min, IntKind.max, IntKind.signed, IntKind.bits] at hn2; omega⟩
  have htl : turn < 256 := by have hn2 := hq; simp [Lit.wf, IntKind.min, IntKind.max, IntKind.signed, IntKind.bits] at hn2; omega
  have hcall : Calls Tryd.prog 7 #[.slice A l.length c, .int .i64 n, .int .u8 (turn : Nat)] W fun e w' => e = .returned (.bool true) ∧ Below W.heap.size W w' := by
    by_cases hfew : l.length < 1 ∨ 10 < l.length ∨ turn = 0
    · exact frameTurns_few A c l n turn W hfew
    · have hl1 : 0 < l.length := by omega
      have hl2 : l.length ≤ 10 := by omega
      have ht0 : turn ≠ 0 := by omega
      by_cases hb : ∀ i : Nat, i < l.length → (rdOf ByteArray.empty l (i : Int)).size ≤ 400
      · have hb2 : ∀ s ∈ l, s.size ≤ 400 := fun s hs => by
          obtain ⟨i, hi, rfl⟩ := List.getElem_of_mem hs
          have := hb i hi
          unfold rdOf at this
          rwa [Int.toNat_natCast, List.getD_eq_getElem?_getD, List.getElem?_eq_getElem hi] at this
        obtain ⟨k, log, ends, hf, hls, hel, fr, hfr, hfr0, hfl, m, kk, hm, hkk, hml, kp, hs, hp, hhl, hhb, d, T, hd, hT, hok⟩ := turns_law l n turn hl1 hl2 hb2 ht0 htl
        exact frameTurns_walk A c l n turn W hC hl hl1 hl2 ht0 htl hb k log ends hf hls hel fr hfr hfr0 hfl m kk hm hkk hml kp hs hp hhl hhb d hd T hT hok
      · have hex : ∃ i : Nat, i < l.length ∧ 400 < (rdOf ByteArray.empty l (i : Int)).size := Classical.byContradiction fun hx => hb fun i hi => by
          rcases Nat.lt_or_ge 400 (rdOf ByteArray.empty l (i : Int)).size with h | h
          · exact absurd ⟨i, hi, h⟩ hx
          · exact h
        obtain ⟨i, hi, h⟩ := hex
        exact frameTurns_long A c l n turn W hC hl2 ht0 i hi h
  refine hcall.mono ?_
  rintro r W' ⟨rfl, bel⟩
  exact ⟨_, rfl, _, _, _, [], _, [], hW', trodAll_mk1 (shut_bool Tryd.underlying4 _), (trodAll_cons_mk (Below.trod laidOut (by kernel_rfl) (of_decide_eq_true (by kernel_rfl)) hk0 bel lt0) (trodAll_cons_mk (shut_int Tryd.underlying3 hn) (trodAll_cons_mk (shut_int Tryd.underlying5 hq) trodAll_mk0))), rfl, bel.frame _, fun h => by cases h⟩
theorem over : Rows.frameTurnsRow.holds Tryd.pinned (OpenSpec.ofChange Rows.frameTurnsSpec) :=
  OpenClaim.holds_of_wide 7 Tryd.f7 rfl rfl rfl rfl rfl rfl rfl ⟨rfl, rfl, rfl, rfl, rfl⟩ rfl rfl rfl rfl rfl (by kernel_rfl) Tryd.func7 (by kernel_rfl) (of_decide_eq_true (by kernel_rfl))
    (by unfold Func.isWrapper; first | (rw [if_pos (by decide +kernel)]; kernel_rfl) | (rw [if_neg (by decide +kernel)]; exact ⟨rfl, rfl⟩))
    (fun os started H enc _ => lifted os started H enc)
end Go.Proofs.YteilnbnnhocciaaDoor.R7
namespace Go.Proofs.YteilnbnnhocciaaDoor
theorem frameTurns_holds : Rows.FrameTurnsSaid := R7.over
end Go.Proofs.YteilnbnnhocciaaDoor

/-! C7 -/
namespace Go.Proofs.YteilnbnnhocciaaDoor
open Go
theorem frameTurnsCard_holds : Rows.FrameTurnsCardSaid :=
  Claim7.holds_tied_plain_at .later [] [.data, .pinned] true (true, "bc9cca30e6bcb58c3d7b40caaba0da34bdf01bc2fab1082ae4b270bbcf37ee66") true
    frameTurns_holds (fun _ h => by cases h) (by kernel_rfl) (fun _ h => by cases h) frameTurns_row_tie rfl ⟨rfl, rfl⟩ (by kernel_rfl) rfl
    (fun f fn hf hfn => by
      obtain rfl : f = 7 := Option.some.inj ((show Tryd.prog.funcNamed "bourse/bourselaw05.FrameTurns" = some 7 by kernel_rfl).symm.trans hf) |>.symm
      obtain rfl : fn = Tryd.f7 := (Option.some.inj (Tryd.func7.symm.trans hfn)).symm
      exact ⟨by kernel_rfl, fun j t ht => by
        rw [Tryd.params7] at ht
        have h3 : t = 58 ∨ t = 3 ∨ t = 5 := by
          rcases j with _ | _ | _ | j
          · exact .inl (by simpa using ht.symm)
          · exact .inr (.inl (by simpa using ht.symm))
          · exact .inr (.inr (by simpa using ht.symm))
          · simp at ht
        rcases h3 with rfl | rfl | rfl
        · exact (show Tryd.prog.wantsStandIn 58 = false by kernel_rfl)
        · exact (show Tryd.prog.wantsStandIn 3 = false by kernel_rfl)
        · exact (show Tryd.prog.wantsStandIn 5 = false by kernel_rfl)⟩)
    (by kernel_rfl)
end Go.Proofs.YteilnbnnhocciaaDoor
