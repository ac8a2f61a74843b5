/- FrameLays: walked, told in plain words, its row, its card. (part 5 of 5; packed by program out of the texts named below) -/
import Derived.Test.YteilnbnnhocciaaDoorXC4
import Derived.Test.YteilnbnnhocciaaDoorRows
import Derived.Lib.LaidIn
import Derived.ChangeArms
import Derived.ChangeSame
import Derived.ChangeVars
import Derived.JoinedOf
import Derived.RowKit
import Derived.WalkKit
import Derived.ProofKit
import Derived.OpenShut
import Derived.ShutString
import Derived.ChangeOld
import Derived.Below
import Derived.SizedLaws
import Derived.DataReads
import Derived.WideShapes
import Derived.Test.YteilnbnnhocciaaDoorTie
import Derived.Test.YteilnbnnhocciaaDoorCards
import Derived.SevenTiedAt

/-! KF23 -/
namespace Go.Proofs.YteilnbnnhocciaaDoor.KF
open Go.RowKit Go.Proofs.YteilnbnnhocciaaDoorW.PrintWords Go.Proofs.YteilnbnnhocciaaDoorW.PrintLast Go.Proofs.YteilnbnnhocciaaDoorW.PrintMore Go.Proofs.YteilnbnnhocciaaDoorM
attribute [local go_sem] max2_int min2_int max_two min_two max_three min_three max_four min_four
set_option linter.unusedVariables false
set_option linter.unusedSimpArgs false
def frame_Len.l0 : Nat → Int → Int → Int → Option (Int)
  | 0, _, _, _ => none
  | k + 1, x0, x1, x5 => (frame_pad.f x0).bind fun t137 => ((frame_left.f (wrap64 (x0 + t137))).bind fun t138 => (if (wrap64 (x1 - (mn (wrap64 (t138 - 7)) x1))) = 0 then (some (wrap64 ((wrap64 ((wrap64 (x0 + t137)) + (wrap64 (7 + (mn (wrap64 (t138 - 7)) x1))))) - x5))) else (frame_Len.l0 k (wrap64 ((wrap64 (x0 + t137)) + (wrap64 (7 + (mn (wrap64 (t138 - 7)) x1))))) (wrap64 (x1 - (mn (wrap64 (t138 - 7)) x1))) x5)))
def frame_Len.f (k : Nat) (a0 : Int) (a1 : Int) : Option (Int) := frame_Len.l0 k (mx a0 0) (mx a1 0) (mx a0 0)
set_option maxHeartbeats 8000000 in
set_option maxRecDepth 100000 in
theorem frame_Len.calls (k : Nat) (a0 : Int) (a1 : Int) (r : Int) (w : World) (h : frame_Len.f k a0 a1 = some r) :
    Calls Tryd.prog 32 #[.int .i64 a0, .int .i64 a1] w fun e w' => e = .returned (.int .i64 r) ∧ Below w.heap.size w w' := by
  have HB := Aside0.mk (Below.refl w.heap.size w)
  have H : (frame_Len.l0 k (mx a0 0) (mx a1 0) (mx a0 0)) = some r := h
  clear h
  obtain ⟨ji3, hji3⟩ : ∃ j_ : Int, (mx a0 0) = j_ := ⟨_, rfl⟩
  replace H : (frame_Len.l0 k ji3 (mx a1 0) ji3) = some r := by first | (rw [hji3] at H; exact H) | (simp only [hji3] at H ⊢; exact H)
  (try (have hji3l : 0 ≤ ji3 := by (rw [← hji3]; unfold mx; (repeat' split) <;> omega)))
  (try (have hji3m : 0 ≤ ji3 := by omega))
  have hji3_ : (if a0 < 0 then 0 else a0) = ji3 := hji3
  obtain ⟨ji4, hji4⟩ : ∃ j_ : Int, (mx a1 0) = j_ := ⟨_, rfl⟩
  replace H : (frame_Len.l0 k ji3 ji4 ji3) = some r := by first | (rw [hji4] at H; exact H) | (simp only [hji4] at H ⊢; exact H)
  (try (have hji4l : 0 ≤ ji4 := by (rw [← hji4]; unfold mx; (repeat' split) <;> omega)))
  (try (have hji4m : 0 ≤ ji4 := by omega))
  have hji4_ : (if a1 < 0 then 0 else a1) = ji4 := hji4
  have H' := Aside0.mk H
  clear H
  go_enter Tryd.func32, Tryd.ntmps32
  go_wp2
  go_loopg [0, 1] k (fun kq v0 v1 w' => ∃ (x0_1 : Int) (x1_1 : Int), v0 = .int .i64 x0_1 ∧ v1 = .int .i64 x1_1 ∧ Aside0 (frame_Len.l0 kq x0_1 x1_1 ji3 = some r) ∧ Aside0 (kq ≤ k) ∧ Aside0 (Below w.heap.size w w'))
  case atStart => exact ⟨(ji3), (ji4), (by first | rfl | (simp; done) | (simp only [← hji3] <;> (first | rfl | simp)) | (simp [*]; done)), (by first | rfl | (simp; done) | (simp only [← hji4] <;> (first | rfl | simp)) | (simp [*]; done)), (by first | exact H' | (rw [hji4]; exact H')), ⟨Nat.le_refl _⟩, ⟨by repeat (first | (with_reducible first | exact HB.out | apply below_alloc | apply pw_below_drewN | apply below_drew1) | exact HB.out)⟩⟩
  case round =>
    clear H'
    try clear p2
    try clear c3
    obtain ⟨x0_1, x1_1, rfl, rfl, HA, HK1, HB⟩ := hrel
    cases gk with
    | zero => exact absurd HA.out (by simp [frame_Len.l0])
    | succ k1 =>
      have H := HA.out
      clear HA
      simp only [frame_Len.l0] at H
      replace H := Option.bind_eq_some_iff.mp H
      obtain ⟨t137, A50, H⟩ := H
      replace H : ((frame_left.f (wrap64 (x0_1 + t137))).bind fun t138 => (if (wrap64 (x1_1 - (mn (wrap64 (t138 - 7)) x1_1))) = 0 then (some (wrap64 ((wrap64 ((wrap64 (x0_1 + t137)) + (wrap64 (7 + (mn (wrap64 (t138 - 7)) x1_1))))) - ji3))) else (frame_Len.l0 k1 (wrap64 ((wrap64 (x0_1 + t137)) + (wrap64 (7 + (mn (wrap64 (t138 - 7)) x1_1))))) (wrap64 (x1_1 - (mn (wrap64 (t138 - 7)) x1_1))) ji3))) = some r := H
      have A5 := Aside0.mk A50
      clear A50
      replace H := Option.bind_eq_some_iff.mp H
      obtain ⟨t138, A60, H⟩ := H
      replace H : (if (wrap64 (x1_1 - (mn (wrap64 (t138 - 7)) x1_1))) = 0 then (some (wrap64 ((wrap64 ((wrap64 (x0_1 + t137)) + (wrap64 (7 + (mn (wrap64 (t138 - 7)) x1_1))))) - ji3))) else (frame_Len.l0 k1 (wrap64 ((wrap64 (x0_1 + t137)) + (wrap64 (7 + (mn (wrap64 (t138 - 7)) x1_1))))) (wrap64 (x1_1 - (mn (wrap64 (t138 - 7)) x1_1))) ji3)) = some r := H
      have A6 := Aside0.mk A60
      clear A60
      obtain ⟨ji7, hji7⟩ : ∃ j_ : Int, (mn (wrap64 (t138 - 7)) x1_1) = j_ := ⟨_, rfl⟩
      replace H : (if (wrap64 (x1_1 - (ji7))) = 0 then (some (wrap64 ((wrap64 ((wrap64 (x0_1 + t137)) + (wrap64 (7 + (ji7))))) - ji3))) else (frame_Len.l0 k1 (wrap64 ((wrap64 (x0_1 + t137)) + (wrap64 (7 + (ji7))))) (wrap64 (x1_1 - (ji7))) ji3)) = some r := by first | (rw [hji7] at H; exact H) | (simp only [hji7] at H ⊢; exact H)
      (try rw [hji7] at A5)
      (try rw [hji7] at A6)
      have hji7_ : (if x1_1 < (wrap64 (t138 - 7)) then x1_1 else (wrap64 (t138 - 7))) = ji7 := hji7
      by_cases c8 : (wrap64 (x1_1 - (ji7))) = 0
      · rw [if_pos c8] at H
        have c8b0 : ((wrap64 (x1_1 - (ji7))) == 0) = true := beq_iff_eq.mpr c8
        have c8b1 : ((wrap64 (x1_1 - (ji7))) != 0) = false := bne_eq_false_iff_eq.mpr c8
        clear c8
        obtain rfl := Option.some.inj H
        go_wp2_with (first | ((with_reducible refine gate_callee (f := 77) rfl ?_); refine goesL_ (some 14) rfl rfl Tryd.func77 (by kernel_rfl) rfl #[.int .i64 x0_1] rfl (by (try simp only [List.map_toArray, List.map_cons, List.map_nil]); first | done | rfl | (simp only [List.length_drop, List.length_take]; rfl)) ?_; (with_reducible refine (frame_pad.calls x0_1 t137 _ A5.out).mono ?_); rintro e w' ⟨rfl, ⟨nd, rfl⟩⟩; refine ⟨_, rfl, ?_⟩) | ((with_reducible refine gate_callee (f := 80) rfl ?_); refine goesL_ (some 17) rfl rfl Tryd.func80 (by kernel_rfl) rfl #[.int .i64 (wrap64 (x0_1 + t137))] rfl (by (try simp only [List.map_toArray, List.map_cons, List.map_nil]); first | done | rfl | (simp only [List.length_drop, List.length_take]; rfl)) ?_; (with_reducible refine (frame_left.calls (wrap64 (x0_1 + t137)) t138 _ A6.out).mono ?_); rintro e w' ⟨rfl, ⟨nd, rfl⟩⟩; refine ⟨_, rfl, ?_⟩))
        go_ret
        exact ⟨by first | rfl | (simp [errW_none, errW_some] <;> rfl) | (simp only [← hji3, ← hji4, ← hji7]; first | rfl | (simp [errW_none, errW_some] <;> rfl)) | (simp [*, errW_none, errW_some] <;> rfl), by repeat (first | (with_reducible first | exact HB.out | apply below_alloc | apply pw_below_drewN | apply below_drew1) | exact HB.out)⟩
      · rw [if_neg c8] at H
        have c8b0 : ((wrap64 (x1_1 - (ji7))) == 0) = false := beq_eq_false_iff_ne.mpr c8
        have c8b1 : ((wrap64 (x1_1 - (ji7))) != 0) = true := bne_iff_ne.mpr c8
        have H' := Aside0.mk H
        clear H
        go_wp2_with (first | ((with_reducible refine gate_callee (f := 77) rfl ?_); refine goesL_ (some 14) rfl rfl Tryd.func77 (by kernel_rfl) rfl #[.int .i64 x0_1] rfl (by (try simp only [List.map_toArray, List.map_cons, List.map_nil]); first | done | rfl | (simp only [List.length_drop, List.length_take]; rfl)) ?_; (with_reducible refine (frame_pad.calls x0_1 t137 _ A5.out).mono ?_); rintro e w' ⟨rfl, ⟨nd, rfl⟩⟩; refine ⟨_, rfl, ?_⟩) | ((with_reducible refine gate_callee (f := 80) rfl ?_); refine goesL_ (some 17) rfl rfl Tryd.func80 (by kernel_rfl) rfl #[.int .i64 (wrap64 (x0_1 + t137))] rfl (by (try simp only [List.map_toArray, List.map_cons, List.map_nil]); first | done | rfl | (simp only [List.length_drop, List.length_take]; rfl)) ?_; (with_reducible refine (frame_left.calls (wrap64 (x0_1 + t137)) t138 _ A6.out).mono ?_); rintro e w' ⟨rfl, ⟨nd, rfl⟩⟩; refine ⟨_, rfl, ?_⟩))
        go_roundg k1
        case measure => have := HK1.out; omega
        case rel => exact ⟨(wrap64 ((wrap64 (x0_1 + t137)) + (wrap64 (7 + (ji7))))), (wrap64 (x1_1 - (ji7))), (by first | rfl | (simp; done) | (simp only [← hji7] <;> (first | rfl | simp)) | (simp [*]; done)), (by first | rfl | (simp; done) | (simp only [← hji7] <;> (first | rfl | simp)) | (simp [*]; done)), (by first | exact H' | (rw [hji7]; exact H')), ⟨by have := HK1.out; omega⟩, ⟨by repeat (first | (with_reducible first | exact HB.out | apply below_alloc | apply pw_below_drewN | apply below_drew1) | exact HB.out)⟩⟩
end Go.Proofs.YteilnbnnhocciaaDoor.KF

/-! KG2 -/
namespace Go.Proofs.YteilnbnnhocciaaDoor.KF
open Go.RowKit Go.Proofs.YteilnbnnhocciaaDoorW.PrintWords Go.Proofs.YteilnbnnhocciaaDoorW.PrintLast Go.Proofs.YteilnbnnhocciaaDoorW.PrintMore Go.Proofs.YteilnbnnhocciaaDoorM
set_option linter.unusedVariables false
set_option linter.unusedSimpArgs false
def hiS : ByteArray := ⟨#[104, 105]⟩
theorem awake_lay : frame_Lay.f 3 0 hiS = some ⟨#[139, 110, 172, 224, 2, 0, 1, 104, 105]⟩ := by decide +kernel
theorem awake_recs : recs 5 ⟨#[139, 110, 172, 224, 2, 0, 1, 104, 105]⟩ 5 0 = some [(hiS, 9)] := by decide +kernel
set_option maxHeartbeats 2000000 in
set_option maxRecDepth 100000 in
theorem bourselaw05_awake.calls (w : World) : Calls Tryd.prog 24 #[] w fun e w' => e = .returned (.bool true) ∧ Below w.heap.size w w' := by
  have H1 := Hush.mk awake_lay
  have H2 := Hush.mk awake_recs
  go_enter Tryd.func24, Tryd.ntmps24
  go_wp2_with fail
  refine (frame_Lay.calls 3 _ _ _ _ H1.out).mono ?_
  rintro e w1 ⟨rfl, hb1⟩
  have he : ((⟨#[139, 110, 172, 224, 2, 0, 1, 104, 105]⟩ : ByteArray).extract 4 9).toList = [2, 0, 1, 104, 105] := by decide +kernel
  go_wp2_with fail
  refine (frame_Whole.calls 5 5 _ _ _ H2.out).mono ?_
  rintro e w2 ⟨rfl, hb2⟩
  go_wp2
  go_ret
  exact ⟨rfl, hb1.trans (hb2.mono hb1.size)⟩
def bourselaw05_FrameLays.f (k : Nat) (a0 : Int) (a1 : ByteArray) : Option Bool :=
  if (a1.size : Int) > 3000 then some true else if a0 > 1073741824 then some true else
  (frame_Lay.f k a0 a1).bind fun x => (bourseref05_Lay.f k a0 a1).bind fun y =>
    if x.toList = y.toList then (frame_Len.f k a0 (a1.size : Int)).bind fun n => some (n == (y.size : Int)) else some false
set_option maxHeartbeats 2000000 in
set_option maxRecDepth 100000 in
theorem bourselaw05_FrameLays.calls (k : Nat) (a0 : Int) (a1 : ByteArray) (r : Bool) (w : World) (h : bourselaw05_FrameLays.f k a0 a1 = some r) :
    Calls Tryd.prog 8 #[.int .i64 a0, .string a1] w fun e w' => e = .returned (.bool r) ∧ Below w.heap.size w w' := by
  unfold bourselaw05_FrameLays.f at h
  by_cases c1 : (a1.size : Int) > 3000
  · rw [if_pos c1] at h
    obtain rfl := Option.some.inj h
    have c1' := decide_eq_true c1
    go_enter Tryd.func8, Tryd.ntmps8
    go_wp2_with fail
    refine (bourselaw05_awake.calls _).mono ?_
    rintro e w1 ⟨rfl, hb1⟩
    go_wp2_with fail
    go_ret
    exact ⟨rfl, hb1⟩
  rw [if_neg c1] at h
  by_cases c2 : a0 > 1073741824
  · rw [if_pos c2] at h
    obtain rfl := Option.some.inj h
    have c1' := decide_eq_false c1
    have c2' := decide_eq_true c2
    go_enter Tryd.func8, Tryd.ntmps8
    go_wp2_with fail
    refine (bourselaw05_awake.calls _).mono ?_
    rintro e w1 ⟨rfl, hb1⟩
    go_wp2_with fail
    go_ret
    exact ⟨rfl, hb1⟩
  rw [if_neg c2] at h
  obtain ⟨x, hx, h⟩ := Option.bind_eq_some_iff.mp h
  obtain ⟨y, hy, h⟩ := Option.bind_eq_some_iff.mp h
  have H1 := Hush.mk hx
  have H2 := Hush.mk hy
  clear hx hy
  have c1' := decide_eq_false c1
  have c2' := decide_eq_false c2
  by_cases c3 : x.toList = y.toList
  · rw [if_pos c3] at h
    obtain ⟨n, hn, h⟩ := Option.bind_eq_some_iff.mp h
    obtain rfl := Option.some.inj h
    have H3 := Hush.mk hn
    clear hn h
    go_enter Tryd.func8, Tryd.ntmps8
    go_wp2_with fail
    refine (bourselaw05_awake.calls _).mono ?_
    rintro e w1 ⟨rfl, hb1⟩
    go_wp2_with fail
    refine (frame_Lay.calls k _ _ _ _ H1.out).mono ?_
    rintro e w2 ⟨rfl, hb2⟩
    go_wp2_with fail
    refine (bourseref05_Lay.calls k _ _ _ _ H2.out).mono ?_
    rintro e w3 ⟨rfl, hb3⟩
    have c4 : (x.toList == y.toList) = true := by simpa using c3
    go_wp2_with fail
    refine (frame_Len.calls k _ _ _ _ H3.out).mono ?_
    rintro e w4 ⟨rfl, hb4⟩
    go_wp2_with fail
    refine (bourseref05_Lay.calls k _ _ _ _ H2.out).mono ?_
    rintro e w5 ⟨rfl, hb5⟩
    go_wp2
    go_ret
    have h3 := hb1.trans (hb2.mono hb1.size)
    have h4 := h3.trans (hb3.mono h3.size)
    have h5 := h4.trans (hb4.mono h4.size)
    exact ⟨rfl, h5.trans (hb5.mono h5.size)⟩
  · rw [if_neg c3] at h
    obtain rfl := Option.some.inj h
    clear h
    go_enter Tryd.func8, Tryd.ntmps8
    go_wp2_with fail
    refine (bourselaw05_awake.calls _).mono ?_
    rintro e w1 ⟨rfl, hb1⟩
    go_wp2_with fail
    refine (frame_Lay.calls k _ _ _ _ H1.out).mono ?_
    rintro e w2 ⟨rfl, hb2⟩
    go_wp2_with fail
    refine (bourseref05_Lay.calls k _ _ _ _ H2.out).mono ?_
    rintro e w3 ⟨rfl, hb3⟩
    have c4 : (x.toList == y.toList) = false := by simpa using c3
    go_wp2
    go_ret
    have h3 := hb1.trans (hb2.mono hb1.size)
    exact ⟨rfl, h3.trans (hb3.mono h3.size)⟩
end Go.Proofs.YteilnbnnhocciaaDoor.KF

/-! KP1 -/
set_option linter.unusedVariables false
namespace Go.Proofs.YteilnbnnhocciaaDoor.P
open Go.RowKit Go.Proofs.YteilnbnnhocciaaDoorW.PrintWords Go.Proofs.YteilnbnnhocciaaDoorW.PrintLast Go.Proofs.YteilnbnnhocciaaDoorW.PrintMore Go.Proofs.YteilnbnnhocciaaDoorM Go.Proofs.YteilnbnnhocciaaDoor.KF
def B (l : List UInt8) : ByteArray := ⟨l.toArray⟩
theorem B_app (l m : List UInt8) : B l ++ B m = B (l ++ m) := ByteArray.mk_append_mk l m
theorem B_size (l : List UInt8) : (B l).size = l.length := by simp [B, ByteArray.size]
theorem B_data (l : List UInt8) : (B l).data.toList = l := rfl
theorem list_ext {s t : ByteArray} (h : s.data.toList = t.data.toList) : s = t := by
  cases s with | mk a => cases t with | mk b => congr 1; exact Array.toList_inj.1 h
theorem B_of (s : ByteArray) : s = B s.data.toList := list_ext rfl
theorem B_ext (l : List UInt8) (i j : Nat) (h : j ≤ l.length) : (B l).extract i j = B ((l.take j).drop i) := by
  apply list_ext
  rw [ByteArray.data_extract, Array.toList_extract, B_data, B_data]
  simp only [List.extract, List.drop_take]
theorem tl (s : ByteArray) : s.toList = s.data.toList := by rw [ByteArray.toList_eq]
theorem wrap_in {n : Int} (h1 : -9223372036854775808 ≤ n) (h2 : n ≤ 9223372036854775807) : wrap64 n = n := IntWalk.wrap64_in n ⟨by omega, by omega⟩
theorem ofNat_mod (n : Nat) : UInt8.ofNat (n % 256) = UInt8.ofNat n := by
  apply UInt8.toNat_inj.1
  simp [UInt8.toNat_ofNat']
def crcL (l : List UInt8) : Nat := 4294967295 - crc_go 4294967295 l
def maskN (n : Nat) : Nat := ((n / 32768 ||| (n * 131072) % 4294967296) + 2726488792) % 4294967296
def le : Nat → Nat → List UInt8
  | 0, _ => []
  | m + 1, n => UInt8.ofNat n :: le m (n / 256)
theorem le_len (m n : Nat) : (le m n).length = m := by
  induction m generalizing n with
  | zero => rfl
  | succ m ih => simp [le, ih]
def sumL (kd : Nat) (s : List UInt8) : List UInt8 := le 4 (maskN (crcL (UInt8.ofNat kd :: s)))
def pieceL (kd : Nat) (s : List UInt8) : List UInt8 := sumL kd s ++ (le 2 s.length ++ (UInt8.ofNat kd :: s))
theorem sumL_len (kd : Nat) (s : List UInt8) : (sumL kd s).length = 4 := le_len _ _
theorem pieceL_len (kd : Nat) (s : List UInt8) : (pieceL kd s).length = 7 + s.length := by simp [pieceL, sumL_len, le_len]; omega
theorem maskN_lt (n : Nat) : maskN n < 4294967296 := Nat.mod_lt _ (by decide)
theorem crcL_lt (l : List UInt8) : crcL l < 4294967296 := by unfold crcL; omega
theorem one_B (kd : Nat) : strOfNums [(kd : Int)] = B [UInt8.ofNat kd] := list_ext (by rw [strOfNums_data]; simp [B])
theorem mask_f (n : Nat) (h : n < 4294967296) : crc_Mask.f (n : Int) = some (maskN n : Int) := by
  unfold crc_Mask.f
  have e1 : (n : Int) / 32768 = ((n / 32768 : Nat) : Int) := by omega
  have e2 : (n : Int) * 131072 % 4294967296 = ((n * 131072 % 4294967296 : Nat) : Int) := by omega
  rw [e1, e2, u32_or_nat _ _ (by omega) (by omega)]
  unfold maskN
  congr 1
theorem sum_f (kd : Nat) (hk : kd < 256) (s : List UInt8) (hs : s.length ≤ 1000000000) : frame_sum.f (kd : Int) (B s) = some (maskN (crcL (UInt8.ofNat kd :: s)) : Int) := by
  unfold frame_sum.f
  simp only [Option.bind_some]
  rw [one_B, B_app, B_size, B_size, if_pos (by simp; omega)]
  unfold crc_Of.f crc_Add.f
  rw [if_pos ⟨by omega, by omega, by rw [B_size]; simp; omega⟩]
  simp only [Option.bind_some]
  exact congrArg (fun x => Option.bind x fun t => some t) (mask_f _ (crcL_lt _))
theorem u64w (n : Nat) (h : n < 18446744073709551616) : IntKind.u64.wrap (n : Int) = (n : Int) := by show (n : Int) % 18446744073709551616 = _; omega
theorem fixed_f (n : Nat) (h : n < 4294967296) : varint_Fixed.f 9 (n : Int) = some (B (le 4 n)) := by
  unfold varint_Fixed.f varint_little.f
  have e0 : IntKind.u64.wrap (n : Int) = (n : Int) := u64w n (by omega)
  rw [e0]
  simp [varint_little.l0, wrap64, shr, IntKind.bits]
  apply list_ext
  rw [strOfNums_data, B_data]
  simp [le]
  refine ⟨?_, ?_, ?_, ?_⟩ <;> (apply UInt8.toNat_inj.1; simp [UInt8.toNat_ofNat']; omega)
theorem le2_ofNat (n : Nat) : le 2 n = [UInt8.ofNat n, UInt8.ofNat (n / 256)] := rfl
theorem piece_f (kd : Nat) (hk : kd < 256) (s : List UInt8) (hs : s.length ≤ 65535) : frame_piece.f 9 (kd : Int) (B s) = some (B (pieceL kd s)) := by
  unfold frame_piece.f
  rw [sum_f kd hk s (by omega)]
  simp only [Option.bind_some]
  rw [fixed_f _ (maskN_lt _)]
  simp only [Option.bind_some]
  have e : strOfNums [((B s).size : Int) % 256, ((B s).size : Int) / 256 % 256, (kd : Int)] = B (le 2 s.length ++ [UInt8.ofNat kd]) := by
    apply list_ext
    rw [strOfNums_data, B_data, B_size, le2_ofNat]
    simp
    refine ⟨?_, ?_⟩ <;> (apply UInt8.toNat_inj.1; simp [UInt8.toNat_ofNat']; omega)
  rw [e, B_app, B_app, B_size, B_size, B_size, B_size]
  rw [if_pos (by simp [le_len]), if_pos (by simp [le_len]; omega)]
  refine congrArg some (congrArg B ?_)
  simp [pieceL, sumL]
def kindN (bg en : Bool) : Nat := if bg then (if en then 1 else 2) else if en then 4 else 3
theorem kind_f (bg en : Bool) : frame_kind.f 5 bg en = some (kindN bg en : Int) := by cases bg <;> cases en <;> rfl
theorem kindN_lt (bg en : Bool) : kindN bg en < 256 := by cases bg <;> cases en <;> decide
def steps : Nat → Nat → Nat
  | 0, n => n
  | d + 1, n => steps d (crc_step n)
theorem byte_l : ∀ (d k i n : Nat), i + d = 8 → d < k → n < 4294967296 → bourseref01_Byte.l0 k (n : Int) (i : Int) = some (steps d n : Int)
  | 0, k + 1, i, n, hi, hk, hn => by
    unfold bourseref01_Byte.l0
    rw [if_neg (by omega)]
    rfl
  | d + 1, k + 1, i, n, hi, hk, hn => by
    unfold bourseref01_Byte.l0
    rw [if_pos (by omega)]
    have e1 : Int.tmod (n : Int) 2 = ((n % 2 : Nat) : Int) := by rw [Int.tmod_eq_emod_of_nonneg (by omega)]; omega
    have e2 : Int.tdiv (n : Int) 2 % 4294967296 = ((n / 2 : Nat) : Int) := by rw [Int.tdiv_eq_ediv_of_nonneg (by omega)]; omega
    rw [e1, e2, wrap_in (by omega) (by omega)]
    have hu : Go.bits .xor .u32 ((n / 2 : Nat) : Int) 2197175160 = ((n / 2 ^^^ 2197175160 : Nat) : Int) := u32_xor_nat (n / 2) 2197175160 (by omega) (by decide)
    have e3 : (i : Int) + 1 = ((i + 1 : Nat) : Int) := by omega
    have hst := crc_step_lt hn
    rw [hu, e3]
    by_cases h : n % 2 = 1
    · have hs : crc_step n = n / 2 ^^^ 2197175160 := by unfold crc_step; rw [if_pos h]
      rw [if_pos (by omega), ← hs, byte_l d k (i + 1) _ (by omega) (by omega) hst]
      rfl
    · have hs : crc_step n = n / 2 := by unfold crc_step; rw [if_neg h]
      rw [if_neg (by omega), ← hs, byte_l d k (i + 1) _ (by omega) (by omega) hst]
      rfl
theorem byte_f (k n : Nat) (hk : 9 ≤ k) (hn : n < 4294967296) : bourseref01_Byte.f k (n : Int) = some (crc_byte n : Int) := by
  unfold bourseref01_Byte.f
  exact byte_l 8 k 0 n rfl (by omega) hn
theorem bt_of (s : List UInt8) (i : Nat) (h : i < s.length) : bt (B s) (i : Int) = (s[i].toNat : Int) := by
  unfold bt
  rw [dif_pos (by rw [B_size]; exact h)]
  simp [B, ByteArray.getElem_eq_getElem_data]
theorem add_l : ∀ (d k i n : Nat) (s : List UInt8), i + d = s.length → d + 10 ≤ k → n < 4294967296 → s.length ≤ 9223372036854775807 → bourseref01_Add.l0 k (n : Int) (B s) (i : Int) = some ((4294967295 - crc_go n (s.drop i) : Nat) : Int)
  | 0, k + 1, i, n, s, hi, hk, hn, hs => by
    unfold bourseref01_Add.l0
    rw [B_size, if_neg (by omega), List.drop_of_length_le (by omega), crc_go]
    have := hn
    congr 1
    omega
  | d + 1, k + 1, i, n, s, hi, hk, hn, hs => by
    unfold bourseref01_Add.l0
    have hlt : i < s.length := by omega
    have hc := UInt8.toNat_lt s[i]
    have e1 : Int.tmod (n : Int) 256 = ((n % 256 : Nat) : Int) := by rw [Int.tmod_eq_emod_of_nonneg (by omega)]; omega
    have e2 : Int.tdiv (n : Int) 256 % 4294967296 = ((n / 256 : Nat) : Int) := by rw [Int.tdiv_eq_ediv_of_nonneg (by omega)]; omega
    have e4 : (s[i].toNat : Int) % 4294967296 = (s[i].toNat : Int) := by omega
    rw [B_size, if_pos (by omega), if_pos (by omega), bt_of s i hlt, e1, e2, e4, u32_xor_nat _ _ (by omega) (by omega)]
    have hx : n % 256 ^^^ s[i].toNat < 4294967296 := Nat.xor_lt_two_pow (n := 32) (by omega) (by omega)
    rw [byte_f k _ (by omega) hx]
    simp only [Option.bind_some]
    rw [u32_xor_nat _ _ (crc_byte_lt hx) (by omega), wrap_in (by omega) (by omega)]
    have e3 : (i : Int) + 1 = ((i + 1 : Nat) : Int) := by omega
    rw [e3, add_l d k (i + 1) _ s (by omega) (by omega) (Nat.xor_lt_two_pow (n := 32) (crc_byte_lt hx) (by omega)) hs]
    rw [List.drop_eq_getElem_cons hlt, crc_go]
theorem of_f (k : Nat) (s : List UInt8) (hk : s.length + 10 ≤ k) (hs : s.length ≤ 9223372036854775807) : bourseref01_Of.f k (B s) = some (crcL s : Int) := by
  unfold bourseref01_Of.f bourseref01_Add.f
  have e := add_l s.length k 0 4294967295 s (by omega) hk (by decide) hs
  rw [show ((4294967295 - 0 : Int) % 4294967296) = ((4294967295 : Nat) : Int) from rfl, show (0 : Int) = ((0 : Nat) : Int) from rfl, e]
  simp [crcL]
theorem or_low (a b : Nat) (ha : a < 131072) : a ||| (b * 131072) = a + b * 131072 := by
  rw [Nat.or_comm, show b * 131072 = 2 ^ 17 * b from by omega, ← Nat.two_pow_add_eq_or_of_lt (i := 17) (by simpa using ha)]
  omega
theorem mask_r (n : Nat) (h : n < 4294967296) : bourseref01_Mask.f (n : Int) = some (maskN n : Int) := by
  unfold bourseref01_Mask.f
  have e1 : Int.tmod (n : Int) 32768 = ((n % 32768 : Nat) : Int) := by rw [Int.tmod_eq_emod_of_nonneg (by omega)]; omega
  have e2 : Int.tdiv (n : Int) 32768 % 4294967296 = ((n / 32768 : Nat) : Int) := by rw [Int.tdiv_eq_ediv_of_nonneg (by omega)]; omega
  have e3 : ((n % 32768 : Nat) : Int) * 131072 = ((n % 32768 * 131072 : Nat) : Int) := by omega
  have e5 : n * 131072 % 4294967296 = n % 32768 * 131072 := by omega
  rw [e1, e2, u64w _ (by omega), e3, u64w _ (by omega)]
  rw [show ((n / 32768 : Nat) : Int) + ((n % 32768 * 131072 : Nat) : Int) = ((n / 32768 + n % 32768 * 131072 : Nat) : Int) from by omega, u64w _ (by omega)]
  rw [show ((n / 32768 + n % 32768 * 131072 : Nat) : Int) + 2726488792 = ((n / 32768 + n % 32768 * 131072 + 2726488792 : Nat) : Int) from by omega, u64w _ (by omega)]
  rw [Int.tmod_eq_emod_of_nonneg (by omega)]
  unfold maskN
  rw [e5, or_low _ _ (by omega)]
  refine congrArg some ?_
  omega
theorem little_l : ∀ (d k i n m : Nat) (acc : List UInt8), i + d = m → d < k → m ≤ 100 → acc.length ≤ i → n < 18446744073709551616 → bourseref03_Little.l0 k (n : Int) (m : Int) (B acc) (i : Int) = some (B (acc ++ le d n))
  | 0, k + 1, i, n, m, acc, hi, hk, hm, ha, hn => by
    unfold bourseref03_Little.l0
    rw [if_neg (by omega)]
    simp [le]
  | d + 1, k + 1, i, n, m, acc, hi, hk, hm, ha, hn => by
    unfold bourseref03_Little.l0
    have e1 : Int.tmod (n : Int) 256 % 256 = ((n % 256 : Nat) : Int) := by rw [Int.tmod_eq_emod_of_nonneg (by omega)]; omega
    have e2 : Int.tdiv (n : Int) 256 = ((n / 256 : Nat) : Int) := by rw [Int.tdiv_eq_ediv_of_nonneg (by omega)]; omega
    rw [if_pos (by omega)]
    simp only [Option.bind_some]
    rw [e1, e2, one_B, B_size, B_size, if_pos (by simp; omega), B_app, u64w _ (by omega), wrap_in (by omega) (by omega)]
    have e3 : (i : Int) + 1 = ((i + 1 : Nat) : Int) := by omega
    rw [e3, little_l d k (i + 1) (n / 256) m _ (by omega) (by omega) hm (by simp; omega) (by omega), ofNat_mod]
    simp [le]
theorem little_f (k m n : Nat) (hk : m < k) (hm : m ≤ 100) (hn : n < 18446744073709551616) : bourseref03_Little.f k (n : Int) (m : Int) = some (B (le m n)) := by
  unfold bourseref03_Little.f
  exact little_l m k 0 n m [] (by omega) hk hm (Nat.le_refl _) hn
theorem sum_r (k kd : Nat) (hd : kd < 256) (s : List UInt8) (hs : s.length ≤ 1000000000) (hk : s.length + 20 ≤ k) : bourseref05_sum.f k (kd : Int) (B s) = some (B (sumL kd s)) := by
  unfold bourseref05_sum.f
  simp only [Option.bind_some]
  rw [one_B, B_app, B_size, B_size, if_pos (by simp; omega), of_f k _ (by simp; omega) (by simp; omega)]
  simp only [Option.bind_some]
  have hm := mask_r (crcL ([UInt8.ofNat kd] ++ s)) (crcL_lt _)
  rw [hm]
  simp only [Option.bind_some]
  have hl := maskN_lt (crcL ([UInt8.ofNat kd] ++ s))
  rw [u64w _ (by omega)]
  have h4 := little_f k 4 (maskN (crcL ([UInt8.ofNat kd] ++ s))) (by omega) (by omega) (by omega)
  exact congrArg (fun x => Option.bind x fun t => some t) h4
end Go.Proofs.YteilnbnnhocciaaDoor.P

/-! KP2 -/
set_option linter.unusedVariables false
namespace Go.Proofs.YteilnbnnhocciaaDoor.P
open Go.RowKit Go.Proofs.YteilnbnnhocciaaDoorW.PrintWords Go.Proofs.YteilnbnnhocciaaDoorW.PrintLast Go.Proofs.YteilnbnnhocciaaDoorW.PrintMore Go.Proofs.YteilnbnnhocciaaDoorM Go.Proofs.YteilnbnnhocciaaDoor.KF
def roomN (a : Nat) : Nat := 512 - a % 512
def padN (a : Nat) : Nat := if roomN a < 7 then roomN a else 0
def spaceN (a : Nat) : Nat := roomN (a + padN a) - 7
theorem room_padded (a : Nat) : 7 ≤ roomN (a + padN a) ∧ roomN (a + padN a) ≤ 512 := by
  unfold padN roomN
  split <;> omega
theorem padN_lt (a : Nat) : padN a < 7 := by unfold padN; split <;> omega
inductive Lays : Nat → List UInt8 → Bool → List UInt8 → Prop
  | last (a : Nat) (rc : List UInt8) (bg : Bool) : rc.length ≤ spaceN a → Lays a rc bg (List.replicate (padN a) 0 ++ pieceL (kindN bg true) rc)
  | more (a : Nat) (rc : List UInt8) (bg : Bool) (out : List UInt8) : spaceN a < rc.length → Lays (a + padN a + (7 + spaceN a)) (rc.drop (spaceN a)) false out →
      Lays a rc bg (List.replicate (padN a) 0 ++ (pieceL (kindN bg false) (rc.take (spaceN a)) ++ out))
theorem lays_ex : ∀ (m a : Nat) (rc : List UInt8) (bg : Bool), 2 * rc.length + (if spaceN a = 0 then 1 else 0) ≤ m → ∃ out, Lays a rc bg out ∧ out.length ≤ rc.length + 13 * (m + 1)
  | m, a, rc, bg, hm => by
    have hp := padN_lt a
    by_cases h : rc.length ≤ spaceN a
    · exact ⟨_, .last a rc bg h, by simp [pieceL_len]; omega⟩
    · have hlt : spaceN a < rc.length := by omega
      cases m with
      | zero => omega
      | succ m =>
        have hr := room_padded a
        obtain ⟨out, ho, hl⟩ := lays_ex m (a + padN a + (7 + spaceN a)) (rc.drop (spaceN a)) false (by
          simp only [List.length_drop]
          by_cases hz : spaceN a = 0
          · have : spaceN (a + padN a + (7 + spaceN a)) ≠ 0 := by
              unfold spaceN at hz ⊢
              rw [hz]
              have e : (a + padN a) % 512 = 505 := by unfold roomN at hz hr; omega
              have e2 : (a + padN a + (7 + 0)) % 512 = 0 := by omega
              generalize a + padN a + (7 + 0) = b at e2
              have e3 : padN b = 0 := by unfold padN roomN; rw [e2]; rfl
              rw [e3]
              unfold roomN
              omega
            rw [if_neg this]
            rw [if_pos hz] at hm
            omega
          · rw [if_neg hz] at hm
            split <;> omega)
        refine ⟨_, .more a rc bg out hlt ho, ?_⟩
        simp only [List.length_append, List.length_replicate, pieceL_len, List.length_take, List.length_drop] at hl ⊢
        omega
theorem left_f (a : Nat) (h : a ≤ 1000000000000) : frame_left.f (a : Int) = some (roomN a : Int) := by
  unfold frame_left.f roomN
  rw [Int.tmod_eq_emod_of_nonneg (by omega), wrap_in (by omega) (by omega)]
  refine congrArg some ?_
  omega
theorem room_f (a : Nat) (h : a ≤ 1000000000000) : bourseref05_room.f (a : Int) = some (roomN a : Int) := left_f a h
theorem pad_f (a : Nat) (h : a ≤ 1000000000000) : frame_pad.f (a : Int) = some (padN a : Int) := by
  unfold frame_pad.f
  rw [left_f a h]
  simp only [Option.bind_some]
  unfold padN
  by_cases h7 : roomN a < 7
  · rw [if_pos (by omega), if_pos h7]
  · rw [if_neg (by omega), if_neg h7]; rfl
theorem zeros_f (p : Nat) : frame_Lay.zeros (p : Int) = B (List.replicate p 0) := by
  apply list_ext
  unfold frame_Lay.zeros
  rw [B_data]
  simp only [Int.toNat_natCast]
  induction p with
  | zero => rfl
  | succ p ih => simp [Lib.repeatL, List.replicate_succ] at ih ⊢; exact ih
theorem step_fits {a : Nat} {rc : List UInt8} : (spaceN a : Int) = wrap64 ((roomN (a + padN a) : Int) - 7) := by
  have hr := room_padded a
  rw [wrap_in (by omega) (by omega)]
  unfold spaceN
  omega
theorem lay_p {a : Nat} {rc : List UInt8} {bg : Bool} {out : List UInt8} (h : Lays a rc bg out) : ∀ acc : List UInt8, a + out.length ≤ 1000000000000 → acc.length + out.length ≤ 100000000000000 →
    ∃ K, ∀ k, K ≤ k → frame_Lay.l k (a : Int) (B rc) bg (B acc) = some (B (acc ++ out)) := by
  induction h with
  | last a rc bg h =>
    intro acc h1 h2
    refine ⟨1, fun k hk => ?_⟩
    obtain ⟨k, rfl⟩ : ∃ k', k = k' + 1 := ⟨k - 1, by omega⟩
    have hp := padN_lt a
    have hr := room_padded a
    simp only [List.length_append, List.length_replicate, pieceL_len] at h1 h2
    have hn : frame_Lay.n (roomN (a + padN a) : Int) (B rc) = (rc.length : Int) := by
      unfold frame_Lay.n mn
      rw [← step_fits (rc := rc), B_size]
      split <;> omega
    unfold frame_Lay.l
    rw [pad_f a (by omega)]
    simp only [Option.bind_some]
    rw [wrap_in (by omega) (by omega), show (a : Int) + (padN a : Int) = ((a + padN a : Nat) : Int) from by omega, left_f _ (by omega)]
    simp only [Option.bind_some, hn, B_size]
    rw [if_pos (by omega), beq_self_eq_true, kind_f]
    simp only [Option.bind_some, Int.toNat_natCast]
    rw [B_ext _ _ _ (Nat.le_refl _), B_ext _ _ _ (Nat.le_refl _), List.take_length, List.drop_length, List.drop_zero, piece_f _ (kindN_lt _ _) _ (by unfold spaceN at h; omega)]
    simp only [Option.bind_some, zeros_f, B_app, B_size]
    rw [if_pos (by simp [pieceL_len]; omega), if_pos (by rw [tl]; rfl)]
    simp
  | more a rc bg out h ho ih =>
    intro acc h1 h2
    have hp := padN_lt a
    have hr := room_padded a
    simp only [List.length_append, List.length_replicate, pieceL_len] at h1 h2
    obtain ⟨K, hK⟩ := ih (acc ++ List.replicate (padN a) 0 ++ pieceL (kindN bg false) (rc.take (spaceN a))) (by simp only [List.length_take] at h1; omega) (by simp only [List.length_append, List.length_replicate, pieceL_len]; omega)
    refine ⟨K + 1, fun k hk => ?_⟩
    obtain ⟨k, rfl⟩ : ∃ k', k = k' + 1 := ⟨k - 1, by omega⟩
    have hn : frame_Lay.n (roomN (a + padN a) : Int) (B rc) = (spaceN a : Int) := by
      unfold frame_Lay.n mn
      rw [← step_fits (rc := rc), B_size]
      split <;> omega
    have hs : spaceN a ≤ 505 := by unfold spaceN; omega
    unfold frame_Lay.l
    rw [pad_f a (by omega)]
    simp only [Option.bind_some]
    rw [wrap_in (by omega) (by omega), show (a : Int) + (padN a : Int) = ((a + padN a : Nat) : Int) from by omega, left_f _ (by omega)]
    simp only [Option.bind_some, hn, B_size]
    rw [if_pos (by omega), show ((spaceN a : Int) == (rc.length : Int)) = false from by simp; omega, kind_f]
    simp only [Option.bind_some, Int.toNat_natCast]
    rw [B_ext _ _ _ (by omega), B_ext _ _ _ (Nat.le_refl _), List.take_length, List.drop_zero, piece_f _ (kindN_lt _ _) _ (by simp only [List.length_take]; omega)]
    simp only [Option.bind_some, zeros_f, B_app, B_size]
    rw [if_pos (by simp [pieceL_len]; simp only [List.length_take] at h2; omega), if_neg (by rw [tl, B_data]; intro e; have := congrArg List.length e; simp at this; omega)]
    rw [wrap_in (n := 7 + (spaceN a : Int)) (by omega) (by omega), wrap_in (by simp only [List.length_take] at h1; omega) (by simp only [List.length_take] at h1; omega),
      show ((a + padN a : Nat) : Int) + (7 + (spaceN a : Int)) = ((a + padN a + (7 + spaceN a) : Nat) : Int) from by omega, hK k (by omega)]
    simp
theorem zero_room (a d : Nat) (h : padN a = d + 1) : padN (a + 1) = d := by
  unfold padN roomN at h ⊢
  split at h
  · by_cases hd : d = 0
    · subst hd
      have : (a + 1) % 512 = 0 := by omega
      rw [this]; rfl
    · rw [if_pos (by omega)]; omega
  · omega
theorem pads_r : ∀ (d k x : Nat) (rc acc : List UInt8) (bg : Bool), padN (x + acc.length) = d → x + acc.length + d ≤ 1000000000000 → acc.length + d ≤ 100000000000000 →
    bourseref05_Lay.l1 (k + d) (x : Int) (B rc) (B acc) bg = bourseref05_Lay.l1 k (x : Int) (B rc) (B (acc ++ List.replicate d 0)) bg
  | 0, k, x, rc, acc, bg, h, h1, h2 => by simp
  | d + 1, k, x, rc, acc, bg, h, h1, h2 => by
    rw [show k + (d + 1) = (k + d) + 1 from by omega, bourseref05_Lay.l1, B_size]
    rw [wrap_in (by omega) (by omega), show (x : Int) + (acc.length : Int) = ((x + acc.length : Nat) : Int) from by omega, room_f _ (by omega)]
    simp only [Option.bind_some]
    have hr : roomN (x + acc.length) < 7 := by unfold padN at h; split at h <;> omega
    rw [if_pos (by omega), if_pos (by omega), show (⟨#[0]⟩ : ByteArray) = B [0] from rfl, B_app, pads_r d k x rc (acc ++ [0]) bg (by
      simp only [List.length_append, List.length_singleton]; rw [← Nat.add_assoc]; exact zero_room _ _ h) (by simp; omega) (by simp; omega)]
    simp [List.replicate_succ]
theorem lay_r {a : Nat} {rc : List UInt8} {bg : Bool} {out : List UInt8} (h : Lays a rc bg out) : ∀ (x : Nat) (acc : List UInt8), a = x + acc.length → a + out.length ≤ 1000000000000 →
    ∃ K, ∀ k, K ≤ k → bourseref05_Lay.l1 k (x : Int) (B rc) (B acc) bg = some (B (acc ++ out)) := by
  induction h with
  | last a rc bg h =>
    rintro x acc rfl h1
    refine ⟨rc.length + 50, fun k hk => ?_⟩
    obtain ⟨k, rfl⟩ : ∃ k', k = k' + 4 + padN (x + acc.length) := ⟨k - 4 - padN (x + acc.length), by have := padN_lt (x + acc.length); omega⟩
    have hp := padN_lt (x + acc.length)
    have hr := room_padded (x + acc.length)
    simp only [List.length_append, List.length_replicate, pieceL_len] at h1
    rw [pads_r _ _ _ _ _ _ rfl (by omega) (by omega)]
    generalize hP : padN (x + acc.length) = P at *
    have hS : spaceN (x + acc.length) = roomN (x + acc.length + P) - 7 := by rw [spaceN, hP]
    have hw : (spaceN (x + acc.length) : Int) = wrap64 ((roomN (x + acc.length + P) : Int) - 7) := by rw [step_fits (rc := rc), hP]
    rw [bourseref05_Lay.l1, B_size]
    simp only [List.length_append, List.length_replicate]
    rw [wrap_in (by omega) (by omega), show (x : Int) + ((acc.length + P : Nat) : Int) = ((x + acc.length + P : Nat) : Int) from by omega, room_f _ (by omega)]
    simp only [Option.bind_some]
    rw [if_neg (by omega), ← hw, B_size]
    have hj : ∀ K, bourseref05_Lay.j3 K x (B rc) (B (acc ++ List.replicate P 0)) bg (rc.length : Int) = (if (spaceN (x + acc.length) : Int) > (rc.length : Int) then bourseref05_Lay.j3 K x (B rc) (B (acc ++ List.replicate P 0)) bg (rc.length : Int) else bourseref05_Lay.j3 K x (B rc) (B (acc ++ List.replicate P 0)) bg (spaceN (x + acc.length) : Int)) := by
      intro K
      split
      · rfl
      · rw [show spaceN (x + acc.length) = rc.length from by omega]
    rw [← hj]
    have h5 : ∀ kd : Nat, kd = 1 ∨ kd = 4 → bourseref05_Lay.j5 (k + 1) x (B rc) (B (acc ++ List.replicate P 0)) (rc.length : Int) (kd : Int) = some (B (acc ++ (List.replicate P 0 ++ pieceL kd rc))) := by
      intro kd hkd
      rw [bourseref05_Lay.j5]
      rw [B_size, if_pos (by omega), if_pos (by omega)]
      simp only [Int.toNat_natCast]
      rw [B_ext _ _ _ (Nat.le_refl _), List.take_length, List.drop_zero, sum_r k kd (by omega) rc (by omega) (by omega)]
      simp only [Option.bind_some, B_app, B_size, one_B]
      rw [if_pos (by simp [sumL_len]; omega), u64w _ (by omega)]
      have h2 := little_f k 2 rc.length (by omega) (by omega) (by omega)
      rw [show ((2 : Nat) : Int) = 2 from rfl] at h2
      rw [h2]
      simp only [Option.bind_some, B_app, B_size, one_B]
      rw [if_pos (by simp [sumL_len, le_len]; omega), if_pos (by simp [sumL_len, le_len]; omega), if_pos (by simp [sumL_len, le_len]; omega)]
      have e : acc ++ List.replicate P 0 ++ sumL kd rc ++ le 2 rc.length ++ [UInt8.ofNat kd] ++ rc = acc ++ (List.replicate P 0 ++ pieceL kd rc) := by simp [pieceL]
      rw [e]
      rcases hkd with rfl | rfl
      · rw [if_pos (show ((1 : Nat) : Int) = 1 from rfl)]
      · rw [if_neg (by decide), if_pos (show ((4 : Nat) : Int) = 4 from rfl)]
    cases bg with
    | true =>
      rw [bourseref05_Lay.j3, if_pos rfl, B_size, beq_self_eq_true, bourseref05_Lay.j4, if_pos rfl]
      exact h5 1 (.inl rfl)
    | false =>
      rw [bourseref05_Lay.j3, if_neg (by decide), bourseref05_Lay.j4, if_neg (by decide), if_neg (by decide), B_size, if_pos rfl]
      exact h5 4 (.inr rfl)
  | more a rc bg out h ho ih =>
    rintro x acc rfl h1
    have hp := padN_lt (x + acc.length)
    have hr := room_padded (x + acc.length)
    generalize hP : padN (x + acc.length) = P at *
    generalize hS : spaceN (x + acc.length) = S at *
    have hS2 : S = roomN (x + acc.length + P) - 7 := by rw [← hS, spaceN, hP]
    simp only [List.length_append, List.length_replicate, pieceL_len, List.length_take] at h1
    obtain ⟨K, hK⟩ := ih x (acc ++ (List.replicate P 0 ++ pieceL (kindN bg false) (rc.take S))) (by simp only [List.length_append, List.length_replicate, pieceL_len, List.length_take]; omega) (by omega)
    refine ⟨K + rc.length + 50, fun k hk => ?_⟩
    obtain ⟨k, rfl⟩ : ∃ k', k = k' + 5 + P := ⟨k - 5 - P, by omega⟩
    rw [pads_r _ _ _ _ _ _ hP (by omega) (by omega)]
    have hw : (S : Int) = wrap64 ((roomN (x + acc.length + P) : Int) - 7) := by rw [← hS, step_fits (rc := rc), hP]
    rw [bourseref05_Lay.l1, B_size]
    simp only [List.length_append, List.length_replicate]
    rw [wrap_in (by omega) (by omega), show (x : Int) + ((acc.length + P : Nat) : Int) = ((x + acc.length + P : Nat) : Int) from by omega, room_f _ (by omega)]
    simp only [Option.bind_some]
    rw [if_neg (by omega), ← hw, B_size, if_neg (by omega)]
    have h5 : ∀ kd : Nat, kd = 2 ∨ kd = 3 → kd = kindN bg false → bourseref05_Lay.j5 (k + 2) x (B rc) (B (acc ++ List.replicate P 0)) (S : Int) (kd : Int) = some (B (acc ++ (List.replicate P 0 ++ (pieceL kd (rc.take S) ++ out)))) := by
      intro kd hkd hkb
      have hTl : (rc.take S).length = S := by rw [List.length_take]; omega
      rw [bourseref05_Lay.j5]
      rw [B_size, if_pos (by omega), if_pos (by omega)]
      simp only [Int.toNat_natCast]
      rw [B_ext _ _ _ (by omega), List.drop_zero, sum_r (k + 1) kd (by omega) (rc.take S) (by omega) (by omega)]
      simp only [Option.bind_some, B_app, B_size, one_B]
      rw [if_pos (by simp [sumL_len]; omega), u64w _ (by omega)]
      have h2 := little_f (k + 1) 2 S (by omega) (by omega) (by omega)
      rw [show ((2 : Nat) : Int) = 2 from rfl] at h2
      rw [h2]
      simp only [Option.bind_some, B_app, B_size, one_B]
      rw [if_pos (by simp [sumL_len, le_len]; omega), if_pos (by simp [sumL_len, le_len]; omega), if_pos (by simp [sumL_len, le_len]; omega)]
      rw [if_neg (by rcases hkd with rfl | rfl <;> decide), if_neg (by rcases hkd with rfl | rfl <;> decide)]
      have e : acc ++ List.replicate P 0 ++ sumL kd (rc.take S) ++ le 2 S ++ [UInt8.ofNat kd] ++ rc.take S = acc ++ (List.replicate P 0 ++ pieceL kd (rc.take S)) := by simp [pieceL, hTl]
      rw [e, B_ext _ _ _ (Nat.le_refl _), List.take_length, bourseref05_Lay.l0, hkb, hK k (by omega)]
      simp
    cases bg with
    | true =>
      rw [bourseref05_Lay.j3, if_pos rfl, B_size, show ((S : Int) == (rc.length : Int)) = false from by simp; omega, bourseref05_Lay.j4, if_neg (by decide), if_pos rfl]
      exact h5 2 (.inl rfl) rfl
    | false =>
      rw [bourseref05_Lay.j3, if_neg (by decide), bourseref05_Lay.j4, if_neg (by decide), if_neg (by decide), B_size, if_neg (by omega)]
      exact h5 3 (.inr rfl) rfl
theorem bind_of {α β : Type} {x : Option α} {f : α → Option β} {a : α} {r : Option β} (h : x = some a) (h2 : f a = r) : x.bind f = r := by rw [h]; exact h2
theorem len_p {a : Nat} {rc : List UInt8} {bg : Bool} {out : List UInt8} (h : Lays a rc bg out) : ∀ f : Nat, f ≤ a → a + out.length ≤ 1000000000000 → rc.length ≤ 1000000000000 →
    ∃ K, ∀ k, K ≤ k → frame_Len.l0 k (a : Int) (rc.length : Int) (f : Int) = some ((a + out.length - f : Nat) : Int) := by
  induction h with
  | last a rc bg h =>
    intro f hf h1 hrc
    refine ⟨1, fun k hk => ?_⟩
    obtain ⟨k, rfl⟩ : ∃ k', k = k' + 1 := ⟨k - 1, by omega⟩
    have hp := padN_lt a
    have hr := room_padded a
    simp only [List.length_append, List.length_replicate, pieceL_len] at h1
    have hn : mn (wrap64 ((roomN (a + padN a) : Int) - 7)) (rc.length : Int) = (rc.length : Int) := by
      unfold mn
      rw [← step_fits (rc := rc)]
      split <;> omega
    rw [frame_Len.l0]
    refine bind_of (pad_f a (by omega)) ?_
    rw [wrap_in (n := (a : Int) + (padN a : Int)) (by omega) (by omega), show (a : Int) + (padN a : Int) = ((a + padN a : Nat) : Int) from by omega]
    refine bind_of (left_f _ (by omega)) ?_
    rw [hn, if_pos (by rw [wrap_in (by omega) (by omega)]; omega), wrap_in (n := 7 + (rc.length : Int)) (by omega) (by omega), wrap_in (n := ((a + padN a : Nat) : Int) + (7 + (rc.length : Int))) (by omega) (by omega), wrap_in (by omega) (by omega)]
    refine congrArg some ?_
    simp only [List.length_append, List.length_replicate, pieceL_len]
    omega
  | more a rc bg out h ho ih =>
    intro f hf h1 hrc
    have hp := padN_lt a
    have hr := room_padded a
    simp only [List.length_append, List.length_replicate, pieceL_len, List.length_take] at h1
    obtain ⟨K, hK⟩ := ih f (by omega) (by omega) (by simp; omega)
    refine ⟨K + 1, fun k hk => ?_⟩
    obtain ⟨k, rfl⟩ : ∃ k', k = k' + 1 := ⟨k - 1, by omega⟩
    have hn : mn (wrap64 ((roomN (a + padN a) : Int) - 7)) (rc.length : Int) = (spaceN a : Int) := by
      unfold mn
      rw [← step_fits (rc := rc)]
      split <;> omega
    rw [frame_Len.l0]
    refine bind_of (pad_f a (by omega)) ?_
    rw [wrap_in (n := (a : Int) + (padN a : Int)) (by omega) (by omega), show (a : Int) + (padN a : Int) = ((a + padN a : Nat) : Int) from by omega]
    refine bind_of (left_f _ (by omega)) ?_
    rw [hn, if_neg (by rw [wrap_in (by omega) (by omega)]; omega), wrap_in (n := 7 + (spaceN a : Int)) (by omega) (by omega), wrap_in (n := ((a + padN a : Nat) : Int) + (7 + (spaceN a : Int))) (by omega) (by omega), wrap_in (by omega) (by omega)]
    rw [show ((a + padN a : Nat) : Int) + (7 + (spaceN a : Int)) = ((a + padN a + (7 + spaceN a) : Nat) : Int) from by omega, show (rc.length : Int) - (spaceN a : Int) = ((rc.drop (spaceN a)).length : Int) from by rw [List.length_drop]; omega, hK k (by omega)]
    refine congrArg some ?_
    simp only [List.length_append, List.length_replicate, pieceL_len, List.length_take, List.length_drop]
    omega
theorem mx0 (a : Int) : mx a 0 = (a.toNat : Int) := by unfold mx; split <;> omega
theorem lays_law (a : Int) (rc : ByteArray) : ∃ k, bourselaw05_FrameLays.f k a rc = some true := by
  unfold bourselaw05_FrameLays.f
  by_cases c1 : (rc.size : Int) > 3000
  · exact ⟨0, by rw [if_pos c1]⟩
  by_cases c2 : a > 1073741824
  · exact ⟨0, by rw [if_neg c1, if_pos c2]⟩
  simp only [if_neg c1, if_neg c2]
  rw [B_of rc] at c1 ⊢
  generalize rc.data.toList = l at c1 ⊢
  rw [B_size] at c1 ⊢
  obtain ⟨out, ho, hl⟩ := lays_ex _ a.toNat l true (Nat.le_refl _)
  have hb : a.toNat + out.length ≤ 1000000000000 := by split at hl <;> omega
  obtain ⟨K1, h1⟩ := lay_p ho [] hb (by simp; omega)
  obtain ⟨K2, h2⟩ := lay_r ho a.toNat [] rfl hb
  obtain ⟨K3, h3⟩ := len_p ho a.toNat (Nat.le_refl _) hb (by omega)
  refine ⟨K1 + K2 + K3 + 2, ?_⟩
  unfold frame_Lay.f
  rw [mx0, show (⟨#[]⟩ : ByteArray) = B [] from rfl, h1 _ (by omega)]
  simp only [Option.bind_some]
  have hr : bourseref05_Lay.f (K1 + K2 + K3 + 2) a (B l) = some (B ([] ++ out)) := by
    unfold bourseref05_Lay.f
    have hj : bourseref05_Lay.j0 (K1 + K2 + K3 + 2) (a.toNat : Int) (B l) = some (B ([] ++ out)) := by
      rw [bourseref05_Lay.j0, bourseref05_Lay.l0]
      exact h2 _ (by omega)
    split
    · rw [show (0 : Int) = (a.toNat : Int) from by omega]; exact hj
    · rw [show bourseref05_Lay.j0 (K1 + K2 + K3 + 2) a (B l) = bourseref05_Lay.j0 (K1 + K2 + K3 + 2) (a.toNat : Int) (B l) from by congr 1; omega]; exact hj
  rw [hr]
  simp only [Option.bind_some]
  rw [if_pos trivial]
  unfold frame_Len.f
  rw [mx0, mx0, Int.toNat_natCast, h3 _ (by omega)]
  simp only [Option.bind_some]
  rw [B_size]
  simp
end Go.Proofs.YteilnbnnhocciaaDoor.P

/-! R8 -/
set_option linter.unusedVariables false
namespace Go.Proofs.YteilnbnnhocciaaDoor.R8
open Go.ChangeShapes Go.WideShapes Go.ChangeAt Go.RowKit Go.Lib Go.Shelf
open Go.ChangeMaps (open_string shut_string)
open Go.Proofs.YteilnbnnhocciaaDoor.KF Go.Proofs.YteilnbnnhocciaaDoor.P
theorem own : ownKnob Tryd.prog.godebug = none := by kernel_rfl
def cell1 : DataW Unit → Value
  | .lit (.int k n) => Value.int k n
  | _ => Value.bool false
def cellsA : DataW Unit → Array Value
  | .agg l => (l.map cell1).toArray
  | _ => #[]
def cellsB : DataW Unit → Array Value
  | .agg l => (l.flatMap fun
    | .agg m => m.map cell1
    | _ => []).toArray
  | _ => #[]
noncomputable def laidWorld (os : Os) : World :=
  let w0 := World.holding Tryd.prog os ⟨#[], #[], []⟩
  let put (h : Array Obj) (g : Nat) (cs : Array Value) : Array Obj := h.modify g fun
    | .cells _ t frozen => .cells cs t frozen
    | o => o
  { w0 with heap := put (put w0.heap 6 (cellsA Rows.laid_unicode_utf8_first)) 7 (cellsB Rows.laid_unicode_utf8_acceptRanges) }
theorem laid_met (os : Os) (args : Array Value) : laidMet Tryd.prog Rows.frameLaysRow.laid ((laidWorld os).forCall (fun _ _ => 0) ⟨#[], args, []⟩).memory :=
  (LaidIn.of_run [6, 7] 8 (by kernel_rfl) (by kernel_rfl) (by kernel_rfl) (by kernel_rfl)).met
set_option maxRecDepth 100000 in
theorem lifted (os : Os) (started : os.Started) (H : Type) (enc : TypeId × Value → H) :
    ReturnsInHanded {} Tryd.checked os 8 .any (fun w args => (Rows.frameLaysSpec.pre enc Tryd.prog Tryd.f8 [] false w args ∧ laidMet Tryd.prog Rows.frameLaysRow.laid w) ∧ sizedMet enc Tryd.prog Tryd.f8 (OpenSpec.ofChange Rows.frameLaysSpec) false w args)
      (Rows.frameLaysSpec.post enc Tryd.prog Tryd.f8 false true false false) := by
  refine returnsInHanded_of_change_and (C := Tryd.checked) (X := fun w _ => laidMet Tryd.prog Rows.frameLaysRow.laid w) (fun _ _ _ hh h => h.of_heap hh) own started (by kernel_rfl) Tryd.func8
    (ChangeSpec.witness_at (enc := enc) (C := Tryd.checked) (os := os) (X := fun w _ => laidMet Tryd.prog Rows.frameLaysRow.laid w) false (laidWorld os)
      #[.int .i64 0, .string ByteArray.empty] 8
      rfl (by kernel_rfl) (by kernel_rfl) (by kernel_rfl) (by kernel_rfl) (by kernel_rfl) (laid_met os _)) ?_
  intro W base args ds gs before hval0 hW hcnd hsz0 hX _
  have hval : ∀ (j : Nat) t v, Tryd.f8.params[j]? = some t → args[j]? = some v → Value.okWide Tryd.prog W .any base t v := hval0
  have hW' := hW
  obtain ⟨p, q, hA0, hV, rfl, hfz, hnd⟩ := hW
  have hA : DataW.TrodAll enc Tryd.prog W 0 (fun _ => true) true Tryd.f8.params.toList args.toList ds p := hA0
  rw [Tryd.params8] at hA hval
  obtain ⟨v0, v1, d0, d1, p0, p1, rfl, rfl, rfl, h0, h1⟩ := trodAll_two hA
  obtain ⟨rfl, rfl⟩ := trodVars_none hV
  obtain ⟨n, rfl, rfl, rfl, hn⟩ := open_int Tryd.underlying3 (hval 0 3 v0 rfl rfl) h0
  obtain ⟨s, rfl, rfl, rfl, hs⟩ := open_string Tryd.underlying9 (hval 1 9 v1 rfl rfl) h1
  clear hA0 hval0 hsz0
  obtain ⟨k, hr⟩ := lays_law n s
  refine (bourselaw05_FrameLays.calls k n s true W hr).mono ?_
  rintro r W' ⟨rfl, bel⟩
  exact ⟨_, rfl, _, _, _, [], _, [], hW', trodAll_mk1 (shut_bool Tryd.underlying4 _), (trodAll_cons_mk (shut_int Tryd.underlying3 hn) (trodAll_cons_mk (shut_string Tryd.underlying9 hs) trodAll_mk0)), rfl, bel.frame _, fun h => by cases h⟩
theorem over : Rows.frameLaysRow.holds Tryd.pinned (OpenSpec.ofChange Rows.frameLaysSpec) :=
  OpenClaim.holds_of_wide 8 Tryd.f8 rfl rfl rfl rfl rfl rfl rfl ⟨rfl, rfl, rfl, rfl, rfl⟩ rfl rfl rfl rfl rfl (by kernel_rfl) Tryd.func8 (by kernel_rfl) (of_decide_eq_true (by kernel_rfl))
    (by unfold Func.isWrapper; first | (rw [if_pos (by decide +kernel)]; kernel_rfl) | (rw [if_neg (by decide +kernel)]; exact ⟨rfl, rfl⟩))
    (fun os started H enc _ => lifted os started H enc)
end Go.Proofs.YteilnbnnhocciaaDoor.R8
namespace Go.Proofs.YteilnbnnhocciaaDoor
theorem frameLays_holds : Rows.FrameLaysSaid := R8.over
end Go.Proofs.YteilnbnnhocciaaDoor

/-! C8 -/
namespace Go.Proofs.YteilnbnnhocciaaDoor
open Go
theorem frameLaysCard_holds : Rows.FrameLaysCardSaid :=
  Claim7.holds_tied_plain_at .later [] [.data, .pinned] true (true, "bc9cca30e6bcb58c3d7b40caaba0da34bdf01bc2fab1082ae4b270bbcf37ee66") true
    frameLays_holds (fun _ h => by cases h) (by kernel_rfl) (fun _ h => by cases h) frameLays_row_tie rfl ⟨rfl, rfl⟩ (by kernel_rfl) rfl
    (fun f fn hf hfn => by
      obtain rfl : f = 8 := Option.some.inj ((show Tryd.prog.funcNamed "bourse/bourselaw05.FrameLays" = some 8 by kernel_rfl).symm.trans hf) |>.symm
      obtain rfl : fn = Tryd.f8 := (Option.some.inj (Tryd.func8.symm.trans hfn)).symm
      exact ⟨by kernel_rfl, fun j t ht => by
        rw [Tryd.params8] at ht
        have h3 : t = 3 ∨ t = 9 := by
          rcases j with _ | _ | j
          · exact .inl (by simpa using ht.symm)
          · exact .inr (by simpa using ht.symm)
          · simp at ht
        rcases h3 with rfl | rfl
        · exact (show Tryd.prog.wantsStandIn 3 = false by kernel_rfl)
        · exact (show Tryd.prog.wantsStandIn 9 = false by kernel_rfl)⟩)
    (by kernel_rfl)
end Go.Proofs.YteilnbnnhocciaaDoor
