-- Written by a turned copy of the printer of the kit (wip/tools/patch_print.py).
import Derived.Test.YteilnbnnhocciaaDoorK0
import Derived.Test.YteilnbnnhocciaaDoorK11
namespace Go.Proofs.YteilnbnnhocciaaDoor.K
open Go.RowKit Go.Proofs.YteilnbnnhocciaaDoorW.PrintWords Go.Proofs.YteilnbnnhocciaaDoorW.PrintLast Go.Proofs.YteilnbnnhocciaaDoorW.PrintMore Go.Proofs.YteilnbnnhocciaaDoorM
attribute [local go_sem] max2_int min2_int max_two min_two max_three min_three max_four min_four   -- for this text's walks alone
set_option linter.unusedVariables false
set_option linter.unusedSimpArgs false

/-! ### varint_Reader_scan: function 107 -/
-- EXT rounds=0 making=1
/-- A byte's seven bits, in their place. -/
def varint_Reader_scan.sh (c : Int) (i : Nat) : Int := IntKind.u64.wrap (IntKind.u64.wrap (Go.bits .and .u8 c 127) * 2 ^ (7 * i))
/-- The rounds of scan: from place i on, n being what the bytes ahead come to. -/
def varint_Reader_scan.l : Nat → ByteArray → Nat → Int → Nat → Option (Int × Int × Int)
  | 0, _, _, _, _ => none
  | k + 1, s, at_, n, i =>
    if s.size ≤ at_ + i then some (0, 0, 3) else
    if i = 9 ∧ 1 < bt s (at_ + i : Nat) then some (0, 0, 8) else
    if 128 ≤ bt s (at_ + i : Nat) then varint_Reader_scan.l k s at_ (Go.bits .or .u64 n (varint_Reader_scan.sh (bt s (at_ + i : Nat)) i)) (i + 1) else
    if bt s (at_ + i : Nat) = 0 ∧ 0 < i then some (0, 0, 4) else
    some (Go.bits .or .u64 n (varint_Reader_scan.sh (bt s (at_ + i : Nat)) i), ((at_ + (i + 1) : Nat) : Int), 0)
def varint_Reader_scan.f (s0_0 : ByteArray) (s0_1 : Int) (s0_2 : Int) : Option (Int × Int × Int × ByteArray × Int × Int) :=
  if 0 ≤ s0_1 ∧ s0_1 ≤ s0_0.size ∧ s0_0.size ≤ 140737488351232 then (varint_Reader_scan.l 11 s0_0 s0_1.toNat 0 0).bind fun t => some (t.1, t.2.1, t.2.2, s0_0, s0_1, s0_2) else none
def varint_Reader_scan.Post (w0 w : World) (g : Nat) (s0 : ByteArray) (s1 s2 : Int) (t : Int × Int × Int) (e : Ending) (w' : World) : Prop :=
  e = .returned (.tuple #[.int .u64 t.1, .int .i64 t.2.1, .int .i64 t.2.2]) ∧ Drawn0 w w'
def varint_Reader_scan.J (w : World) (g : Nat) (s0 : ByteArray) (p : Nat) (t : Int × Int × Int) (a' : Act) (w' : World) : Prop := Drawn0 w w' ∧ ∃ (k : Nat) (n : Int) (i : Nat) (u7 u8 u9 u10 u11 u12 u13 u14 u15 u16 u17 u18 u19 u20 u21 u22 u23 u24 u25 u26 u27 u28 u29 u30 u31 u32 u33 u34 u35 u36 u37 u38 u39 u40 u41 u42 u43 u44 u45 u46 u47 u48 u49 u50 u51 u52 u53 u54 u55 u56 u57 u58 u59 u60 u61 : Value),
  a' = { tmps := #[.pointer (some ⟨g, 0, none⟩), undef, .int .u64 0, .int .i64 0, .int .i64 0, .int .u64 n, .int .i64 (i : Nat), u7, u8, u9, u10, u11, u12, u13, u14, u15, u16, u17, u18, u19, u20, u21, u22, u23, u24, u25, u26, u27, u28, u29, u30, u31, u32, u33, u34, u35, u36, u37, u38, u39, u40, u41, u42, u43, u44, u45, u46, u47, u48, u49, u50, u51, u52, u53, u54, u55, u56, u57, u58, u59, u60, u61], defers := [] } ∧ i ≤ 9 ∧ varint_Reader_scan.l k s0 p n i = some t ∧ k + i = 11
set_option maxHeartbeats 2000000 in
set_option maxRecDepth 100000 in
theorem varint_Reader_scan.walk (g : Nat) (s0 : ByteArray) (p : Nat) (s2 : Int) (t : Int × Int × Int) (w0 w : World) (hI : IsS171 w0 w g s0 p s2) (h : varint_Reader_scan.l 11 s0 p 0 0 = some t) (hp : p ≤ s0.size) (hs : s0.size ≤ 140737488351232) :
    Calls Tryd.prog 107 #[.pointer (some ⟨g, 0, none⟩)] w (varint_Reader_scan.Post w0 w g s0 p s2 t) := by
  have H := Hush.mk h
  clear h
  have c0 := cellS171_0 hI.1
  have c1 := cellS171_1 hI.1
  have hI' := Hush.mk hI
  clear hI
  go_enter Tryd.func107, Tryd.ntmps107
  go_wp2
  refine wp_scope_first 0 (varint_Reader_scan.J w g s0 p t) (fun a' _ => 10 - (intOf (a'.tmps.getD 6 undef)).toNat) rfl ?pass ?first
  case first =>
    intro hq
    go_wp2
    go_step3
    have hj : varint_Reader_scan.J w g s0 p t { tmps := #[.pointer (some ⟨g, 0, none⟩), undef, .int .u64 0, .int .i64 0, .int .i64 0, .int .u64 0, .int .i64 0, undef, undef, undef, undef, undef, undef, undef, undef, undef, undef, undef, undef, undef, undef, undef, undef, undef, undef, undef, undef, undef, undef, undef, undef, undef, undef, undef, undef, undef, undef, undef, undef, undef, undef, undef, undef, undef, undef, undef, undef, undef, undef, undef, undef, undef, undef, undef, undef, undef, undef, undef, undef, undef, undef, undef], defers := [] } w :=
      ⟨Drawn0.refl _, 11, 0, 0, _, _, _, _, _, _, _, _, _, _, _, _, _, _, _, _, _, _, _, _, _, _, _, _, _, _, _, _, _, _, _, _, _, _, _, _, _, _, _, _, _, _, _, _, _, _, _, _, _, _, _, _, _, _, _, rfl, by omega, H.out, rfl⟩
    exact (by assumption : ∀ a w, Code.wp _ _ _ a w → _) _ _ (hq.out _ _ hj)
  case pass =>
    rintro a' w' ⟨hd, k, n, i, u7, u8, u9, u10, u11, u12, u13, u14, u15, u16, u17, u18, u19, u20, u21, u22, u23, u24, u25, u26, u27, u28, u29, u30, u31, u32, u33, u34, u35, u36, u37, u38, u39, u40, u41, u42, u43, u44, u45, u46, u47, u48, u49, u50, u51, u52, u53, u54, u55, u56, u57, u58, u59, u60, u61, rfl, hi9, hl, hk⟩
    obtain ⟨k, rfl⟩ : ∃ k', k = k' + 1 := ⟨k - 1, by omega⟩
    rw [varint_Reader_scan.l] at hl
    obtain ⟨nd, rfl⟩ := hd.out
    by_cases hlt : s0.size ≤ p + i
    · rw [if_pos hlt] at hl
      have HL := Hush.mk hl
      clear hl
      go_wp2
      go_quiet (fail)
      go_wp2
      simp only [Exit.jump]
      go_ret3
      obtain rfl := Option.some.inj HL.out
      exact ⟨rfl, ⟨⟨_, rfl⟩⟩⟩
    · rw [if_neg hlt] at hl
      have HL := Hush.mk hl
      clear hl
      have hlt' : p + i < s0.size := by omega
      have hw1 : IntKind.i64.wrap ((p : Int) + (i : Int)) = (p : Int) + (i : Int) := IntWalk.i64_in _ (by omega)
      have hix : ∀ W, (Instr.index 9 (.string s0) (.int .i64 ((p : Int) + (i : Int)))).run Tryd.prog W = .ok (.int .u8 (bt s0 ((p + i : Nat) : Int))) W := by
        intro W
        rw [run_index_string W 9 s0 .i64 _ Tryd.underlying9, dif_pos ⟨by omega, by omega⟩, bt_at s0 ((p : Int) + (i : Int)) (by omega)]
        simp
      obtain ⟨c, hc⟩ : ∃ c, c = bt s0 ((p + i : Nat) : Int) := ⟨_, rfl⟩
      have hcr := bt_range s0 ((p + i : Nat) : Int)
      rw [← hc] at hix hcr
      have HL' : Hush ((if i = 9 ∧ 1 < c then some (0, 0, 8) else if 128 ≤ c then varint_Reader_scan.l k s0 p (Go.bits .or .u64 n (varint_Reader_scan.sh c i)) (i + 1) else if c = 0 ∧ 0 < i then some (0, 0, 4) else some (Go.bits .or .u64 n (varint_Reader_scan.sh c i), ((p + (i + 1) : Nat) : Int), 0)) = some t) := ⟨by rw [hc]; exact HL.out⟩
      clear HL hc
      obtain ⟨hc0, hc255⟩ := hcr
      by_cases hA : i = 9 ∧ 1 < c
      · have HL : Hush (some ((0 : Int), (0 : Int), (8 : Int)) = some t) := ⟨(if_pos hA).symm.trans HL'.out⟩
        have e9 : ((i : Int) == 9) = true := by rw [hA.1]; rfl
        have e1 := hA.2
        clear HL' hA
        go_wp2
        go_quiet (fail)
        go_wp2
        go_quiet (fail)
        go_wp2
        simp only [Exit.jump]
        go_ret3
        obtain rfl := Option.some.inj HL.out
        exact ⟨rfl, ⟨⟨_, rfl⟩⟩⟩
      have HL2 := Hush.mk ((if_neg hA).symm.trans HL'.out)
      clear HL'
      by_cases hB : 128 ≤ c
      · have HL := Hush.mk ((if_pos hB).symm.trans HL2.out)
        have e9 : ((i : Int) == 9) = false := by simp; omega
        have hi8 : i ≤ 8 := by omega
        clear HL2 hA
        go_wp2
        go_quiet (fail)
        go_wp2
        go_quiet (fail)
        go_wp2
        go_step3
        refine ⟨rfl, ⟨⟨⟨_, rfl⟩⟩, k, _, i + 1, _, _, _, _, _, _, _, _, _, _, _, _, _, _, _, _, _, _, _, _, _, _, _, _, _, _, _, _, _, _, _, _, _, _, _, _, _, _, _, _, _, _, _, _, _, _, _, _, _, _, _, _, _, _, _, rfl, by omega, HL.out, by omega⟩, by simp [intOf]; omega⟩
      have HL3 := Hush.mk ((if_neg hB).symm.trans HL2.out)
      clear HL2
      have hB' : c < 128 := by omega
      clear hB
      by_cases hC : c = 0 ∧ 0 < i
      · have HL := Hush.mk ((if_pos hC).symm.trans HL3.out)
        have e0 : (c == 0) = true := by rw [hC.1]; rfl
        have e1 : c ≤ 1 := by omega
        have ei := hC.2
        clear HL3 hA hC
        go_wp2
        go_quiet (fail)
        go_wp2
        go_quiet (fail)
        go_wp2
        all_goals
          simp only [Exit.jump]
          go_ret3
          obtain rfl := Option.some.inj HL.out
          exact ⟨rfl, ⟨⟨_, rfl⟩⟩⟩
      have HL := Hush.mk ((if_neg hC).symm.trans HL3.out)
      clear HL3
      by_cases hD : c = 0
      · have e0 : (c == 0) = true := by rw [hD]; rfl
        have e1 : c ≤ 1 := by omega
        have ei : i ≤ 0 := by omega
        have e9 : ((i : Int) == 9) = false := by simp; omega
        clear hA hC hD
        go_wp2
        go_quiet (fail)
        go_wp2
        go_quiet (fail)
        go_wp2
        go_quiet (fail)
        go_wp2
        simp only [Exit.jump]
        go_ret3
        obtain rfl := Option.some.inj HL.out
        exact ⟨rfl, ⟨⟨_, rfl⟩⟩⟩
      have e0 : (c == 0) = false := by simp [hD]
      by_cases hE : i = 9
      · have e9 : ((i : Int) == 9) = true := by rw [hE]; rfl
        have e1 : c ≤ 1 := by omega
        clear hA hC hD hE
        go_wp2
        go_quiet (fail)
        go_wp2
        go_quiet (fail)
        go_wp2
        go_quiet (fail)
        go_wp2
        simp only [Exit.jump]
        go_ret3
        obtain rfl := Option.some.inj HL.out
        exact ⟨rfl, ⟨⟨_, rfl⟩⟩⟩
      · have e9 : ((i : Int) == 9) = false := by simp; omega
        clear hA hC hD hE
        go_wp2
        go_quiet (fail)
        go_wp2
        go_quiet (fail)
        go_wp2
        go_quiet (fail)
        go_wp2
        simp only [Exit.jump]
        go_ret3
        obtain rfl := Option.some.inj HL.out
        exact ⟨rfl, ⟨⟨_, rfl⟩⟩⟩
theorem varint_Reader_scan.calls (g : Nat) (s0_0 : ByteArray) (s0_1 : Int) (s0_2 : Int) (r1 : Int) (r2 : Int) (r3 : Int) (r4 : ByteArray) (r5 : Int) (r6 : Int) (w0 w : World) (hI : IsS171 w0 w g s0_0 s0_1 s0_2) (hB : Below w0.heap.size w0 w) (h : varint_Reader_scan.f s0_0 s0_1 s0_2 = some (r1, r2, r3, r4, r5, r6)) :
    Calls Tryd.prog 107 #[.pointer (some ⟨g, 0, none⟩)] w fun e w' => e = .returned (.tuple #[.int .u64 r1, .int .i64 r2, .int .i64 r3]) ∧ IsS171 w0 w' g r4 r5 r6 ∧ Below w0.heap.size w0 w' ∧ KeepBut w w' g none := by
  unfold varint_Reader_scan.f at h
  by_cases hc : 0 ≤ s0_1 ∧ s0_1 ≤ s0_0.size ∧ s0_0.size ≤ 140737488351232
  · rw [if_pos hc] at h
    obtain ⟨t, ht, h⟩ := Option.bind_eq_some_iff.mp h
    obtain ⟨h0, h1, h2⟩ := hc
    simp only [Option.some.injEq, Prod.mk.injEq] at h
    obtain ⟨rfl, rfl, rfl, rfl, rfl, rfl⟩ := h
    obtain ⟨p, rfl⟩ := Int.eq_ofNat_of_zero_le h0
    refine (varint_Reader_scan.walk g s0_0 p s0_2 t w0 w hI (by simpa using ht) (by omega) h2).mono ?_
    rintro e w' ⟨rfl, hd⟩
    obtain ⟨nd, rfl⟩ := hd.out
    exact ⟨rfl, hI.drewN nd, pw_below_drewN hB nd, keep_drewN (KeepBut.refl w g none) nd⟩
  · rw [if_neg hc] at h
    cases h

end Go.Proofs.YteilnbnnhocciaaDoor.K
