/- EditBack's card: for every two edits and every text the law returns true, and its arguments read as before. Conditions: none beyond the given statement's own. -/
import Derived.Test.YteilnbnnhocciaaDoorK14
import Derived.Test.YteilnbnnhocciaaDoorK7
import Derived.Laws.Bits64b
import Derived.Laws.BitsAllLaws
import Derived.Test.YteilnbnnhocciaaDoorK16
import Derived.Test.YteilnbnnhocciaaDoorK18
import Derived.Test.YteilnbnnhocciaaDoorK20
import Derived.Test.YteilnbnnhocciaaDoorK22
import Derived.Test.YteilnbnnhocciaaDoorK23
import Derived.Test.YteilnbnnhocciaaDoorK8
import Derived.Test.YteilnbnnhocciaaDoorK9
import Derived.Test.YteilnbnnhocciaaDoorK10
import Derived.Test.YteilnbnnhocciaaDoorK25
import Derived.Test.YteilnbnnhocciaaDoorK43
import Derived.Test.YteilnbnnhocciaaDoorK44
import Derived.Test.YteilnbnnhocciaaDoorRows
import Derived.Test.YteilnbnnhocciaaDoorM3
import Derived.Lib.LaidIn
import Derived.ChangeSame
import Derived.ChangeVars
import Derived.JoinedOf
import Derived.RowKit
import Derived.WalkKit
import Derived.ProofKit
import Derived.OpenShut
import Derived.ShutString
import Derived.ChangeOld
import Derived.Below
import Derived.SizedLaws
import Derived.Test.YteilnbnnhocciaaDoorTie
import Derived.Test.YteilnbnnhocciaaDoorCards
import Derived.SevenTiedAt

/- The plain law of numbers: what Num writes, scan reads; what scan reads, Num would write. -/
set_option linter.unusedVariables false
namespace Go.Proofs.YteilnbnnhocciaaDoor.E
open Go.RowKit Go.Proofs.YteilnbnnhocciaaDoorW.PrintWords Go.Proofs.YteilnbnnhocciaaDoorM Go.Proofs.YteilnbnnhocciaaDoor.K
/-- A number's bytes. -/
def enc (n : Nat) : List UInt8 := if h : n < 128 then [UInt8.ofNat n] else UInt8.ofNat (n % 128 + 128) :: enc (n / 128)
termination_by n
decreasing_by omega
theorem enc_small {n : Nat} (h : n < 128) : enc n = [UInt8.ofNat n] := by rw [enc, dif_pos h]
theorem enc_big {n : Nat} (h : ¬ n < 128) : enc n = UInt8.ofNat (n % 128 + 128) :: enc (n / 128) := by rw [enc, dif_neg h]
theorem enc_pos (n : Nat) : 0 < (enc n).length := by
  by_cases h : n < 128
  · rw [enc_small h]; simp
  · rw [enc_big h]; simp
theorem enc_len : ∀ (d n : Nat), n < 128 ^ (d + 1) → (enc n).length ≤ d + 1 := by
  intro d
  induction d with
  | zero => intro n h; rw [enc_small (by simpa using h)]; simp
  | succ d ih =>
    intro n h
    by_cases h1 : n < 128
    · rw [enc_small h1]; simp
    · rw [enc_big h1]
      have : n / 128 < 128 ^ (d + 1) := by rw [Nat.div_lt_iff_lt_mul (by decide)]; rw [Nat.pow_succ] at h; exact h
      have := ih _ this
      simp; omega
theorem or128 (n : Nat) : Go.bits .or .u8 ((n : Int) % 256) 128 = ((n % 128 + 128 : Nat) : Int) := by
  rw [u8_or _ _ (by omega) (by omega) (by omega) (by omega)]
  have h1 : ((n : Int) % 256).toNat = n % 256 := by omega
  rw [h1]
  have h2 : n % 256 < 256 := by omega
  have h3 : ∀ m : Fin 256, (m.val ||| (128 : Int).toNat) = m.val % 128 + 128 := by decide +kernel
  have h4 := h3 ⟨n % 256, h2⟩
  simp only at h4
  rw [h4]
  have : n % 256 % 128 = n % 128 := by omega
  omega
theorem toNat_ofNat {n : Nat} (h : n < 256) : (UInt8.ofNat n).toNat = n := by simp [UInt8.toNat_ofNat']; omega
theorem num_l : ∀ (d n k : Nat) (xs : List Int), n < 128 ^ (d + 1) → d < k → ∃ r, varint_Num.l k (n : Int) xs = some r ∧ r.data.toList = (xs.map fun x => UInt8.ofNat x.toNat) ++ enc n := by
  intro d
  induction d with
  | zero =>
    intro n k xs h hk
    obtain ⟨k, rfl⟩ : ∃ k', k = k' + 1 := ⟨k - 1, by omega⟩
    have h1 : n < 128 := by simpa using h
    refine ⟨_, by rw [varint_Num.l, if_neg (by omega)], ?_⟩
    rw [strOfNums_data, enc_small h1]
    simp
  | succ d ih =>
    intro n k xs h hk
    obtain ⟨k, rfl⟩ : ∃ k', k = k' + 1 := ⟨k - 1, by omega⟩
    by_cases h1 : n < 128
    · refine ⟨_, by rw [varint_Num.l, if_neg (by omega)], ?_⟩
      rw [strOfNums_data, enc_small h1]
      simp
    · have h2 : n / 128 < 128 ^ (d + 1) := by rw [Nat.div_lt_iff_lt_mul (by decide)]; rw [Nat.pow_succ] at h; exact h
      obtain ⟨r, hr, he⟩ := ih (n / 128) k (xs ++ [Go.bits .or .u8 ((n : Int) % 256) 128]) h2 (by omega)
      refine ⟨r, ?_, ?_⟩
      · rw [varint_Num.l, if_pos (by omega)]
        rw [show (n : Int) / 128 = ((n / 128 : Nat) : Int) by omega]
        exact hr
      · rw [he, enc_big h1, or128]
        simp only [List.map_append, List.map_cons, List.map_nil, List.append_assoc, List.cons_append, List.nil_append]
        rw [show ((n % 128 + 128 : Nat) : Int).toNat = n % 128 + 128 from by omega]
/-- The text of a number. -/
def encS (n : Nat) : ByteArray := ⟨(enc n).toArray⟩
theorem num_f (n k : Nat) (hn : n < 18446744073709551616) (hk : 10 ≤ k) : varint_Num.f k (n : Int) = some (encS n) := by
  have h1 : n < 128 ^ (9 + 1) := by have : (128 : Nat) ^ 10 = 1180591620717411303424 := by decide
                                    omega
  obtain ⟨r, hr, he⟩ := num_l 9 n k [] h1 (by omega)
  rw [varint_Num.f, if_pos ⟨by omega, by omega⟩, hr]
  congr 1
  have : r.data.toList = enc n := by simpa using he
  cases r with
  | mk a => simp only [encS]; congr 1; rw [← this]
/-! ### Reading -/
theorem and127 (c : Nat) (hc : c < 256) : Go.bits .and .u8 (c : Int) 127 = ((c % 128 : Nat) : Int) := by
  have h := u8_and_nat c 127 hc (by decide)
  have h3 : ∀ m : Fin 256, (m.val &&& 127) = m.val % 128 := by decide +kernel
  have h4 := h3 ⟨c, hc⟩
  simp only at h4
  rw [h4] at h
  exact h
theorem sh_eq (c i : Nat) (hc : c < 256) (hb : c % 128 * 128 ^ i < 18446744073709551616) : varint_Reader_scan.sh (c : Int) i = ((c % 128 * 128 ^ i : Nat) : Int) := by
  rw [varint_Reader_scan.sh, and127 c hc, IntKind.wrap_u64, IntKind.wrap_u64]
  have e1 : ((c % 128 : Nat) : Int) % 18446744073709551616 = ((c % 128 : Nat) : Int) := by omega
  rw [e1]
  have e2 : ((c % 128 : Nat) : Int) * 2 ^ (7 * i) = ((c % 128 * 128 ^ i : Nat) : Int) := by
    have e3 : (2 : Int) ^ (7 * i) = ((128 ^ i : Nat) : Int) := by
      have h1 : ((2 ^ (7 * i) : Nat) : Int) = (2 : Int) ^ (7 * i) := by simp
      rw [← h1, Nat.pow_mul]
    rw [e3, Int.natCast_mul]
  rw [e2]
  omega
theorem or_add (n b i : Nat) (hn : n < 128 ^ i) : n ||| b * 128 ^ i = n + b * 128 ^ i := by
  have h := Nat.two_pow_add_eq_or_of_lt (i := 7 * i) (b := n) (by rw [Nat.pow_mul]; exact hn) b
  rw [Nat.pow_mul] at h
  rw [Nat.mul_comm b, Nat.or_comm]
  rw [show (2 : Nat) ^ 7 = 128 from rfl] at h
  rw [← h, Nat.add_comm]
theorem step_eq (n c i : Nat) (hc : c < 256) (hn : n < 128 ^ i) (hb : n + c % 128 * 128 ^ i < 18446744073709551616) : Go.bits .or .u64 (n : Int) (varint_Reader_scan.sh (c : Int) i) = ((n + c % 128 * 128 ^ i : Nat) : Int) := by
  rw [sh_eq c i hc (by omega), bits_or_u64_nat n (c % 128 * 128 ^ i) (by omega) (by omega), or_add n (c % 128) i hn]
theorem bt_list (s : ByteArray) (j : Nat) (h : j < s.size) : ∃ c : UInt8, bt s (j : Int) = (c.toNat : Int) ∧ s.data.toList.drop j = c :: s.data.toList.drop (j + 1) := by
  have hl : j < s.data.toList.length := by simpa using h
  refine ⟨s.data.toList[j], ?_, by rw [List.drop_eq_getElem_cons hl]⟩
  have := bt_at s (j : Int) (by simpa using h)
  rw [← this]
  rfl
/-- Whatever scan answers: an error, or a number that its bytes are. -/
theorem scan_sound : ∀ (d k : Nat) (s : ByteArray) (p n i : Nat), i + d = 9 → d + 1 < k → n < 128 ^ i → p + i ≤ s.size → ∃ t, varint_Reader_scan.l k s p (n : Int) i = some t ∧
    ((t.2.2 ≠ 0 ∧ t.1 = 0 ∧ t.2.1 = 0) ∨ (t.2.2 = 0 ∧ ∃ m : Nat, t.1 = ((n + m * 128 ^ i : Nat) : Int) ∧ n + m * 128 ^ i < 18446744073709551616 ∧ (i = 0 ∨ 0 < m) ∧ t.2.1 = ((p + i + (enc m).length : Nat) : Int) ∧ p + i + (enc m).length ≤ s.size ∧
      s.data.toList.drop (p + i) = enc m ++ s.data.toList.drop (p + i + (enc m).length))) := by
  intro d
  induction d with
  | zero =>
    intro k s p n i hi hk hn hp
    obtain ⟨k, rfl⟩ : ∃ k', k = k' + 1 := ⟨k - 1, by omega⟩
    have h9 : i = 9 := by omega
    subst h9
    rw [varint_Reader_scan.l]
    by_cases h1 : s.size ≤ p + 9
    · rw [if_pos h1]; exact ⟨_, rfl, .inl ⟨by simp, rfl, rfl⟩⟩
    · rw [if_neg h1]
      obtain ⟨c, hc, hd⟩ := bt_list s (p + 9) (by omega)
      rw [hc]
      have hc2 := c.toNat_lt
      by_cases h2 : 9 = 9 ∧ 1 < (c.toNat : Int)
      · rw [if_pos h2]; exact ⟨_, rfl, .inl ⟨by simp, rfl, rfl⟩⟩
      · rw [if_neg h2]
        have h3 : c.toNat ≤ 1 := by omega
        rw [if_neg (by omega)]
        by_cases h4 : (c.toNat : Int) = 0 ∧ 0 < 9
        · rw [if_pos h4]; exact ⟨_, rfl, .inl ⟨by simp, rfl, rfl⟩⟩
        · rw [if_neg h4]
          have h5 : c.toNat = 1 := by omega
          have e9 : (128 : Nat) ^ 9 = 9223372036854775808 := by decide
          refine ⟨_, rfl, .inr ⟨rfl, 1, ?_, by omega, .inr (by decide), ?_, ?_, ?_⟩⟩
          · rw [step_eq n c.toNat 9 hc2 hn (by rw [h5]; omega), h5]
          · rw [enc_small (by decide)]; simp; omega
          · rw [enc_small (by decide)]; simp; omega
          · rw [enc_small (by decide), hd]
            have : c = UInt8.ofNat 1 := UInt8.toNat_inj.1 (by rw [h5]; rfl)
            rw [this]; simp
  | succ d ih =>
    intro k s p n i hi hk hn hp
    obtain ⟨k, rfl⟩ : ∃ k', k = k' + 1 := ⟨k - 1, by omega⟩
    rw [varint_Reader_scan.l]
    by_cases h1 : s.size ≤ p + i
    · rw [if_pos h1]; exact ⟨_, rfl, .inl ⟨by simp, rfl, rfl⟩⟩
    · rw [if_neg h1]
      obtain ⟨c, hc, hd⟩ := bt_list s (p + i) (by omega)
      rw [hc]
      have hc2 := c.toNat_lt
      rw [if_neg (by omega)]
      have hpow : 128 ^ i ≤ 128 ^ 8 := Nat.pow_le_pow_right (by decide) (by omega)
      have e8 : (128 : Nat) ^ 8 = 72057594037927936 := by decide
      have hmul : c.toNat % 128 * 128 ^ i ≤ 127 * 128 ^ i := Nat.mul_le_mul_right _ (by omega)
      have hst := step_eq n c.toNat i hc2 hn (by omega)
      by_cases h2 : (128 : Int) ≤ (c.toNat : Int)
      · rw [if_pos h2, hst]
        have hn' : n + c.toNat % 128 * 128 ^ i < 128 ^ (i + 1) := by rw [Nat.pow_succ]; omega
        obtain ⟨t, ht, hr⟩ := ih k s p (n + c.toNat % 128 * 128 ^ i) (i + 1) (by omega) (by omega) hn' (by omega)
        refine ⟨t, ht, ?_⟩
        rcases hr with hr | ⟨hz, m, e1, e2, e3, e4, e5, e6⟩
        · exact .inl hr
        · have hm : 0 < m := by omega
          have hM : (c.toNat % 128 + 128 * m) / 128 = m := by omega
          have hM2 : (c.toNat % 128 + 128 * m) % 128 = c.toNat % 128 := by omega
          have hcs : UInt8.ofNat (c.toNat % 128 + 128) = c := UInt8.toNat_inj.1 (by rw [toNat_ofNat (by omega)]; omega)
          have henc : enc (c.toNat % 128 + 128 * m) = c :: enc m := by rw [enc_big (by omega), hM, hM2, hcs]
          have hval : n + c.toNat % 128 * 128 ^ i + m * 128 ^ (i + 1) = n + (c.toNat % 128 + 128 * m) * 128 ^ i := by
            rw [Nat.pow_succ, Nat.add_mul, Nat.mul_comm (128 ^ i) 128, ← Nat.mul_assoc m 128, Nat.mul_comm m 128]; omega
          refine .inr ⟨hz, c.toNat % 128 + 128 * m, by rw [e1, hval], by omega, .inr (by omega), ?_, ?_, ?_⟩
          · rw [e4, henc, List.length_cons]; omega
          · rw [henc, List.length_cons]; omega
          · rw [henc, hd, List.length_cons, List.cons_append, show p + i + 1 = p + (i + 1) from by omega, e6, show p + i + ((enc m).length + 1) = p + (i + 1) + (enc m).length from by omega]
      · rw [if_neg h2]
        by_cases h4 : (c.toNat : Int) = 0 ∧ 0 < i
        · rw [if_pos h4]; exact ⟨_, rfl, .inl ⟨by simp, rfl, rfl⟩⟩
        · rw [if_neg h4]
          have hlt : c.toNat < 128 := by omega
          have hcm : c.toNat % 128 = c.toNat := by omega
          refine ⟨_, rfl, .inr ⟨rfl, c.toNat, ?_, by rw [hcm] at hmul; omega, by omega, ?_, ?_, ?_⟩⟩
          · rw [hst, hcm]
          · rw [enc_small hlt]; simp; omega
          · rw [enc_small hlt]; simp; omega
          · rw [enc_small hlt, hd]
            have : UInt8.ofNat c.toNat = c := UInt8.toNat_inj.1 (by rw [toNat_ofNat hc2])
            rw [this]; simp
/-- What a number's bytes are read as. -/
theorem scan_comp : ∀ (d k : Nat) (s : ByteArray) (p n i m : Nat) (rest : List UInt8), i + d = 9 → d + 1 < k → n < 128 ^ i → n + m * 128 ^ i < 18446744073709551616 → (i = 0 ∨ 0 < m) → s.data.toList.drop (p + i) = enc m ++ rest →
    varint_Reader_scan.l k s p (n : Int) i = some (((n + m * 128 ^ i : Nat) : Int), ((p + i + (enc m).length : Nat) : Int), 0) := by
  intro d
  induction d with
  | zero =>
    intro k s p n i m rest hi hk hn hb hz hL
    obtain ⟨k, rfl⟩ : ∃ k', k = k' + 1 := ⟨k - 1, by omega⟩
    have h9 : i = 9 := by omega
    subst h9
    have e9 : (128 : Nat) ^ 9 = 9223372036854775808 := by decide
    have hm : m = 1 := by omega
    subst hm
    rw [enc_small (by decide)] at hL ⊢
    have hsz : p + 9 < s.size := by
      rcases Nat.lt_or_ge (p + 9) s.size with h | h
      · exact h
      · rw [List.drop_eq_nil_of_le (by simpa using h)] at hL; simp at hL
    obtain ⟨c, hc, hd⟩ := bt_list s (p + 9) hsz
    rw [hd, List.cons_append, List.cons.injEq] at hL
    obtain ⟨rfl, _⟩ := hL
    rw [varint_Reader_scan.l, if_neg (by omega), hc, toNat_ofNat (by decide)]
    rw [if_neg (by omega), if_neg (by omega), if_neg (by omega)]
    rw [step_eq n 1 9 (by decide) hn (by omega)]
    rfl
  | succ d ih =>
    intro k s p n i m rest hi hk hn hb hz hL
    obtain ⟨k, rfl⟩ : ∃ k', k = k' + 1 := ⟨k - 1, by omega⟩
    have hsz : p + i < s.size := by
      rcases Nat.lt_or_ge (p + i) s.size with h | h
      · exact h
      · rw [List.drop_eq_nil_of_le (by simpa using h)] at hL
        have := enc_pos m
        have := congrArg List.length hL
        simp at this; omega
    obtain ⟨c, hc, hd⟩ := bt_list s (p + i) hsz
    have hpow : 128 ^ i ≤ 128 ^ 8 := Nat.pow_le_pow_right (by decide) (by omega)
    have e8 : (128 : Nat) ^ 8 = 72057594037927936 := by decide
    rw [varint_Reader_scan.l, if_neg (by omega), hc, if_neg (by omega)]
    by_cases hm : m < 128
    · rw [enc_small hm] at hL ⊢
      rw [hd, List.cons_append, List.cons.injEq] at hL
      obtain ⟨rfl, _⟩ := hL
      rw [toNat_ofNat (by omega), if_neg (by omega), if_neg (by omega)]
      have hmm : m % 128 = m := by omega
      rw [step_eq n m i (by omega) hn (by rw [hmm]; omega), hmm]
      rfl
    · rw [enc_big hm] at hL ⊢
      rw [hd, List.cons_append, List.cons.injEq] at hL
      obtain ⟨rfl, hL⟩ := hL
      have hmul : m % 128 * 128 ^ i ≤ 127 * 128 ^ i := Nat.mul_le_mul_right _ (by omega)
      have hc1 : (m % 128 + 128) % 128 = m % 128 := by omega
      rw [toNat_ofNat (by omega), if_pos (by omega), step_eq n _ i (by omega) hn (by rw [hc1]; omega), hc1]
      have hval : n + m % 128 * 128 ^ i + m / 128 * 128 ^ (i + 1) = n + m * 128 ^ i := by
        have h1 : m = m % 128 + 128 * (m / 128) := by omega
        have h2 : m * 128 ^ i = m % 128 * 128 ^ i + 128 * (m / 128) * 128 ^ i := by rw [← Nat.add_mul, ← h1]
        rw [h2, Nat.pow_succ, Nat.mul_comm (128 ^ i) 128, ← Nat.mul_assoc, Nat.mul_comm (m / 128) 128]; omega
      rw [ih k s p (n + m % 128 * 128 ^ i) (i + 1) (m / 128) rest (by omega) (by omega) (by rw [Nat.pow_succ]; omega) (by rw [hval]; exact hb) (.inr (by omega)) (by rw [show p + (i + 1) = p + i + 1 from by omega]; exact hL), hval]
      rw [List.length_cons, show p + (i + 1) + (enc (m / 128)).length = p + i + ((enc (m / 128)).length + 1) from by omega]

end Go.Proofs.YteilnbnnhocciaaDoor.E

/- The plain law of the reader: each thing that is read, by what its bytes are. -/
set_option linter.unusedVariables false
namespace Go.Proofs.YteilnbnnhocciaaDoor.E
open Go.RowKit Go.Proofs.YteilnbnnhocciaaDoorW.PrintWords Go.Proofs.YteilnbnnhocciaaDoorW.PrintMore Go.Proofs.YteilnbnnhocciaaDoorM Go.Proofs.YteilnbnnhocciaaDoor.K
def WF (s : ByteArray) (p : Int) : Prop := 0 ≤ p ∧ p ≤ s.size ∧ s.size ≤ 140737488351232
/-- What is left behind a place. -/
def left (s : ByteArray) (p : Int) : List UInt8 := s.data.toList.drop p.toNat
/-- A step of the reader's: it always answers; without an error the bytes are the thing's; and such bytes are read. -/
structure Good {α : Type} (f : ByteArray → Int → Int → Option (α × ByteArray × Int × Int)) (ser : α → List UInt8) (ok B : α → Prop) : Prop where
  total : ∀ s p e, WF s p → ∃ v p' e', f s p e = some (v, s, p', e') ∧ WF s p' ∧ B v ∧ (e' = 0 → e = 0 ∧ ok v ∧ left s p = ser v ++ left s p')
  comp : ∀ s p v rest, WF s p → ok v → left s p = ser v ++ rest → ∃ p', f s p 0 = some (v, s, p', 0) ∧ WF s p' ∧ left s p' = rest
theorem ok_f (s : ByteArray) (p e : Int) : varint_Reader_ok.f s p e = some ((e == 0), s, p, e) := rfl
theorem left_len (s : ByteArray) (p : Int) : (left s p).length = s.size - p.toNat := by simp [left]
theorem left_add {s : ByteArray} {p : Int} {l rest : List UInt8} (hw : WF s p) (h : left s p = l ++ rest) : WF s (p + l.length) ∧ left s (p + l.length) = rest := by
  have hl := left_len s p
  rw [h, List.length_append] at hl
  obtain ⟨h0, h1, h2⟩ := hw
  refine ⟨⟨by omega, by omega, h2⟩, ?_⟩
  have e : (p + (l.length : Int)).toNat = p.toNat + l.length := by omega
  rw [left, e, ← List.drop_drop]
  show List.drop l.length (left s p) = rest
  rw [h, List.drop_left]
theorem num_good : Good varint_Reader_Num.f (fun v => enc v.toNat) (fun v => 0 ≤ v ∧ v < 18446744073709551616) (fun v => 0 ≤ v ∧ v < 18446744073709551616) := by
  constructor
  · intro s p e hw
    obtain ⟨h0, h1, h2⟩ := hw
    unfold varint_Reader_Num.f
    rw [ok_f]
    simp only [Option.bind_some]
    by_cases he : e = 0
    · subst he
      rw [if_pos (by rfl)]
      rw [varint_Reader_scan.f, if_pos ⟨h0, h1, h2⟩]
      obtain ⟨q, rfl⟩ := Int.eq_ofNat_of_zero_le h0
      obtain ⟨t, ht, hr⟩ := scan_sound 9 11 s q 0 0 (by omega) (by omega) (by decide) (by omega)
      have ht' : varint_Reader_scan.l 11 s (q : Int).toNat 0 0 = some t := ht
      rw [ht']
      simp only [Option.bind_some]
      rcases hr with ⟨hz, _, _⟩ | ⟨hz, m, e1, e2, e3, e4, e5, e6⟩
      · rw [if_neg hz]
        exact ⟨_, _, _, rfl, ⟨h0, h1, h2⟩, ⟨by decide, by decide⟩, fun h => absurd h hz⟩
      · rw [if_pos hz]
        simp only [Nat.pow_zero, Nat.mul_one, Nat.zero_add, Nat.add_zero] at e1 e2 e4 e5 e6
        refine ⟨_, _, _, rfl, ?_, ?_, fun _ => ⟨by trivial, ?_, ?_⟩⟩
        · rw [e4]; exact ⟨by omega, by omega, h2⟩
        · rw [e1]; exact ⟨by omega, by omega⟩
        · rw [e1]; exact ⟨by omega, by omega⟩
        · rw [e1, e4, left, left, Int.toNat_natCast, Int.toNat_natCast, Int.toNat_natCast]; exact e6
    · have hb : (e == 0) = false := by simpa using he
      rw [hb, if_neg (by simp)]
      exact ⟨_, _, _, rfl, ⟨h0, h1, h2⟩, ⟨by decide, by decide⟩, fun h => absurd h he⟩
  · intro s p v rest hw hv hL
    have hla := left_add hw hL
    obtain ⟨h0, h1, h2⟩ := hw
    obtain ⟨q, rfl⟩ := Int.eq_ofNat_of_zero_le h0
    obtain ⟨m, rfl⟩ := Int.eq_ofNat_of_zero_le hv.1
    rw [Int.toNat_natCast] at hL hla
    unfold varint_Reader_Num.f
    rw [ok_f]
    simp only [Option.bind_some]
    rw [if_pos (by rfl), varint_Reader_scan.f, if_pos ⟨h0, h1, h2⟩]
    have hs := scan_comp 9 11 s q 0 0 m rest (by omega) (by omega) (by decide) (by simp; omega) (.inl rfl) (by simpa [left] using hL)
    have hs' : varint_Reader_scan.l 11 s (q : Int).toNat 0 0 = some (((0 + m * 128 ^ 0 : Nat) : Int), ((q + 0 + (enc m).length : Nat) : Int), 0) := hs
    rw [hs']
    simp only [Option.bind_some, if_true]
    have e : ((q + 0 + (enc m).length : Nat) : Int) = (q : Int) + ((enc m).length : Int) := by omega
    have e2 : ((0 + m * 128 ^ 0 : Nat) : Int) = (m : Int) := by simp
    rw [e, e2]
    exact ⟨_, rfl, hla⟩
/-- Two steps, one behind the other. -/
theorem Good.seq {α β : Type} {f : ByteArray → Int → Int → Option (α × ByteArray × Int × Int)} {g : ByteArray → Int → Int → Option (β × ByteArray × Int × Int)} {ser : α → List UInt8} {ser' : β → List UInt8} {ok B : α → Prop} {ok' B' : β → Prop}
    (hf : Good f ser ok B) (hg : Good g ser' ok' B') : Good (fun s p e => (f s p e).bind fun t => (g t.2.1 t.2.2.1 t.2.2.2).bind fun u => some ((t.1, u.1), u.2.1, u.2.2.1, u.2.2.2)) (fun x => ser x.1 ++ ser' x.2) (fun x => ok x.1 ∧ ok' x.2) (fun x => B x.1 ∧ B' x.2) := by
  constructor
  · intro s p e hw
    obtain ⟨v, p', e', h1, hw', hb, hs⟩ := hf.total s p e hw
    obtain ⟨u, q, e2, h2, hw2, hb2, hs2⟩ := hg.total s p' e' hw'
    refine ⟨(v, u), q, e2, by simp only [h1, Option.bind_some, h2], hw2, ⟨hb, hb2⟩, fun h => ?_⟩
    obtain ⟨k1, k2, k3⟩ := hs2 h
    obtain ⟨l1, l2, l3⟩ := hs k1
    exact ⟨l1, ⟨l2, k2⟩, by rw [l3, k3, List.append_assoc]⟩
  · intro s p v rest hw hv hL
    obtain ⟨q, h1, hw1, hl1⟩ := hf.comp s p v.1 (ser' v.2 ++ rest) hw hv.1 (by rw [hL, List.append_assoc])
    obtain ⟨r, h2, hw2, hl2⟩ := hg.comp s q v.2 rest hw1 hv.2 hl1
    exact ⟨r, by simp only [h1, Option.bind_some, h2], hw2, hl2⟩
/-- A step's thing, told otherwise. -/
theorem Good.map {α β : Type} {f : ByteArray → Int → Int → Option (α × ByteArray × Int × Int)} {ser : α → List UInt8} {ok B : α → Prop} (hf : Good f ser ok B) (m : α → β) (n : β → α) (hm : ∀ b, m (n b) = b) (hn : ∀ a, n (m a) = a) :
    Good (fun s p e => (f s p e).bind fun t => some (m t.1, t.2.1, t.2.2.1, t.2.2.2)) (fun b => ser (n b)) (fun b => ok (n b)) (fun b => B (n b)) := by
  constructor
  · intro s p e hw
    obtain ⟨v, p', e', h1, hw', hb, hs⟩ := hf.total s p e hw
    exact ⟨m v, p', e', by simp only [h1, Option.bind_some], hw', by rw [hn]; exact hb, fun h => by rw [hn]; exact hs h⟩
  · intro s p v rest hw hv hL
    obtain ⟨q, h1, hw1, hl1⟩ := hf.comp s p (n v) rest hw hv hL
    exact ⟨q, by simp only [h1, Option.bind_some, hm], hw1, hl1⟩
theorem Good.weak {α : Type} {f : ByteArray → Int → Int → Option (α × ByteArray × Int × Int)} {ser : α → List UInt8} {ok B B' : α → Prop} (hf : Good f ser ok B) (h : ∀ a, B a → B' a) : Good f ser ok B' :=
  ⟨fun s p e hw => let ⟨v, p', e', h1, h2, h3, h4⟩ := hf.total s p e hw; ⟨v, p', e', h1, h2, h _ h3, h4⟩, hf.comp⟩
theorem Good.ext {α : Type} {f g : ByteArray → Int → Int → Option (α × ByteArray × Int × Int)} {ser : α → List UInt8} {ok B : α → Prop} (hf : Good f ser ok B) (h : ∀ s p e, g s p e = f s p e) : Good g ser ok B := by
  have : g = f := by funext s p e; exact h s p e
  rw [this]; exact hf
theorem fail_f (s : ByteArray) (p e x : Int) : varint_Reader_Fail.f s p e x = some (s, p, if e = 0 then x else e) := by
  unfold varint_Reader_Fail.f
  rw [ok_f]
  simp only [Option.bind_some]
  by_cases h : e = 0
  · subst h; rw [if_pos (by rfl), if_pos rfl]
  · rw [if_neg (by simpa using h), if_neg h]
theorem level_good : Good edit_levelOf.f (fun v => enc v.toNat) (fun v => 0 ≤ v ∧ v < 4) (fun _ => True) := by
  constructor
  · intro s p e hw
    obtain ⟨v, p', e', h1, hw', hb, hs⟩ := num_good.total s p e hw
    unfold edit_levelOf.f
    rw [h1]
    simp only [Option.bind_some]
    by_cases h4 : v ≥ 4
    · rw [if_pos h4, fail_f]
      refine ⟨_, _, _, rfl, hw', trivial, fun h => ?_⟩
      by_cases he : e' = 0
      · rw [if_pos he] at h; cases h
      · rw [if_neg he] at h; exact absurd h he
    · rw [if_neg h4]
      have hwr : wrap64 v = v := IntWalk.wrap64_in v ⟨by omega, by omega⟩
      rw [hwr]
      exact ⟨_, _, _, rfl, hw', trivial, fun h => by obtain ⟨a, b, c⟩ := hs h; exact ⟨a, ⟨b.1, by omega⟩, c⟩⟩
  · intro s p v rest hw hv hL
    obtain ⟨q, h1, hw1, hl1⟩ := num_good.comp s p v rest hw ⟨hv.1, by omega⟩ hL
    unfold edit_levelOf.f
    rw [h1]
    simp only [Option.bind_some]
    rw [if_neg (by omega), IntWalk.wrap64_in v ⟨by omega, by omega⟩]
    exact ⟨q, rfl, hw1, hl1⟩
theorem count_good : Good edit_count.f (fun v => enc v.toNat) (fun v => 0 ≤ v ∧ v ≤ 200) (fun v => 0 ≤ v ∧ v ≤ 18446744073709551615) := by
  constructor
  · intro s p e hw
    obtain ⟨v, p', e', h1, hw', hb, hs⟩ := num_good.total s p e hw
    unfold edit_count.f
    rw [h1]
    simp only [Option.bind_some]
    by_cases h4 : v > 200
    · rw [if_pos h4, fail_f]
      refine ⟨_, _, _, rfl, hw', ⟨hb.1, by omega⟩, fun h => ?_⟩
      by_cases he : e' = 0
      · rw [if_pos he] at h; cases h
      · rw [if_neg he] at h; exact absurd h he
    · rw [if_neg h4]
      exact ⟨_, _, _, rfl, hw', ⟨hb.1, by omega⟩, fun h => by obtain ⟨a, b, c⟩ := hs h; exact ⟨a, ⟨b.1, by omega⟩, c⟩⟩
  · intro s p v rest hw hv hL
    obtain ⟨q, h1, hw1, hl1⟩ := num_good.comp s p v rest hw ⟨hv.1, by omega⟩ hL
    unfold edit_count.f
    rw [h1]
    simp only [Option.bind_some]
    rw [if_neg (by omega)]
    exact ⟨q, rfl, hw1, hl1⟩
theorem wrap_in {n : Int} (h1 : -9223372036854775808 ≤ n) (h2 : n ≤ 9223372036854775807) : wrap64 n = n := IntWalk.wrap64_in n ⟨by omega, by omega⟩
theorem list_ext {s t : ByteArray} (h : s.data.toList = t.data.toList) : s = t := by
  cases s with | mk a => cases t with | mk b => congr 1; exact Array.toList_inj.1 h
/-- Take, where nothing is wrong. -/
theorem take_f (s : ByteArray) (p n : Int) (hw : WF s p) (hn : 0 ≤ n) (hle : n ≤ s.size - p) : varint_Reader_Take.f s p 0 n = some (s.extract p.toNat (p + n).toNat, s, p + n, 0) := by
  obtain ⟨h0, h1, h2⟩ := hw
  unfold varint_Reader_Take.f
  rw [ok_f]
  simp only [Option.bind_some]
  rw [if_pos (by rfl), if_neg (by omega), wrap_in (by omega) (by omega), if_neg (by omega), wrap_in (by omega) (by omega), if_pos h0, if_pos (by omega), if_pos (by omega)]
theorem take_bad (s : ByteArray) (p n e : Int) (hw : WF s p) (hb : e ≠ 0 ∨ n < 0 ∨ (s.size : Int) - p < n) : ∃ e', e' ≠ 0 ∧ varint_Reader_Take.f s p e n = some (⟨#[]⟩, s, p, e') := by
  obtain ⟨h0, h1, h2⟩ := hw
  unfold varint_Reader_Take.f
  rw [ok_f]
  simp only [Option.bind_some]
  by_cases he : e = 0
  · subst he
    rw [if_pos (by rfl)]
    by_cases hn : n < 0
    · rw [if_pos hn]; exact ⟨3, by decide, rfl⟩
    · rw [if_neg hn, wrap_in (by omega) (by omega), if_pos (by omega)]; exact ⟨3, by decide, rfl⟩
  · have hb : (e == 0) = false := by simpa using he
    rw [hb, if_neg (by simp)]; exact ⟨e, he, rfl⟩
theorem text_good : Good (fun s p e => varint_Reader_Text.f s p e 200) (fun t => enc t.size ++ t.data.toList) (fun t => t.size ≤ 200) (fun _ => True) := by
  have hmx : IntKind.u64.wrap (mx 200 0) = 200 := by decide
  constructor
  · intro s p e hw
    obtain ⟨v, p', e', h1, hw', hb, hs⟩ := num_good.total s p e hw
    show ∃ v p' e', varint_Reader_Text.f s p e 200 = _ ∧ _
    unfold varint_Reader_Text.f
    rw [h1]
    simp only [Option.bind_some]
    rw [hmx]
    by_cases h4 : v > 200
    · rw [if_pos h4, fail_f]
      refine ⟨_, _, _, rfl, hw', trivial, fun h => ?_⟩
      by_cases he : e' = 0
      · rw [if_pos he] at h; cases h
      · rw [if_neg he] at h; exact absurd h he
    · rw [if_neg h4, wrap_in (by omega) (by omega)]
      by_cases hok : e' = 0 ∧ v ≤ s.size - p'
      · obtain ⟨rfl, hle⟩ := hok
        obtain ⟨k1, k2, k3⟩ := hs rfl
        have hw0 := hw'
        obtain ⟨h0, h1', h2⟩ := hw'
        rw [take_f s p' v hw0 hb.1 hle]
        simp only [Option.bind_some]
        refine ⟨_, _, _, rfl, ⟨by omega, by omega, h2⟩, trivial, fun _ => ⟨k1, ?_, ?_⟩⟩
        · rw [ByteArray.size_extract]; omega
        · have hsz : (s.extract p'.toNat (p' + v).toNat).size = v.toNat := by rw [ByteArray.size_extract]; omega
          rw [k3, hsz, List.append_assoc]
          congr 1
          have e1 : (s.extract p'.toNat (p' + v).toNat).data.toList = (left s p').take v.toNat := by
            rw [Lib.extract_data, left, show (p' + v).toNat - p'.toNat = v.toNat by omega]
          rw [e1, left, left, show (p' + v).toNat = p'.toNat + v.toNat by omega, ← List.drop_drop, List.take_append_drop]
      · obtain ⟨e2, he2, ht⟩ := take_bad s p' v e' hw' (by omega)
        rw [ht]
        simp only [Option.bind_some]
        exact ⟨_, _, _, rfl, hw', trivial, fun h => absurd h he2⟩
  · intro s p t rest hw hv hL
    rw [List.append_assoc] at hL
    obtain ⟨q, h1, hw1, hl1⟩ := num_good.comp s p (t.size : Int) (t.data.toList ++ rest) hw ⟨by omega, by omega⟩ (by simpa using hL)
    show ∃ p', varint_Reader_Text.f s p 0 200 = _ ∧ _
    unfold varint_Reader_Text.f
    rw [h1]
    simp only [Option.bind_some]
    have hll := left_len s q
    rw [hl1, List.length_append] at hll
    have htl : t.data.toList.length = t.size := by simp
    have hla := left_add hw1 hl1
    rw [htl] at hla hll
    obtain ⟨h0, h1', h2⟩ := hw1
    rw [hmx, if_neg (by omega), wrap_in (by omega) (by omega), take_f s q t.size ⟨h0, h1', h2⟩ (by omega) (by omega)]
    simp only [Option.bind_some]
    have e1 : s.extract q.toNat (q + (t.size : Int)).toNat = t := by
      apply list_ext
      rw [Lib.extract_data, show (q + (t.size : Int)).toNat - q.toNat = t.size by omega]
      show (left s q).take t.size = _
      rw [hl1, ← htl, List.take_left]
    rw [e1]
    exact ⟨_, rfl, hla.1, hla.2⟩

end Go.Proofs.YteilnbnnhocciaaDoor.E

/- The plain law of Parse: its rows, its whole. -/
set_option linter.unusedVariables false
namespace Go.Proofs.YteilnbnnhocciaaDoor.E
open Go.RowKit Go.Proofs.YteilnbnnhocciaaDoorW.PrintWords Go.Proofs.YteilnbnnhocciaaDoorW.PrintMore Go.Proofs.YteilnbnnhocciaaDoorM Go.Proofs.YteilnbnnhocciaaDoor.K
def encI (v : Int) : List UInt8 := enc v.toNat
def encT (t : ByteArray) : List UInt8 := enc t.size ++ t.data.toList
def ser107 (a : S107) : List UInt8 := encI a.f0 ++ (encI a.f1.f0 ++ (encI a.f1.f1 ++ (encI a.f1.f2 ++ (encT a.f1.f3 ++ encT a.f1.f4))))
def ser111 (a : S111) : List UInt8 := encI a.f0 ++ encI a.f1
def u64 (v : Int) : Prop := 0 ≤ v ∧ v < 18446744073709551616
def ok107 (a : S107) : Prop := (0 ≤ a.f0 ∧ a.f0 < 4) ∧ u64 a.f1.f0 ∧ u64 a.f1.f1 ∧ u64 a.f1.f2 ∧ a.f1.f3.size ≤ 200 ∧ a.f1.f4.size ≤ 200
def ok111 (a : S111) : Prop := (0 ≤ a.f0 ∧ a.f0 < 4) ∧ u64 a.f1
theorem come_good : Good edit_Parse.come ser107 ok107 (fun _ => True) := by
  have h := (level_good.seq (num_good.seq (num_good.seq (num_good.seq (text_good.seq text_good))))).map (fun x => (⟨x.1, ⟨x.2.1, x.2.2.1, x.2.2.2.1, x.2.2.2.2.1, x.2.2.2.2.2⟩⟩ : S107)) (fun a => (a.f0, a.f1.f0, a.f1.f1, a.f1.f2, a.f1.f3, a.f1.f4)) (fun _ => rfl) (fun _ => rfl)
  refine ((h.ext ?_).weak (fun _ _ => trivial))
  intro s p e
  unfold edit_Parse.come
  simp only [Option.bind_assoc, Option.bind_some]
theorem gone_good : Good edit_Parse.gone ser111 ok111 (fun _ => True) := by
  have h := (level_good.seq num_good).map (fun x => (⟨x.1, x.2⟩ : S111)) (fun a => (a.f0, a.f1)) (fun _ => rfl) (fun _ => rfl)
  refine ((h.ext ?_).weak (fun _ _ => trivial))
  intro s p e
  unfold edit_Parse.gone
  simp only [Option.bind_assoc, Option.bind_some]
theorem comes_total : ∀ (n : Nat) (s : ByteArray) (p e : Int) (acc : List S107), WF s p → (n + acc.length ≤ 1000 ∨ e ≠ 0) → ∃ l p' e', edit_Parse.comes n s p e acc = some (acc ++ l, s, p', e') ∧ WF s p' ∧
    (e' = 0 → e = 0 ∧ l.length = n ∧ (∀ a ∈ l, ok107 a) ∧ left s p = l.flatMap ser107 ++ left s p') := by
  intro n
  induction n with
  | zero => intro s p e acc hw _; exact ⟨[], p, e, by simp [edit_Parse.comes], hw, fun h => ⟨h, rfl, by simp, by simp⟩⟩
  | succ n ih =>
    intro s p e acc hw hn
    rw [edit_Parse.comes]
    by_cases he : e = 0
    · subst he
      rw [if_pos rfl]
      obtain ⟨v, q, e2, h1, hw1, _, hs⟩ := come_good.total s p 0 hw
      rw [h1]
      simp only [Option.bind_some]
      have hn' : n + 1 + acc.length ≤ 1000 := by rcases hn with h | h; exact h; exact absurd rfl h
      rw [if_pos (by omega)]
      obtain ⟨l, p', e', h2, hw2, hs2⟩ := ih s q e2 (acc ++ [v]) hw1 (.inl (by simp; omega))
      refine ⟨v :: l, p', e', by rw [h2]; simp, hw2, fun h => ?_⟩
      obtain ⟨k1, k2, k3, k4⟩ := hs2 h
      obtain ⟨_, l2, l3⟩ := hs k1
      refine ⟨by trivial, by simp [k2], ?_, by rw [l3, k4]; simp⟩
      intro a ha
      rcases List.mem_cons.1 ha with rfl | ha
      · exact l2
      · exact k3 a ha
    · rw [if_neg he]
      exact ⟨[], p, e, by simp, hw, fun h => absurd h he⟩
theorem comes_comp : ∀ (l : List S107) (s : ByteArray) (p : Int) (acc : List S107) (rest : List UInt8), WF s p → (∀ a ∈ l, ok107 a) → l.length + acc.length ≤ 1000 → left s p = l.flatMap ser107 ++ rest → ∃ p', edit_Parse.comes l.length s p 0 acc = some (acc ++ l, s, p', 0) ∧ WF s p' ∧ left s p' = rest := by
  intro l
  induction l with
  | nil => intro s p acc rest hw _ _ hL; exact ⟨p, by simp [edit_Parse.comes], hw, by simpa using hL⟩
  | cons a l ih =>
    intro s p acc rest hw hok hn hL
    obtain ⟨q, h1, hw1, hl1⟩ := come_good.comp s p a (l.flatMap ser107 ++ rest) hw (hok a (by simp)) (by rw [hL]; simp)
    obtain ⟨r, h2, hw2, hl2⟩ := ih s q (acc ++ [a]) rest hw1 (fun b hb => hok b (by simp [hb])) (by simp at hn ⊢; omega) hl1
    refine ⟨r, ?_, hw2, hl2⟩
    rw [List.length_cons, edit_Parse.comes, if_pos rfl, h1]
    simp only [Option.bind_some]
    rw [if_pos (by simp at hn; omega), h2]
    simp
theorem gones_total : ∀ (n : Nat) (s : ByteArray) (p e : Int) (acc : List S111), WF s p → (n + acc.length ≤ 1000 ∨ e ≠ 0) → ∃ l p' e', edit_Parse.gones n s p e acc = some (acc ++ l, s, p', e') ∧ WF s p' ∧
    (e' = 0 → e = 0 ∧ l.length = n ∧ (∀ a ∈ l, ok111 a) ∧ left s p = l.flatMap ser111 ++ left s p') := by
  intro n
  induction n with
  | zero => intro s p e acc hw _; exact ⟨[], p, e, by simp [edit_Parse.gones], hw, fun h => ⟨h, rfl, by simp, by simp⟩⟩
  | succ n ih =>
    intro s p e acc hw hn
    rw [edit_Parse.gones]
    by_cases he : e = 0
    · subst he
      rw [if_pos rfl]
      obtain ⟨v, q, e2, h1, hw1, _, hs⟩ := gone_good.total s p 0 hw
      rw [h1]
      simp only [Option.bind_some]
      have hn' : n + 1 + acc.length ≤ 1000 := by rcases hn with h | h; exact h; exact absurd rfl h
      rw [if_pos (by omega)]
      obtain ⟨l, p', e', h2, hw2, hs2⟩ := ih s q e2 (acc ++ [v]) hw1 (.inl (by simp; omega))
      refine ⟨v :: l, p', e', by rw [h2]; simp, hw2, fun h => ?_⟩
      obtain ⟨k1, k2, k3, k4⟩ := hs2 h
      obtain ⟨_, l2, l3⟩ := hs k1
      refine ⟨by trivial, by simp [k2], ?_, by rw [l3, k4]; simp⟩
      intro a ha
      rcases List.mem_cons.1 ha with rfl | ha
      · exact l2
      · exact k3 a ha
    · rw [if_neg he]
      exact ⟨[], p, e, by simp, hw, fun h => absurd h he⟩
theorem gones_comp : ∀ (l : List S111) (s : ByteArray) (p : Int) (acc : List S111) (rest : List UInt8), WF s p → (∀ a ∈ l, ok111 a) → l.length + acc.length ≤ 1000 → left s p = l.flatMap ser111 ++ rest → ∃ p', edit_Parse.gones l.length s p 0 acc = some (acc ++ l, s, p', 0) ∧ WF s p' ∧ left s p' = rest := by
  intro l
  induction l with
  | nil => intro s p acc rest hw _ _ hL; exact ⟨p, by simp [edit_Parse.gones], hw, by simpa using hL⟩
  | cons a l ih =>
    intro s p acc rest hw hok hn hL
    obtain ⟨q, h1, hw1, hl1⟩ := gone_good.comp s p a (l.flatMap ser111 ++ rest) hw (hok a (by simp)) (by rw [hL]; simp)
    obtain ⟨r, h2, hw2, hl2⟩ := ih s q (acc ++ [a]) rest hw1 (fun b hb => hok b (by simp [hb])) (by simp at hn ⊢; omega) hl1
    refine ⟨r, ?_, hw2, hl2⟩
    rw [List.length_cons, edit_Parse.gones, if_pos rfl, h1]
    simp only [Option.bind_some]
    rw [if_pos (by simp at hn; omega), h2]
    simp
def serE (lg nx sq : Int) (c : List S107) (g : List S111) : List UInt8 := encI lg ++ (encI nx ++ (encI sq ++ (enc c.length ++ (c.flatMap ser107 ++ (enc g.length ++ g.flatMap ser111)))))
structure okE (lg nx sq : Int) (c : List S107) (g : List S111) : Prop where
  hlg : u64 lg
  hnx : u64 nx
  hsq : u64 sq
  hc : ∀ a ∈ c, ok107 a
  hg : ∀ a ∈ g, ok111 a
  hcl : c.length ≤ 200
  hgl : g.length ≤ 200
theorem end_f (s : ByteArray) (p e : Int) (hw : WF s p) : ∃ z, varint_Reader_End.f s p e = some (z, s, p, e) ∧ (z = 0 ↔ e = 0 ∧ left s p = []) := by
  obtain ⟨h0, h1, h2⟩ := hw
  have hl := left_len s p
  unfold varint_Reader_End.f
  simp only [varint_Reader_Err.f, varint_Reader_Left.f, Option.bind_some]
  by_cases he : e = 0
  · rw [if_pos he, wrap_in (by omega) (by omega)]
    by_cases h : (s.size : Int) - p > 0
    · rw [if_pos h]
      refine ⟨4, rfl, ⟨fun h => (by cases h), fun ⟨_, h3⟩ => ?_⟩⟩
      rw [h3] at hl; simp at hl; omega
    · rw [if_neg h]
      refine ⟨0, by rw [he], ⟨fun _ => ⟨he, ?_⟩, fun _ => rfl⟩⟩
      exact List.eq_nil_of_length_eq_zero (by omega)
  · rw [if_neg he]
    exact ⟨e, rfl, ⟨fun h => absurd h he, fun h => absurd h.1 he⟩⟩
theorem parse_total (s : ByteArray) (hs : s.size ≤ 140737488351232) : ∃ lg nx sq c g err, edit_Parse.f s = some (lg, nx, sq, c, g, err) ∧
    (err = 0 → okE lg nx sq c g ∧ s.data.toList = serE lg nx sq c g ∧ edit_Edit_Check.val c g = 0) ∧ (err ≠ 0 → lg = 0 ∧ nx = 0 ∧ sq = 0 ∧ c = [] ∧ g = []) := by
  have hw : WF s 0 := ⟨by decide, by omega, hs⟩
  obtain ⟨v1, p1, e1, h1, w1, b1, s1⟩ := num_good.total s 0 0 hw
  obtain ⟨v2, p2, e2, h2, w2, b2, s2⟩ := num_good.total s p1 e1 w1
  obtain ⟨v3, p3, e3, h3, w3, b3, s3⟩ := num_good.total s p2 e2 w2
  obtain ⟨n4, p4, e4, h4, w4, b4, s4⟩ := count_good.total s p3 e3 w3
  obtain ⟨c, p5, e5, h5, w5, s5⟩ := comes_total n4.toNat s p4 e4 [] w4 (by
    by_cases h : e4 = 0
    · have := (s4 h).2.1; left; simp; omega
    · exact .inr h)
  obtain ⟨n6, p6, e6, h6, w6, b6, s6⟩ := count_good.total s p5 e5 w5
  obtain ⟨g, p7, e7, h7, w7, s7⟩ := gones_total n6.toNat s p6 e6 [] w6 (by
    by_cases h : e6 = 0
    · have := (s6 h).2.1; left; simp; omega
    · exact .inr h)
  obtain ⟨z, h8, hz⟩ := end_f s p7 e7 w7
  have hf : edit_Parse.f s = some (edit_Parse.fin v1 v2 v3 c g z) := by
    unfold edit_Parse.f
    simp only [h1, h2, h3, h4, Option.bind_some, if_pos b4, h5, List.nil_append, h6, if_pos b6, h7, h8]
  rw [hf]
  unfold edit_Parse.fin
  by_cases hz0 : z = 0
  · obtain ⟨k7, hl7⟩ := hz.1 hz0
    obtain ⟨k6, g1, g2, g3⟩ := s7 k7
    obtain ⟨k5, c6, t6⟩ := s6 k6
    obtain ⟨k4, c1, c2, c3⟩ := s5 k5
    obtain ⟨k3, c4, t4⟩ := s4 k4
    obtain ⟨k2, o3, t3⟩ := s3 k3
    obtain ⟨k1, o2, t2⟩ := s2 k2
    obtain ⟨_, o1, t1⟩ := s1 k1
    rw [if_pos hz0]
    by_cases hv : edit_Edit_Check.val c g = 0
    · rw [if_pos hv]
      refine ⟨_, _, _, _, _, _, rfl, fun _ => ⟨⟨o1, o2, o3, c2, g2, by omega, by omega⟩, ?_, hv⟩, fun h => absurd rfl h⟩
      have e0 : left s 0 = s.data.toList := rfl
      rw [← e0, t1, t2, t3, t4, c3, t6, g3, hl7, ← c1, ← g1]
      simp [serE, encI]
    · rw [if_neg hv]
      exact ⟨_, _, _, _, _, _, rfl, fun h => absurd h hv, fun _ => ⟨rfl, rfl, rfl, rfl, rfl⟩⟩
  · rw [if_neg hz0]
    exact ⟨_, _, _, _, _, _, rfl, fun h => absurd h hz0, fun _ => ⟨rfl, rfl, rfl, rfl, rfl⟩⟩
theorem parse_comp (s : ByteArray) (hs : s.size ≤ 140737488351232) {lg nx sq : Int} {c : List S107} {g : List S111} (ho : okE lg nx sq c g) (hL : s.data.toList = serE lg nx sq c g) (hv : edit_Edit_Check.val c g = 0) : edit_Parse.f s = some (lg, nx, sq, c, g, 0) := by
  have hw : WF s 0 := ⟨by decide, by omega, hs⟩
  have hL0 : left s 0 = serE lg nx sq c g := hL
  have hcl := ho.hcl
  have hgl := ho.hgl
  obtain ⟨p1, h1, w1, l1⟩ := num_good.comp s 0 lg _ hw ho.hlg hL0
  obtain ⟨p2, h2, w2, l2⟩ := num_good.comp s p1 nx _ w1 ho.hnx l1
  obtain ⟨p3, h3, w3, l3⟩ := num_good.comp s p2 sq _ w2 ho.hsq l2
  obtain ⟨p4, h4, w4, l4⟩ := count_good.comp s p3 (c.length : Int) _ w3 ⟨by omega, by omega⟩ l3
  obtain ⟨p5, h5, w5, l5⟩ := comes_comp c s p4 [] _ w4 ho.hc (by simp; omega) l4
  obtain ⟨p6, h6, w6, l6⟩ := count_good.comp s p5 (g.length : Int) (g.flatMap ser111) w5 ⟨by omega, by omega⟩ l5
  obtain ⟨p7, h7, w7, l7⟩ := gones_comp g s p6 [] [] w6 ho.hg (by simp; omega) (by rw [l6]; simp)
  obtain ⟨z, h8, hz⟩ := end_f s p7 0 w7
  have hz0 : z = 0 := hz.2 ⟨rfl, l7⟩
  unfold edit_Parse.f
  have b4 : 0 ≤ (c.length : Int) ∧ (c.length : Int) ≤ 18446744073709551615 := ⟨by omega, by omega⟩
  have b6 : 0 ≤ (g.length : Int) ∧ (g.length : Int) ≤ 18446744073709551615 := ⟨by omega, by omega⟩
  simp only [h1, h2, h3, h4, Option.bind_some, if_pos b4, Int.toNat_natCast, h5, List.nil_append, h6, if_pos b6, h7, h8]
  rw [edit_Parse.fin, if_pos hz0, if_pos hv]
end Go.Proofs.YteilnbnnhocciaaDoor.E

/- The plain law of Bytes, Same and Light. -/
set_option linter.unusedVariables false
namespace Go.Proofs.YteilnbnnhocciaaDoor.E
open Go.RowKit Go.Proofs.YteilnbnnhocciaaDoorW.PrintWords Go.Proofs.YteilnbnnhocciaaDoorW.PrintMore Go.Proofs.YteilnbnnhocciaaDoorM Go.Proofs.YteilnbnnhocciaaDoor.K
def B (l : List UInt8) : ByteArray := ⟨l.toArray⟩
theorem B_app (l m : List UInt8) : B l ++ B m = B (l ++ m) := ByteArray.mk_append_mk l m
theorem B_size (l : List UInt8) : (B l).size = l.length := by simp [B, ByteArray.size]
theorem B_data (l : List UInt8) : (B l).data.toList = l := rfl
theorem B_of (s : ByteArray) : s = B s.data.toList := list_ext rfl
theorem encS_B (n : Nat) : encS n = B (enc n) := rfl
theorem enc_le {n : Nat} (h : n < 18446744073709551616) : (enc n).length ≤ 10 := by
  have h9 : (128 : Nat) ^ (9 + 1) = 1180591620717411303424 := by decide
  exact enc_len 9 n (by rw [h9]; omega)
theorem num_I (v : Int) (k : Nat) (h : u64 v) (hk : 10 ≤ k) : varint_Num.f k v = some (B (encI v)) := by
  obtain ⟨n, rfl⟩ := Int.eq_ofNat_of_zero_le h.1
  have h2 := h.2
  rw [num_f n k (by omega) hk, encI, Int.toNat_natCast]
  rfl
theorem nums_go (k : Nat) (hk : 10 ≤ k) : ∀ (xs : List Int) (acc : List UInt8), (∀ x ∈ xs, u64 x) → acc.length + xs.length * 10 ≤ 1000000 → edit_nums.go k xs (B acc) = some (B (acc ++ xs.flatMap encI)) := by
  intro xs
  induction xs with
  | nil => intro acc _ _; simp [edit_nums.go]
  | cons x xs ih =>
    intro acc h hl
    have hx := h x (by simp)
    have hle : (encI x).length ≤ 10 := enc_le (by have := hx.1; have := hx.2; omega)
    rw [edit_nums.go, num_I x k hx hk]
    simp only [Option.bind_some]
    rw [B_size, B_size, if_pos (by simp at hl; omega), B_app, ih (acc ++ encI x) (fun y hy => h y (by simp [hy])) (by simp at hl ⊢; omega)]
    simp
theorem nums_f (k : Nat) (hk : 10 ≤ k) (xs : List Int) (h : ∀ x ∈ xs, u64 x) (hl : xs.length ≤ 100) : edit_nums.f k xs = some (B (xs.flatMap encI)) := by
  have := nums_go k hk xs [] h (by simp; omega)
  simpa [edit_nums.f, B] using this
theorem text_f (k : Nat) (hk : 10 ≤ k) (t : ByteArray) (h : t.size ≤ 100000) : varint_Text.f k t = some (B (encT t)) := by
  unfold varint_Text.f
  have hw : IntKind.u64.wrap ((t.size : Int)) = (t.size : Int) := by rw [IntKind.wrap_u64]; omega
  rw [hw, num_I _ k ⟨by omega, by omega⟩ hk]
  simp only [Option.bind_some]
  have hle : (encI (t.size : Int)).length ≤ 10 := enc_le (by omega)
  rw [B_size, if_pos (by omega)]
  have h2 : encI (t.size : Int) = enc t.size := by rw [encI, Int.toNat_natCast]
  rw [h2, encT]
  first | rfl | (congr 1; rw [← B_app, ← B_of])
theorem rd107 {l : List S107} {i : Nat} (h : i < l.length) : rd_T107 l (i : Int) = l[i] := by simp [rd_T107, List.getD, h]
theorem rd111 {l : List S111} {i : Nat} (h : i < l.length) : rd_T111 l (i : Int) = l[i] := by simp [rd_T111, List.getD, h]
theorem ser107_le {a : S107} (h : ok107 a) : (ser107 a).length ≤ 460 := by
  obtain ⟨h0, h1, h2, h3, h4, h5⟩ := h
  have l0 : (encI a.f0).length ≤ 10 := enc_le (by omega)
  have l1 : (encI a.f1.f0).length ≤ 10 := enc_le (by have := h1.1; have := h1.2; omega)
  have l2 : (encI a.f1.f1).length ≤ 10 := enc_le (by have := h2.1; have := h2.2; omega)
  have l3 : (encI a.f1.f2).length ≤ 10 := enc_le (by have := h3.1; have := h3.2; omega)
  have l4 : (enc a.f1.f3.size).length ≤ 10 := enc_le (by omega)
  have l5 : (enc a.f1.f4.size).length ≤ 10 := enc_le (by omega)
  simp [ser107, encT]; omega
theorem ser111_le {a : S111} (h : ok111 a) : (ser111 a).length ≤ 20 := by
  obtain ⟨h0, h1⟩ := h
  have l0 : (encI a.f0).length ≤ 10 := enc_le (by omega)
  have l1 : (encI a.f1).length ≤ 10 := enc_le (by have := h1.1; have := h1.2; omega)
  simp [ser111]; omega
theorem w64 {i n : Nat} (h : i < n) (hn : n ≤ 200) : wrap64 ((i : Int) + 1) = ((i + 1 : Nat) : Int) := by rw [wrap_in (by omega) (by omega)]; omega
theorem bytes_l1 : ∀ (d k i : Nat) (acc : List UInt8) (g : List S111), i + d = g.length → d + 11 ≤ k → g.length ≤ 200 → (∀ a ∈ g, ok111 a) → acc.length + d * 20 ≤ 1000000 →
    edit_Edit_Bytes.l1 k (B acc) g (g.length : Int) (i : Int) = some (B (acc ++ (g.drop i).flatMap ser111), 0) := by
  intro d
  induction d with
  | zero =>
    intro k i acc g hi hk hg ho hl
    obtain ⟨k, rfl⟩ : ∃ k', k = k' + 1 := ⟨k - 1, by omega⟩
    rw [edit_Edit_Bytes.l1, if_neg (by omega), List.drop_of_length_le (by omega)]
    simp
  | succ d ih =>
    intro k i acc g hi hk hg ho hl
    obtain ⟨k, rfl⟩ : ∃ k', k = k' + 1 := ⟨k - 1, by omega⟩
    have hlt : i < g.length := by omega
    have ha := ho g[i] (List.getElem_mem hlt)
    rw [edit_Edit_Bytes.l1, if_pos (by omega), if_pos (by omega), if_pos (by omega), rd111 hlt]
    have hw : IntKind.u64.wrap (g[i]).f0 = (g[i]).f0 := by rw [IntKind.wrap_u64]; have := ha.1; omega
    rw [hw, nums_f k (by omega) _ (by
      intro x hx
      have h1 := ha.1
      have h2 := ha.2
      simp at hx
      rcases hx with rfl | rfl
      · exact ⟨h1.1, by omega⟩
      · exact h2) (by simp)]
    simp only [Option.bind_some]
    have hs := ser111_le ha
    have he : [(g[i]).f0, (g[i]).f1].flatMap encI = ser111 g[i] := by simp [ser111]
    rw [he, B_size, B_size, if_pos (by omega), B_app, w64 hlt hg, ih k (i + 1) (acc ++ ser111 g[i]) g (by omega) (by omega) hg ho (by simp; omega), List.drop_eq_getElem_cons hlt, List.flatMap_cons]
    simp only [List.append_assoc]
set_option maxRecDepth 20000 in
theorem bytes_l0 : ∀ (d k i : Nat) (acc : List UInt8) (c : List S107) (g : List S111) (x y z : Int), i + d = c.length → d + g.length + 20 ≤ k → c.length ≤ 200 → g.length ≤ 200 → (∀ a ∈ c, ok107 a) → (∀ a ∈ g, ok111 a) → acc.length + d * 460 ≤ 200000 →
    edit_Edit_Bytes.l0 k (B acc) c (c.length : Int) (i : Int) x y z c g = some (B (acc ++ ((c.drop i).flatMap ser107 ++ (enc g.length ++ g.flatMap ser111))), 0) := by
  intro d
  induction d with
  | zero =>
    intro k i acc c g x y z hi hk hc hg ho ho2 hl
    obtain ⟨k, rfl⟩ : ∃ k', k = k' + 1 := ⟨k - 1, by omega⟩
    rw [edit_Edit_Bytes.l0, if_neg (by omega), List.drop_of_length_le (by omega)]
    have hw : IntKind.u64.wrap (g.length : Int) = (g.length : Int) := by rw [IntKind.wrap_u64]; omega
    rw [hw, nums_f k (by omega) _ (by intro v hv; simp at hv; subst hv; exact ⟨by omega, by omega⟩) (by simp)]
    simp only [Option.bind_some]
    have he : [(g.length : Int)].flatMap encI = enc g.length := by simp [encI]
    have hle : (enc g.length).length ≤ 10 := enc_le (by omega)
    rw [he, B_size, B_size, if_pos (by omega), B_app]
    have := bytes_l1 g.length k 0 (acc ++ enc g.length) g (by omega) (by omega) hg ho2 (by simp; omega)
    simpa using this
  | succ d ih =>
    intro k i acc c g x y z hi hk hc hg ho ho2 hl
    obtain ⟨k, rfl⟩ : ∃ k', k = k' + 1 := ⟨k - 1, by omega⟩
    have hlt : i < c.length := by omega
    have ha := ho c[i] (List.getElem_mem hlt)
    rw [edit_Edit_Bytes.l0, if_pos (by omega), if_pos (by omega), if_pos (by omega), rd107 hlt]
    have hw : IntKind.u64.wrap (c[i]).f0 = (c[i]).f0 := by rw [IntKind.wrap_u64]; have := ha.1; omega
    obtain ⟨h0, h1, h2, h3, h4, h5⟩ := ha
    rw [hw, nums_f k (by omega) _ (by
      intro v hv
      simp at hv
      rcases hv with rfl | rfl | rfl | rfl
      · exact ⟨h0.1, by omega⟩
      · exact h1
      · exact h2
      · exact h3) (by simp), text_f k (by omega) _ (by omega), text_f k (by omega) _ (by omega)]
    simp only [Option.bind_some]
    have hs := ser107_le (a := c[i]) ⟨h0, h1, h2, h3, h4, h5⟩
    have he : ([(c[i]).f0, (c[i]).f1.f0, (c[i]).f1.f1, (c[i]).f1.f2].flatMap encI ++ encT (c[i]).f1.f3) ++ encT (c[i]).f1.f4 = ser107 c[i] := by simp [ser107]
    have hsz : ([(c[i]).f0, (c[i]).f1.f0, (c[i]).f1.f1, (c[i]).f1.f2].flatMap encI).length + (encT (c[i]).f1.f3).length + (encT (c[i]).f1.f4).length = (ser107 c[i]).length := by rw [← he]; simp; omega
    rw [B_size, B_size, if_pos (by omega), B_app, B_size, B_size, if_pos (by rw [List.length_append]; omega), B_app, he, B_size, B_size, if_pos (by omega), B_app, w64 hlt hc, ih k (i + 1) (acc ++ ser107 c[i]) c g x y z (by omega) (by omega) hc hg ho ho2 (by simp; omega), List.drop_eq_getElem_cons hlt, List.flatMap_cons]
    simp only [List.append_assoc]
/-- Of an edit that may be: its bytes. -/
theorem bytes_f (k : Nat) (hk : 1000 ≤ k) {lg nx sq : Int} {c : List S107} {g : List S111} (h : okE lg nx sq c g) (hv : edit_Edit_Check.val c g = 0) : edit_Edit_Bytes.f k lg nx sq c g = some (B (serE lg nx sq c g), 0) := by
  have hcl := h.hcl
  have hgl := h.hgl
  unfold edit_Edit_Bytes.f edit_Edit_Check.f
  simp only [Option.bind_some]
  rw [if_pos hv]
  have hw : IntKind.u64.wrap (c.length : Int) = (c.length : Int) := by rw [IntKind.wrap_u64]; omega
  rw [hw, nums_f k (by omega) _ (by
    intro v hv
    simp at hv
    rcases hv with rfl | rfl | rfl | rfl
    · exact h.hlg
    · exact h.hnx
    · exact h.hsq
    · exact ⟨by omega, by omega⟩) (by simp)]
  simp only [Option.bind_some]
  have l1 : (encI lg).length ≤ 10 := enc_le (by have := h.hlg.1; have := h.hlg.2; omega)
  have l2 : (encI nx).length ≤ 10 := enc_le (by have := h.hnx.1; have := h.hnx.2; omega)
  have l3 : (encI sq).length ≤ 10 := enc_le (by have := h.hsq.1; have := h.hsq.2; omega)
  have l4 : (enc c.length).length ≤ 10 := enc_le (by omega)
  have he : [lg, nx, sq, (c.length : Int)].flatMap encI = encI lg ++ (encI nx ++ (encI sq ++ enc c.length)) := by simp [encI]
  rw [he]
  have := bytes_l0 c.length k 0 (encI lg ++ (encI nx ++ (encI sq ++ enc c.length))) c g lg nx sq (by omega) (by omega) hcl hgl h.hc h.hg (by simp; omega)
  rw [show ((0 : Nat) : Int) = 0 from rfl] at this
  rw [this]
  simp [serE]
theorem bytes_bad (k : Nat) {lg nx sq : Int} {c : List S107} {g : List S111} (hv : edit_Edit_Check.val c g ≠ 0) : edit_Edit_Bytes.f k lg nx sq c g = some (⟨#[]⟩, edit_Edit_Check.val c g) := by
  unfold edit_Edit_Bytes.f edit_Edit_Check.f
  simp only [Option.bind_some]
  rw [if_neg hv]
end Go.Proofs.YteilnbnnhocciaaDoor.E

/- The plain law of EditBack. -/
set_option linter.unusedVariables false
namespace Go.Proofs.YteilnbnnhocciaaDoor.E
open Go.RowKit Go.Proofs.YteilnbnnhocciaaDoorW.PrintWords Go.Proofs.YteilnbnnhocciaaDoorW.PrintMore Go.Proofs.YteilnbnnhocciaaDoorM Go.Proofs.YteilnbnnhocciaaDoor.K
/-- What an argument's files hold in any case. -/
def arg107 (a : S107) : Prop := u64 a.f1.f0 ∧ u64 a.f1.f1 ∧ u64 a.f1.f2
def arg111 (a : S111) : Prop := u64 a.f1
theorem wrong_zero {lv num : Int} {l m : ByteArray} (h : edit_wrong.val lv num l m = 0) : (0 ≤ lv ∧ lv < 4) ∧ l.size ≤ 200 ∧ m.size ≤ 200 := by
  unfold edit_wrong.val at h
  by_cases h1 : edit_levelB lv = false
  · rw [if_pos h1] at h; cases h
  · rw [if_neg h1] at h
    by_cases h2 : (edit_keyedB l && edit_keyedB m && !Op.bytesLess m.toList l.toList) = false
    · rw [if_pos h2] at h; cases h
    · have h3 : edit_levelB lv = true := by simpa using h1
      have h4 : (edit_keyedB l && edit_keyedB m && !Op.bytesLess m.toList l.toList) = true := by
        revert h2
        cases (edit_keyedB l && edit_keyedB m && !Op.bytesLess m.toList l.toList) <;> simp
      simp only [Bool.and_eq_true] at h4
      obtain ⟨⟨k1, k2⟩, _⟩ := h4
      exact ⟨of_decide_eq_true h3, (of_decide_eq_true k1).2, (of_decide_eq_true k2).2⟩
theorem first_zero : ∀ {c : List S107}, edit_firstWrong c = 0 → ∀ a ∈ c, edit_wrong.val a.f0 a.f1.f0 a.f1.f3 a.f1.f4 = 0 := by
  intro c
  induction c with
  | nil => intro _ a ha; cases ha
  | cons b c ih =>
    intro h a ha
    rw [edit_firstWrong] at h
    by_cases hb : edit_wrong.val b.f0 b.f1.f0 b.f1.f3 b.f1.f4 = 0
    · rw [if_pos hb] at h
      rcases List.mem_cons.1 ha with rfl | ha
      · exact hb
      · exact ih h a ha
    · rw [if_neg hb] at h; exact absurd h hb
theorem check_ok {lg nx sq : Int} {c : List S107} {g : List S111} (h : edit_Edit_Check.val c g = 0) (h1 : u64 lg) (h2 : u64 nx) (h3 : u64 sq) (hc : ∀ a ∈ c, arg107 a) (hg : ∀ a ∈ g, arg111 a) : okE lg nx sq c g := by
  unfold edit_Edit_Check.val at h
  by_cases k1 : 200 < c.length ∨ 200 < g.length
  · rw [if_pos k1] at h; cases h
  · rw [if_neg k1] at h
    by_cases k2 : edit_firstWrong c ≠ 0
    · rw [if_pos k2] at h; exact absurd h k2
    · rw [if_neg k2] at h
      by_cases k3 : g.any edit_goneB = true
      · rw [if_pos k3] at h; cases h
      · refine ⟨h1, h2, h3, fun a ha => ?_, fun a ha => ?_, by omega, by omega⟩
        · obtain ⟨l1, l2, l3⟩ := wrong_zero (first_zero (by simpa using k2) a ha)
          obtain ⟨m1, m2, m3⟩ := hc a ha
          exact ⟨l1, m1, m2, m3, l2, l3⟩
        · have : edit_goneB a = false := by
            cases hb : edit_goneB a
            · rfl
            · exact absurd (List.any_eq_true.2 ⟨a, ha, hb⟩) k3
          have h4 : edit_levelB a.f0 = true := by simpa [edit_goneB] using this
          exact ⟨of_decide_eq_true h4, hg a ha⟩
theorem s107_ext {a b : S107} (h0 : a.f0 = b.f0) (h1 : a.f1.f0 = b.f1.f0) (h2 : a.f1.f1 = b.f1.f1) (h3 : a.f1.f2 = b.f1.f2) (h4 : a.f1.f3 = b.f1.f3) (h5 : a.f1.f4 = b.f1.f4) : a = b := by
  cases a with | mk a0 a1 => cases a1; cases b with | mk b0 b1 => cases b1; simp_all
theorem s111_ext {a b : S111} (h0 : a.f0 = b.f0) (h1 : a.f1 = b.f1) : a = b := by
  cases a; cases b; simp_all
theorem tl_eq {s t : ByteArray} : s.toList = t.toList ↔ s = t := by
  rw [ByteArray.toList_eq, ByteArray.toList_eq]
  exact ⟨list_ext, fun h => by rw [h]⟩
theorem at_l0 : ∀ (d k i : Nat) (x y : List S107), i + d = x.length → y.length = x.length → d < k → x.length ≤ 9223372036854775807 → ∃ b, edit_At.l0 k x y (x.length : Int) (i : Int) = some b ∧ (b = true ↔ x.drop i = y.drop i) := by
  intro d
  induction d with
  | zero =>
    intro k i x y hi hy hk hx
    obtain ⟨k, rfl⟩ : ∃ k', k = k' + 1 := ⟨k - 1, by omega⟩
    refine ⟨true, by rw [edit_At.l0, if_neg (by omega)], ?_⟩
    rw [List.drop_of_length_le (by omega), List.drop_of_length_le (by omega)]
    simp
  | succ d ih =>
    intro k i x y hi hy hk hx
    obtain ⟨k, rfl⟩ : ∃ k', k = k' + 1 := ⟨k - 1, by omega⟩
    have h1 : i < x.length := by omega
    have h2 : i < y.length := by omega
    obtain ⟨b, hb, hiff⟩ := ih k (i + 1) x y (by omega) hy (by omega) hx
    rw [edit_At.l0, if_pos (by omega), if_pos (by omega), if_pos (by omega), if_pos (by omega), rd107 h1, rd107 h2, List.drop_eq_getElem_cons h1, List.drop_eq_getElem_cons h2]
    generalize hA : x[i] = A
    generalize hB : y[i] = C
    by_cases he : A = C
    · subst he
      refine ⟨b, ?_, by rw [hiff]; simp⟩
      rw [if_neg (by simp), wrap_in (by omega) (by omega), show (i : Int) + 1 = ((i + 1 : Nat) : Int) by omega]
      exact hb
    · refine ⟨false, ?_, by simp [he]⟩
      rw [if_pos]
      by_cases g0 : A.f0 = C.f0
      · by_cases g1 : A.f1.f0 = C.f1.f0
        · by_cases g2 : A.f1.f1 = C.f1.f1
          · by_cases g3 : A.f1.f2 = C.f1.f2
            · by_cases g4 : A.f1.f3.toList = C.f1.f3.toList
              · by_cases g5 : A.f1.f4.toList = C.f1.f4.toList
                · exact absurd (s107_ext g0 g1 g2 g3 (tl_eq.1 g4) (tl_eq.1 g5)) he
                · simp only [Bool.or_eq_true]; exact .inr (.inr (.inr (.inr (.inr (by simpa using g5)))))
              · simp only [Bool.or_eq_true]; exact .inr (.inr (.inr (.inr (.inl (by simpa using g4)))))
            · simp only [Bool.or_eq_true]; exact .inr (.inr (.inr (.inl (by simpa using g3))))
          · simp only [Bool.or_eq_true]; exact .inr (.inr (.inl (by simpa using g2)))
        · simp only [Bool.or_eq_true]; exact .inr (.inl (by simpa using g1))
      · simp only [Bool.or_eq_true]; exact .inl (by simpa using g0)
theorem gone_l0 : ∀ (d k i : Nat) (x y : List S111), i + d = x.length → y.length = x.length → d < k → x.length ≤ 9223372036854775807 → ∃ b, edit_Gone.l0 k x y (x.length : Int) (i : Int) = some b ∧ (b = true ↔ x.drop i = y.drop i) := by
  intro d
  induction d with
  | zero =>
    intro k i x y hi hy hk hx
    obtain ⟨k, rfl⟩ : ∃ k', k = k' + 1 := ⟨k - 1, by omega⟩
    refine ⟨true, by rw [edit_Gone.l0, if_neg (by omega)], ?_⟩
    rw [List.drop_of_length_le (by omega), List.drop_of_length_le (by omega)]
    simp
  | succ d ih =>
    intro k i x y hi hy hk hx
    obtain ⟨k, rfl⟩ : ∃ k', k = k' + 1 := ⟨k - 1, by omega⟩
    have h1 : i < x.length := by omega
    have h2 : i < y.length := by omega
    obtain ⟨b, hb, hiff⟩ := ih k (i + 1) x y (by omega) hy (by omega) hx
    rw [edit_Gone.l0, if_pos (by omega), if_pos (by omega), if_pos (by omega), if_pos (by omega), rd111 h1, rd111 h2, List.drop_eq_getElem_cons h1, List.drop_eq_getElem_cons h2]
    generalize hA : x[i] = A
    generalize hB : y[i] = C
    by_cases he : A = C
    · subst he
      refine ⟨b, ?_, by rw [hiff]; simp⟩
      rw [if_neg (by simp), wrap_in (by omega) (by omega), show (i : Int) + 1 = ((i + 1 : Nat) : Int) by omega]
      exact hb
    · refine ⟨false, ?_, by simp [he]⟩
      rw [if_pos]
      by_cases g0 : A.f0 = C.f0
      · by_cases g1 : A.f1 = C.f1
        · exact absurd (s111_ext g0 g1) he
        · simp only [Bool.or_eq_true]; exact .inr (by simpa using g1)
      · simp only [Bool.or_eq_true]; exact .inl (by simpa using g0)
theorem same_f (k : Nat) (a b c : Int) (l : List S107) (g : List S111) (a' b' c' : Int) (l' : List S107) (g' : List S111) (hl : l.length ≤ 9223372036854775807) (hg : g.length ≤ 9223372036854775807) (hk : l.length + g.length < k) :
    ∃ r, edit_Same.f k a b c l g a' b' c' l' g' = some r ∧ (r = true ↔ a = a' ∧ b = b' ∧ c = c' ∧ l = l' ∧ g = g') := by
  unfold edit_Same.f
  by_cases h1 : a = a'
  · rw [if_pos h1]
    by_cases h2 : b = b'
    · rw [if_pos h2]
      by_cases h3 : c = c'
      · rw [if_pos h3]
        have hA : ∃ r, edit_At.f k l l' = some r ∧ (r = true ↔ l = l') := by
          unfold edit_At.f
          by_cases h : (l.length : Int) = (l'.length : Int)
          · rw [if_pos h]
            have := at_l0 l.length k 0 l l' (by omega) (by omega) (by omega) hl
            simpa using this
          · rw [if_neg h]; exact ⟨false, rfl, by constructor; (intro h; cases h); (intro h2; subst h2; exact absurd rfl h)⟩
        have hG : ∃ r, edit_Gone.f k g g' = some r ∧ (r = true ↔ g = g') := by
          unfold edit_Gone.f
          by_cases h : (g.length : Int) = (g'.length : Int)
          · rw [if_pos h]
            have := gone_l0 g.length k 0 g g' (by omega) (by omega) (by omega) hg
            simpa using this
          · rw [if_neg h]; exact ⟨false, rfl, by constructor; (intro h; cases h); (intro h2; subst h2; exact absurd rfl h)⟩
        obtain ⟨r, hr, hri⟩ := hA
        obtain ⟨r2, hr2, hri2⟩ := hG
        rw [hr]
        simp only [Option.bind_some]
        by_cases ht : r = true
        · rw [if_pos ht, hr2]
          exact ⟨r2, rfl, by rw [hri2]; simp [h1, h2, h3, hri.1 ht]⟩
        · rw [if_neg ht]
          exact ⟨false, rfl, by constructor; (intro h; cases h); (intro h; exact absurd (hri.2 h.2.2.2.1) ht)⟩
      · rw [if_neg h3]; exact ⟨false, rfl, by simp [h3]⟩
    · rw [if_neg h2]; exact ⟨false, rfl, by simp [h2]⟩
  · rw [if_neg h1]; exact ⟨false, rfl, by simp [h1]⟩
theorem light_l0 : ∀ (d k i : Nat) (x : List S107) (u v w : Int) (c : List S107) (g : List S111), i + d = x.length → d < k → x.length ≤ 9223372036854775807 → ∃ b, bourselaw12_Light.l0 k x (x.length : Int) (i : Int) u v w c g = some b := by
  intro d
  induction d with
  | zero =>
    intro k i x u v w c g hi hk hx
    obtain ⟨k, rfl⟩ : ∃ k', k = k' + 1 := ⟨k - 1, by omega⟩
    rw [bourselaw12_Light.l0, if_neg (by omega)]
    split <;> exact ⟨_, rfl⟩
  | succ d ih =>
    intro k i x u v w c g hi hk hx
    obtain ⟨k, rfl⟩ : ∃ k', k = k' + 1 := ⟨k - 1, by omega⟩
    rw [bourselaw12_Light.l0, if_pos (by omega), if_pos (by omega), if_pos (by omega)]
    split
    · exact ⟨_, rfl⟩
    · split
      · exact ⟨_, rfl⟩
      · rw [wrap_in (by omega) (by omega), show (i : Int) + 1 = ((i + 1 : Nat) : Int) by omega]
        exact ih k (i + 1) x u v w c g (by omega) (by omega) hx
theorem light_f (k : Nat) (u v w : Int) (c : List S107) (g : List S111) (hk : c.length < k) (hc : c.length ≤ 9223372036854775807) : ∃ b, bourselaw12_Light.f k u v w c g = some b := light_l0 c.length k 0 c u v w c g (by omega) hk hc
theorem flat_le {α : Type} (f : α → List UInt8) (n : Nat) : ∀ l : List α, (∀ a ∈ l, (f a).length ≤ n) → (l.flatMap f).length ≤ l.length * n := by
  intro l
  induction l with
  | nil => simp
  | cons a l ih =>
    intro h
    have h1 := h a (by simp)
    have h2 := ih (fun b hb => h b (by simp [hb]))
    rw [List.flatMap_cons, List.length_append, List.length_cons, Nat.succ_mul]
    omega
theorem serE_le {lg nx sq : Int} {c : List S107} {g : List S111} (h : okE lg nx sq c g) : (serE lg nx sq c g).length ≤ 140737488351232 := by
  have l1 : (encI lg).length ≤ 10 := enc_le (by have := h.hlg.1; have := h.hlg.2; omega)
  have l2 : (encI nx).length ≤ 10 := enc_le (by have := h.hnx.1; have := h.hnx.2; omega)
  have l3 : (encI sq).length ≤ 10 := enc_le (by have := h.hsq.1; have := h.hsq.2; omega)
  have hcl := h.hcl
  have hgl := h.hgl
  have l4 : (enc c.length).length ≤ 10 := enc_le (by omega)
  have l5 : (enc g.length).length ≤ 10 := enc_le (by omega)
  have l6 := flat_le ser107 460 c (fun a ha => ser107_le (h.hc a ha))
  have l7 := flat_le ser111 20 g (fun a ha => ser111_le (h.hg a ha))
  simp only [serE, List.length_append]
  omega
theorem parse_back {lg nx sq : Int} {c : List S107} {g : List S111} (h : okE lg nx sq c g) (hv : edit_Edit_Check.val c g = 0) : edit_Parse.f (B (serE lg nx sq c g)) = some (lg, nx, sq, c, g, 0) :=
  parse_comp _ (by rw [B_size]; exact serE_le h) h (B_data _) hv
theorem serE_inj {a b d a' b' d' : Int} {c c' : List S107} {g g' : List S111} (h : okE a b d c g) (h' : okE a' b' d' c' g') (hv : edit_Edit_Check.val c g = 0) (hv' : edit_Edit_Check.val c' g' = 0) (he : serE a b d c g = serE a' b' d' c' g') : a = a' ∧ b = b' ∧ d = d' ∧ c = c' ∧ g = g' := by
  have h1 := parse_back h hv
  rw [he, parse_back h' hv'] at h1
  simp only [Option.some.injEq, Prod.mk.injEq] at h1
  obtain ⟨e1, e2, e3, e4, e5, _⟩ := h1
  exact ⟨e1.symm, e2.symm, e3.symm, e4.symm, e5.symm⟩
theorem law_j2 (k : Nat) (hk : 1000 ≤ k) (s : ByteArray) (hs : s.size ≤ 140737488351232) : bourselaw12_EditBack.j2 (k + 1) s false = some true := by
  rw [bourselaw12_EditBack.j2, if_neg (by simp)]
  obtain ⟨lg, nx, sq, c, g, err, hp, h0, h1⟩ := parse_total s hs
  rw [hp]
  simp only [Option.bind_some]
  by_cases he : err = 0
  · obtain ⟨ho, hL, hv⟩ := h0 he
    rw [bytes_f k hk ho hv]
    simp only [Option.bind_some]
    rw [if_pos he, if_pos (by trivial)]
    have : B (serE lg nx sq c g) = s := by rw [← hL]; exact (B_of s).symm
    rw [this]
    simp
  · obtain ⟨rfl, rfl, rfl, rfl, rfl⟩ := h1 he
    have hv : edit_Edit_Check.val [] [] = 0 := rfl
    have hz : u64 0 := ⟨by decide, by decide⟩
    rw [bytes_f k hk (check_ok hv hz hz hz (by simp) (by simp)) hv]
    simp only [Option.bind_some]
    rw [if_neg he]
    obtain ⟨r, hr, hri⟩ := same_f k 0 0 0 [] [] 0 0 0 [] [] (by simp) (by simp) (by simp; omega)
    rw [hr]
    simp only [Option.bind_some]
    rw [if_pos (hri.2 ⟨rfl, rfl, rfl, rfl, rfl⟩)]
theorem law_j1 (k : Nat) (hk : 1000 ≤ k) (s : ByteArray) (hs : s.size ≤ 140737488351232) (a b d a' b' d' : Int) (c c' : List S107) (g g' : List S111) (t : ByteArray) (x : Int)
    (hA : (edit_Edit_Check.val c g = 0 ∧ okE a b d c g ∧ t = B (serE a b d c g) ∧ x = 0) ∨ x ≠ 0) (hB : edit_Edit_Check.val c' g' = 0 → okE a' b' d' c' g') :
    bourselaw12_EditBack.j1 (k + 2) s t x a b d c g a' b' d' c' g' = some true := by
  rw [bourselaw12_EditBack.j1]
  by_cases hv' : edit_Edit_Check.val c' g' = 0
  · have ho' := hB hv'
    rw [bytes_f (k + 1) (by omega) ho' hv']
    simp only [Option.bind_some]
    rcases hA with ⟨hv, ho, rfl, rfl⟩ | hx
    · rw [if_pos (by trivial), if_pos (by trivial)]
      have hcl := ho.hcl
      have hgl := ho.hgl
      obtain ⟨r, hr, hri⟩ := same_f (k + 1) a b d c g a' b' d' c' g' (by omega) (by omega) (by omega)
      rw [hr]
      simp only [Option.bind_some]
      have hbb : (r != ((B (serE a b d c g)).toList == (B (serE a' b' d' c' g')).toList)) = false := by
        cases r with
        | true =>
          obtain ⟨rfl, rfl, rfl, rfl, rfl⟩ := hri.1 rfl
          simp
        | false =>
          have : ¬ (B (serE a b d c g)).toList = (B (serE a' b' d' c' g')).toList := by
            intro h
            rw [ByteArray.toList_eq, ByteArray.toList_eq, B_data, B_data] at h
            have := hri.2 (serE_inj ho ho' hv hv' h)
            cases this
          simpa using this
      rw [hbb]
      exact law_j2 k hk s hs
    · rw [if_neg hx]
      exact law_j2 k hk s hs
  · rw [bytes_bad (k + 1) hv']
    simp only [Option.bind_some]
    by_cases hx : x = 0
    · rw [if_pos hx, if_neg hv']; exact law_j2 k hk s hs
    · rw [if_neg hx]; exact law_j2 k hk s hs
theorem law_j0 (k : Nat) (hk : 1000 ≤ k) (s : ByteArray) (hs : s.size ≤ 140737488351232) (q : Bool) (a b d a' b' d' : Int) (c c' : List S107) (g g' : List S111)
    (hA : edit_Edit_Check.val c g = 0 → okE a b d c g) (hB : edit_Edit_Check.val c' g' = 0 → okE a' b' d' c' g') :
    bourselaw12_EditBack.j0 (k + 3) s q a b d c g a' b' d' c' g' = some true := by
  rw [bourselaw12_EditBack.j0]
  by_cases hq : q = true
  · rw [if_pos hq]
  · rw [if_neg hq]
    by_cases hv : edit_Edit_Check.val c g = 0
    · have ho := hA hv
      rw [bytes_f (k + 2) (by omega) ho hv]
      simp only [Option.bind_some]
      rw [if_pos (by trivial), parse_back ho hv]
      simp only [Option.bind_some]
      rw [if_pos (by trivial)]
      have hcl := ho.hcl
      have hgl := ho.hgl
      obtain ⟨r, hr, hri⟩ := same_f (k + 2) a b d c g a b d c g (by omega) (by omega) (by omega)
      rw [hr]
      simp only [Option.bind_some]
      rw [if_pos (hri.2 ⟨rfl, rfl, rfl, rfl, rfl⟩)]
      exact law_j1 k hk s hs _ _ _ _ _ _ _ _ _ _ _ _ (.inl ⟨hv, ho, rfl, rfl⟩) hB
    · rw [bytes_bad (k + 2) hv]
      simp only [Option.bind_some]
      rw [if_neg hv]
      exact law_j1 k hk s hs _ _ _ _ _ _ _ _ _ _ _ _ (.inr hv) hB
/-- EditBack, for whatever is handed in. -/
theorem editBack (a b d a' b' d' : Int) (c c' : List S107) (g g' : List S111) (s : ByteArray) (hs : s.size ≤ 140737488351232) (h1 : u64 a) (h2 : u64 b) (h3 : u64 d) (hc : ∀ x ∈ c, arg107 x) (hg : ∀ x ∈ g, arg111 x)
    (h1' : u64 a') (h2' : u64 b') (h3' : u64 d') (hc' : ∀ x ∈ c', arg107 x) (hg' : ∀ x ∈ g', arg111 x) (hl : c.length ≤ 9223372036854775807) (hl' : c'.length ≤ 9223372036854775807) :
    ∃ k, bourselaw12_EditBack.f k a b d c g a' b' d' c' g' s = some true := by
  refine ⟨c.length + c'.length + 1000 + 3, ?_⟩
  unfold bourselaw12_EditBack.f bourselaw12_awake.f
  simp only [Option.bind_some]
  rw [if_pos (by trivial)]
  obtain ⟨x, hx⟩ := light_f (c.length + c'.length + 1000 + 3) a b d c g (by omega) hl
  obtain ⟨y, hy⟩ := light_f (c.length + c'.length + 1000 + 3) a' b' d' c' g' (by omega) hl'
  have hj := fun q => law_j0 (c.length + c'.length + 1000) (by omega) s hs q a b d a' b' d' c c' g g' (fun hv => check_ok hv h1 h2 h3 hc hg) (fun hv => check_ok hv h1' h2' h3' hc' hg')
  rw [hx]
  simp only [Option.bind_some]
  split
  · rw [hy]
    simp only [Option.bind_some]
    split
    · exact hj _
    · exact hj _
  · exact hj _

end Go.Proofs.YteilnbnnhocciaaDoor.E

/- EditBack's row: the arguments read as elements of the printed kinds, the walk tells the law's function, the plain law says it is true. -/
set_option linter.unusedVariables false
namespace Go.Proofs.YteilnbnnhocciaaDoor.R4
open Go.ChangeShapes Go.WideShapes Go.ChangeAt Go.RowKit Go.Lib Go.Shelf
open Go.ChangeMaps (open_string shut_string)
open Go.Proofs.YteilnbnnhocciaaDoorM Go.Proofs.YteilnbnnhocciaaDoorW.PrintWords Go.Proofs.YteilnbnnhocciaaDoor.K Go.Proofs.YteilnbnnhocciaaDoor.E

theorem own : ownKnob Tryd.prog.godebug = none := by kernel_rfl
theorem laidOut : laidOutB Tryd.prog = true := by kernel_rfl

/-- A table of integers, as cells. -/
def cellsOfData : DataW Unit → Array Value
  | .agg l => (l.map fun
    | .lit (.int k n) => Value.int k n
    | _ => Value.bool false).toArray
  | _ => #[]
/-- The witness: the three tables laid. -/
noncomputable def laidWorld (os : Os) : World :=
  let w0 := World.holding Tryd.prog os ⟨#[], #[], []⟩
  let put (h : Array Obj) (g : Nat) (cs : Array Value) : Array Obj := h.modify g fun
    | .cells _ t frozen => .cells cs t frozen
    | o => o
  { w0 with heap := put (put (put w0.heap 2 (cellsOfData Rows.laid_internal_strconv_uint64pow10)) 4 (cellsOfData Rows.laid_math_bits_deBruijn32tab)) 5 (cellsOfData Rows.laid_math_bits_deBruijn64tab) }

theorem laid_met (os : Os) (args : Array Value) : laidMet Tryd.prog Rows.editBackRow.laid ((laidWorld os).forCall (fun _ _ => 0) ⟨#[], args, []⟩).memory :=
  (LaidIn.of_run [2, 4, 5] 8 (by kernel_rfl) (by kernel_rfl) (by kernel_rfl) (by kernel_rfl)).met

def w64 (n : Int) : Prop := (Lit.int .u64 n).wf = true
theorem u64_of {n : Int} (h : w64 n) : u64 n := by
  simp [w64, Lit.wf, IntKind.min, IntKind.max, IntKind.signed, IntKind.bits] at h
  exact ⟨by omega, by omega⟩
section
attribute [local irreducible] Opens OpensF
set_option maxRecDepth 10000
theorem opens97 : Opens Tryd.prog 97 k97 (fun x => w64 x.f0 ∧ w64 x.f1 ∧ w64 x.f2) := by
  unfold k97
  refine (Opens.iso (opens_struct Tryd.underlying97 (by kernel_rfl) (opensF_cons (opens_int Tryd.underlying22) rfl (by kernel_rfl) (opensF_cons (opens_int Tryd.underlying22) rfl (by kernel_rfl) (opensF_cons (opens_int Tryd.underlying22) rfl (by kernel_rfl)
    (opensF_cons (opens_string Tryd.underlying9) rfl (by kernel_rfl) (opensF_one (opens_string Tryd.underlying9) rfl (by kernel_rfl))))))) _ (fun a => ⟨a.1, a.2.1, a.2.2.1, a.2.2.2.1, a.2.2.2.2⟩) (fun _ => rfl)).good ?_
  rintro x ⟨h1, h2, h3, _⟩
  exact ⟨h1, h2, h3⟩
theorem opens107 : Opens Tryd.prog 107 k107 arg107 := by
  unfold k107
  refine (Opens.iso (opens_struct Tryd.underlying107 (by kernel_rfl) (opensF_cons (opens_int Tryd.underlying3) rfl (by kernel_rfl) (opensF_one opens97 rfl (by kernel_rfl)))) _ (fun a => ⟨a.1, a.2⟩) (fun _ => rfl)).good ?_
  rintro x ⟨_, h1, h2, h3⟩
  exact ⟨u64_of h1, u64_of h2, u64_of h3⟩
theorem opens111 : Opens Tryd.prog 111 k111 arg111 := by
  unfold k111
  refine (Opens.iso (opens_struct Tryd.underlying111 (by kernel_rfl) (opensF_cons (opens_int Tryd.underlying3) rfl (by kernel_rfl) (opensF_one (opens_int Tryd.underlying22) rfl (by kernel_rfl)))) _ (fun a => ⟨a.1, a.2⟩) (fun _ => rfl)).good ?_
  rintro x ⟨_, h1⟩
  exact u64_of h1
def k26 : Kd (Int × Int × Int × List S107 × List S111) := Kd.pair (Kd.int .u64) (Kd.pair (Kd.int .u64) (Kd.pair (Kd.int .u64) (Kd.pair (Kd.slice 107 k107) (Kd.slice 111 k111))))
theorem opens26 : Opens Tryd.prog 26 k26 (fun x => w64 x.1 ∧ w64 x.2.1 ∧ w64 x.2.2.1 ∧ (∀ a ∈ x.2.2.2.1, arg107 a) ∧ ∀ a ∈ x.2.2.2.2, arg111 a) :=
  opens_struct Tryd.underlying26 (by kernel_rfl) (opensF_cons (opens_int Tryd.underlying22) rfl (by kernel_rfl) (opensF_cons (opens_int Tryd.underlying22) rfl (by kernel_rfl) (opensF_cons (opens_int Tryd.underlying22) rfl (by kernel_rfl)
    (opensF_cons (opens_slice Tryd.underlying23 (by kernel_rfl) opens107) rfl (by kernel_rfl) (opensF_one (opens_slice Tryd.underlying24 (by kernel_rfl) opens111) rfl (by kernel_rfl))))))
end
set_option maxRecDepth 100000 in
/-- An edit that is handed in, laid open. -/
theorem open26 {H : Type} {enc : TypeId × Value → H} {W : World} {base base' : Nat} {sp : Nat → Bool} {held : Bool} {v : Value} {d : DataW H} {p : List MemPlace}
    (hv : Value.okWide Tryd.prog W .any base 26 v) (h : DataW.Trod enc Tryd.prog W base' sp held 26 v d p) :
    ∃ (a b e : Int) (A : Option Addr) (c : Nat) (l : List S107) (A' : Option Addr) (c' : Nat) (l' : List S111), v = .agg #[.int .u64 a, .int .u64 b, .int .u64 e, .slice A l.length c, .slice A' l'.length c'] ∧
      u64 a ∧ u64 b ∧ u64 e ∧ (∀ x ∈ l, arg107 x) ∧ (∀ x ∈ l', arg111 x) ∧ Kd.C k107 W A l.length l ∧ l.length ≤ c ∧ Kd.C k111 W A' l'.length l' ∧ l'.length ≤ c' := by
  obtain ⟨cs, rfl, _⟩ := okWide_struct Tryd.underlying26 hv
  obtain ⟨m, hm⟩ := h
  obtain ⟨⟨a, b, e, l, l'⟩, hK, hG⟩ := opens26 enc W base' sp held m _ _ hm
  obtain ⟨g1, g2, g3, g4, g5⟩ := hG
  obtain ⟨_, _, hcs, rfl, _, _, rfl, rfl, _, _, rfl, rfl, _, _, rfl, ⟨A, c, rfl, hl, hC⟩, ⟨A', c', rfl, hl', hC'⟩⟩ := hK
  refine ⟨a, b, e, A, c, l, A', c', l', ?_, u64_of g1, u64_of g2, u64_of g3, g4, g5, hC, hl, hC', hl'⟩
  simp only [Value.cells] at hcs
  obtain ⟨cs⟩ := cs
  simp at hcs
  subst hcs
  rfl

set_option maxRecDepth 100000 in
theorem lifted (os : Os) (started : os.Started) (H : Type) (enc : TypeId × Value → H) :
    ReturnsInHanded {} Tryd.checked os 4 .any (fun w args => (Rows.editBackSpec.pre enc Tryd.prog Tryd.f4 [] false w args ∧ laidMet Tryd.prog Rows.editBackRow.laid w) ∧ sizedMet enc Tryd.prog Tryd.f4 (OpenSpec.ofChange Rows.editBackSpec) false w args)
      (Rows.editBackSpec.post enc Tryd.prog Tryd.f4 false true false false) := by
  refine returnsInHanded_of_change_and (C := Tryd.checked) (X := fun w _ => laidMet Tryd.prog Rows.editBackRow.laid w) (fun _ _ _ hh h => h.of_heap hh) own started (by kernel_rfl) Tryd.func4
    (ChangeSpec.witness_at (enc := enc) (C := Tryd.checked) (os := os) (X := fun w _ => laidMet Tryd.prog Rows.editBackRow.laid w) false (laidWorld os)
      #[.agg #[.int .u64 0, .int .u64 0, .int .u64 0, .slice none 0 0, .slice none 0 0], .agg #[.int .u64 0, .int .u64 0, .int .u64 0, .slice none 0 0, .slice none 0 0], .string ByteArray.empty] 8
      rfl (by kernel_rfl) (by kernel_rfl) (by kernel_rfl) (by kernel_rfl) (by kernel_rfl) (laid_met os _)) ?_
  intro W base args ds gs before hval0 hW hcnd hsz0 _ _
  have hsz : (DataW.weightsEach Tryd.prog (Tryd.f4.params.toList ++ Rows.editBackSpec.plain.varTypes Tryd.prog) (ds ++ gs)).all (· ≤ reachBytes) = true := hsz0
  have hval : ∀ (j : Nat) t v, Tryd.f4.params[j]? = some t → args[j]? = some v → Value.okWide Tryd.prog W .any base t v := hval0
  have hW' := hW
  obtain ⟨p, q, hA0, hV, rfl, hfz, hnd⟩ := hW
  have hA : DataW.TrodAll enc Tryd.prog W 0 (fun _ => true) true Tryd.f4.params.toList args.toList ds p := hA0
  rw [Tryd.params4] at hA hval hsz
  obtain ⟨v0, v1, v2, d0, d1, d2, p0, p1, p2, rfl, rfl, rfl, h0, h1, h2⟩ := trodAll_three hA
  obtain ⟨rfl, rfl⟩ := trodVars_none hV
  have hk0 := h0
  have hk1 := h1
  have lt0 : ∀ x ∈ p0, x.block < W.heap.size := by obtain ⟨m, hm⟩ := hk0; exact DataW.trod_lt m _ _ _ hm
  have lt1 : ∀ x ∈ p1, x.block < W.heap.size := by obtain ⟨m, hm⟩ := hk1; exact DataW.trod_lt m _ _ _ hm
  obtain ⟨a, b, e, A, c, l, A', c', l', rfl, ha, hb, he, hl, hl', hC, hc, hC', hc'⟩ := open26 (hval 0 26 v0 rfl rfl) h0
  obtain ⟨x, y, z, B, f, g, B', f', g', rfl, hx, hy, hz, hg, hg', hD, hf, hD', hf'⟩ := open26 (hval 1 26 v1 rfl rfl) h1
  obtain ⟨s, rfl, rfl, rfl, hs⟩ := open_string Tryd.underlying9 (hval 2 9 v2 rfl rfl) h2
  have ws : s.size ≤ 140737488351232 := by
    have z := sized_string hsz (j := 2) (t := 9) rfl rfl
    rw [Array.length_toList] at z
    exact z
  clear hA0 hval0 hsz0 hsz
  obtain ⟨k, hr⟩ := editBack a b e x y z l g l' g' s ws ha hb he hl hl' hx hy hz hg hg' (Kd.C_max hC) (Kd.C_max hD)
  refine (bourselaw12_EditBack.calls k a b e A c l A' c' l' x y z B f g B' f' g' s true W hC hc hC' hc' hD hf hD' hf' hr).mono ?_
  rintro r W' ⟨rfl, bel⟩
  exact ⟨_, rfl, _, _, _, [], _, [], hW', trodAll_mk1 (shut_bool Tryd.underlying4 _), (trodAll_cons_mk (Below.trod laidOut (by kernel_rfl) (of_decide_eq_true (by kernel_rfl)) hk0 bel lt0) (trodAll_cons_mk (Below.trod laidOut (by kernel_rfl) (of_decide_eq_true (by kernel_rfl)) hk1 bel lt1) (trodAll_cons_mk (shut_string Tryd.underlying9 hs) trodAll_mk0))), rfl, bel.frame _, fun h => by cases h⟩

theorem over : Rows.editBackRow.holds Tryd.pinned (OpenSpec.ofChange Rows.editBackSpec) :=
  OpenClaim.holds_of_wide 4 Tryd.f4 rfl rfl rfl rfl rfl rfl rfl ⟨rfl, rfl, rfl, rfl, rfl⟩ rfl rfl rfl rfl rfl (by kernel_rfl) Tryd.func4 (by kernel_rfl) (of_decide_eq_true (by kernel_rfl))
    (by unfold Func.isWrapper; first | (rw [if_pos (by decide +kernel)]; kernel_rfl) | (rw [if_neg (by decide +kernel)]; exact ⟨rfl, rfl⟩))
    (fun os started H enc _ => lifted os started H enc)
end Go.Proofs.YteilnbnnhocciaaDoor.R4
namespace Go.Proofs.YteilnbnnhocciaaDoor
theorem editBack_holds : Rows.EditBackSaid := R4.over
end Go.Proofs.YteilnbnnhocciaaDoor

/- EditBack's card: the row, its tables tied to the program's text by the given tie. -/
namespace Go.Proofs.YteilnbnnhocciaaDoor
open Go
theorem editBackCard_holds : Rows.EditBackCardSaid :=
  Claim7.holds_tied_plain_at .later [] [.data, .data, .data] true (true, "bc9cca30e6bcb58c3d7b40caaba0da34bdf01bc2fab1082ae4b270bbcf37ee66") true
    editBack_holds (fun _ h => by cases h) (by kernel_rfl) (fun _ h => by cases h) editBack_row_tie rfl ⟨rfl, rfl⟩ (by kernel_rfl) rfl
    (fun f fn hf hfn => by
      obtain rfl : f = 4 := Option.some.inj ((show Tryd.prog.funcNamed "bourse/bourselaw12.EditBack" = some 4 by kernel_rfl).symm.trans hf) |>.symm
      obtain rfl : fn = Tryd.f4 := (Option.some.inj (Tryd.func4.symm.trans hfn)).symm
      exact ⟨by kernel_rfl, fun j t ht => by
        rw [Tryd.params4] at ht
        have h3 : t = 26 ∨ t = 9 := by
          rcases j with _ | _ | _ | j
          · exact .inl (by simpa using ht.symm)
          · exact .inl (by simpa using ht.symm)
          · exact .inr (by simpa using ht.symm)
          · simp at ht
        rcases h3 with rfl | rfl
        · exact (show Tryd.prog.wantsStandIn 26 = false by kernel_rfl)
        · exact (show Tryd.prog.wantsStandIn 9 = false by kernel_rfl)⟩)
    (by kernel_rfl)
end Go.Proofs.YteilnbnnhocciaaDoor
