/- EditNames is true for every input: the card, tied (part 2 of 3; packed by program out of the texts named below) -/
import Derived.Test.YteilnbnnhocciaaDoorXB1
import Derived.Below
import Derived.WalkKit
import Derived.ScopeJumps
import Derived.RowKit
import Derived.Laws.BytesArg
import Derived.Laws.Strings
import Derived.Laws.OwnMore
import Derived.Test.YteilnbnnhocciaaDoorProg
import Derived.Shelf.Strconv.Itoa1
import Derived.Lib.ItoaNum
import Derived.KernelRfl
import Derived.Shelf.Small.Wraps
import Derived.Shelf.Strconv.Itoa2
import Derived.Shelf.LaysM
import Derived.Shelf.Pu.ParseUintPublic10
import Derived.Lib.ItoaLen
import Derived.Lib.ParseIntBCases
import Derived.Lib.AppendIntMem
import Derived.Lib.CutLaws
import Derived.Laws.IdiomStrings
import Derived.Sort.Grow
import Derived.Deep.Draws
import Derived.Deep.AppendLies
import Derived.Maps.AppendAt
import Derived.OwnWalk
import Derived.Laws.MakeOwn
import Derived.Deep.OwnRows
import Derived.Tactics
import Derived.Lib.ConvBytes
import Derived.Laws.Slices
import Derived.RowKit3
import Derived.Deep.LoopGhost
import Derived.Deep.QuietTactic
import Derived.BigQuiet
import Derived.WideLaws
import Derived.Deep.DeepCutAuto
import Derived.Deep.CutBlock
import Derived.Deep.RegionHeld3
import Derived.Laws.Rows
import Derived.Lib.AppendStr
import Derived.ArgAppend
import Derived.Laws.IdiomCopy
import Derived.OrdersHeld
import Derived.Laws.BitsLemmas
import Derived.Shelf.Strings.Builder1
import Derived.Laws.Externs

/-! M0 -/
set_option linter.unusedVariables false
namespace Go.Proofs.YteilnbnnhocciaaDoorM
open Go.RowKit
structure Hush (p : Prop) : Prop where mk :: (out : p)
theorem Exit.jump_mono {l : Nat} {J J' : Act → World → Prop} {Q : Exit → Act → World → Prop} (h : ∀ a w, J a w → J' a w) : ∀ e a w, Exit.jump l J Q e a w → Exit.jump l J' Q e a w := by
  intro e a w hq
  cases e with
  | goto l' => exact ⟨hq.1, h _ _ hq.2⟩
  | _ => exact hq
theorem wp_scope_first {P : Program} {a : Act} {w : World} {Q : Exit → Act → World → Prop} {c R : Code} (l : Nat) (J : Act → World → Prop) (μ : Act → World → Nat) (hf : findLabel c l = some (Code.skip.seq R))
    (pass : ∀ a w, J a w → R.wp P (Exit.jump l (fun a' w' => J a' w' ∧ μ a' w' < μ a w) Q) a w)
    (first : Hush (∀ a w, J a w → R.wp P (Exit.jump l J Q) a w) → c.wp P (Exit.jump l J Q) a w) : (Code.scope c).wp P Q a w :=
  wp_scope_jumps l J μ hf (first ⟨fun a w hj => wp_mono (pass a w hj) (Exit.jump_mono fun _ _ h => h.1)⟩) fun a w hj => wp_seq (wp_skip (pass a w hj))
theorem bytesLess_flip : ∀ x y : List UInt8, (!(Op.bytesLess x y || x == y)) = Op.bytesLess y x
  | [], [] => rfl
  | [], _ :: _ => rfl
  | _ :: _, [] => rfl
  | a :: x, b :: y => by
    have ih := bytesLess_flip x y
    simp only [Op.bytesLess]
    rcases Nat.lt_trichotomy a.toNat b.toNat with h | h | h
    · have h1 : a < b := UInt8.lt_iff_toNat_lt.2 h
      have h2 : ¬ b < a := fun h' => by have := UInt8.lt_iff_toNat_lt.1 h'; omega
      have h3 : ¬ b = a := fun h' => by subst h'; omega
      simp [h1, h2, h3]
    · have h1 : a = b := UInt8.toNat_inj.1 h
      subst h1
      have h2 : ¬ a < a := fun h' => by have := UInt8.lt_iff_toNat_lt.1 h'; omega
      rw [← ih]
      simp [h2]
    · have h1 : b < a := UInt8.lt_iff_toNat_lt.2 h
      have h2 : ¬ a < b := fun h' => by have := UInt8.lt_iff_toNat_lt.1 h'; omega
      have h3 : ¬ a = b := fun h' => by subst h'; omega
      simp [h1, h2, h3]
theorem gtr_run (t : TypeId) (a b : ByteArray) : binOp .gtr t (.string a) (.string b) = pure (.bool (Op.bytesLess b.toList a.toList)) := by
  rw [← bytesLess_flip]
  simp [binOp, Op.stringOp]
theorem leq_run (t : TypeId) (a b : ByteArray) : binOp .leq t (.string a) (.string b) = pure (.bool (!Op.bytesLess b.toList a.toList)) := by
  rw [← bytesLess_flip]
  simp [binOp, Op.stringOp]
theorem geq_run (t : TypeId) (a b : ByteArray) : binOp .geq t (.string a) (.string b) = pure (.bool (!Op.bytesLess a.toList b.toList)) := by
  simp [binOp, Op.stringOp]
theorem toList_nil_iff (s : ByteArray) : s.toList = [] ↔ s.size = 0 := by
  rw [ByteArray.toList_eq]
  constructor
  · intro h
    have := congrArg List.length h
    simpa using this
  · intro h
    exact List.eq_nil_of_length_eq_zero (by simpa using h)
theorem run_convert_own {P : Program} {w : World} {src dst e base : Nat} {v : Value} {n : Nat} {xs : List Int} (hs : P.underlying src = some (.slice e)) (he : P.underlying e = some (.int .u8)) (hd : P.underlying dst = some .string)
    (hn : n = xs.length) (h : w.ownsRow base e 1 v n (xs.map (Value.int .u8))) : (convert src dst v).run P w = .ok (.string (strOfNums xs)) w := by
  subst hn
  rcases h.2 with ⟨rfl, hx⟩ | ⟨g, cap, cur, rfl, hb, hg, hl, hm, hc, htake⟩
  · have : xs = [] := by simpa using hx
    subst this
    exact run_convert_bytes_nil w src e hs he 0 0 dst hd
  · refine run_convert_bytes_arg w src e hs he g 0 xs.length cap xs rfl ?_ dst hd
    intro i hi
    have := h.cellAt i (by simpa using hi)
    rw [Nat.zero_add, this]
    simp [List.getElem?_eq_getElem hi, List.getD]
end Go.Proofs.YteilnbnnhocciaaDoorM

/-! M2 -/
set_option linter.unusedVariables false
namespace Go.Proofs
open Go.Shelf Go.Lib
def Tryd.lays283_ren : Go.Shelf.Ren := ⟨fun | 283 => 157 | n => n, fun | 3 => 3 | 9 => 9 | 4 => 4 | n => n, fun | n => n⟩
theorem Tryd.lays283 : Go.Proofs.Lays.n283 Tryd.prog Tryd.lays283_ren := {
  mixed := by kernel_rfl
  f283 := Tryd.func157.trans (congrArg some (by kernel_rfl))
  t3 := Tryd.underlying3
  a3 := Tryd.isAgg3
  z3 := Tryd.sizeOf3
  v3 := Tryd.zeroValue3
  t4 := Tryd.underlying4
  a4 := Tryd.isAgg4
  z4 := Tryd.sizeOf4
  v4 := Tryd.zeroValue4
  t9 := Tryd.underlying9
  a9 := Tryd.isAgg9
  z9 := Tryd.sizeOf9
  v9 := Tryd.zeroValue9 }
theorem Tryd.internal_strconv_small (i : Nat) (h : i < 100) (w : World) :
    Calls Tryd.prog 157 #[.int .i64 i] w fun e w' => e = .returned (.string ⟨(Lib.decDigits i).toArray⟩) ∧ w' = w := Any.internal_strconv_small Tryd.lays283 i h w
end Go.Proofs
namespace Go.Proofs.YteilnbnnhocciaaDoorM
open Go.RowKit
set_option maxHeartbeats 1000000 in
theorem fmt_small (i : Nat) (h : i < 100) (w : World) :
    Calls Tryd.prog 128 #[.int .u64 i, .int .i64 10] w fun e w' => e = .returned (.string ⟨(Lib.decDigits i).toArray⟩) ∧ w = w' := by
  go_enter Tryd.func128, Tryd.ntmps128
  go_wp2_with fail
  refine (Tryd.internal_strconv_small i h _).mono ?_
  rintro e w1 ⟨rfl, hw⟩
  subst hw
  go_wp2
  go_ret
  exact ⟨rfl, rfl⟩
set_option maxHeartbeats 1000000 in
theorem formatUint_small (i : Nat) (h : i < 100) (w : World) :
    Calls Tryd.prog 87 #[.int .u64 i, .int .i64 10] w fun e w' => e = .returned (.string ⟨(Lib.decDigits i).toArray⟩) ∧ w = w' := by
  go_enter Tryd.func87, Tryd.ntmps87
  go_wp2_with fail
  refine (fmt_small i h _).mono ?_
  rintro e w1 ⟨rfl, rfl⟩
  go_wp2
  go_ret
  exact ⟨rfl, rfl⟩
set_option maxHeartbeats 1000000 in
theorem name_t7 (w : World) :
    Calls Tryd.prog 35 #[.string ⟨#[116]⟩, .int .u64 7] w fun e w' => e = .returned (.string ⟨#[116, 45, 55]⟩) ∧ w = w' := by
  have hd : Lib.decDigits 7 = [55] := by first | (simp [Lib.decDigits]; done) | (rw [Lib.decDigits]; rfl) | decide +kernel
  have H := Hush.mk hd
  clear hd
  go_enter Tryd.func35, Tryd.ntmps35
  go_wp2_with fail
  refine (formatUint_small 7 (by decide) _).mono ?_
  rintro e w1 ⟨rfl, rfl⟩
  rw [H.out]
  go_wp2
  go_ret
  exact ⟨rfl, rfl⟩
end Go.Proofs.YteilnbnnhocciaaDoorM

/-! M4 -/
set_option linter.unusedVariables false
namespace Go.Proofs
open Go.Shelf Go.RowKit Go.Sort Go.Lib
def Tryd.lays103_ren : Go.Shelf.Ren := ⟨fun | 103 => 85 | 210 => 125 | 206 => 146 | n => n, fun | 9 => 9 | 4 => 4 | 24 => 149 | 3 => 3 | n => n, fun | n => n⟩
theorem Tryd.lays103 : Go.Proofs.Lays.n103 Tryd.prog Tryd.lays103_ren := {
  mixed := by kernel_rfl
  f103 := Tryd.func85.trans (congrArg some (by kernel_rfl))
  f206 := Tryd.func146.trans (congrArg some (by kernel_rfl))
  f210 := Tryd.func125.trans (congrArg some (by kernel_rfl))
  t3 := Tryd.underlying3
  a3 := Tryd.isAgg3
  z3 := Tryd.sizeOf3
  v3 := Tryd.zeroValue3
  t4 := Tryd.underlying4
  a4 := Tryd.isAgg4
  z4 := Tryd.sizeOf4
  v4 := Tryd.zeroValue4
  t9 := Tryd.underlying9
  a9 := Tryd.isAgg9
  z9 := Tryd.sizeOf9
  v9 := Tryd.zeroValue9
  t24 := Tryd.underlying149
  a24 := Tryd.isAgg149
  z24 := Tryd.sizeOf149
  v24 := Tryd.zeroValue149 }
theorem Tryd.strings_CutPrefix (s p : ByteArray) (w : World) :
    Calls Tryd.prog 85 #[.string s, .string p] w fun e w' => e = .returned (.tuple #[.string ⟨(Lib.trimPrefix s.data.toList p.data.toList).toArray⟩, .bool (Lib.hasPrefix s.data.toList p.data.toList)]) ∧ w' = w := Any.strings_CutPrefix Tryd.lays103 s p w
def Tryd.laysM284_ren : Go.Shelf.Ren := ⟨fun | 284 => 158 | 129 => 180 | 317 => 179 | 318 => 181 | n => n, fun | 53 => 22 | 3 => 3 | 212 => 235 | 0 => 0 | 4 => 4 | 46 => 62 | 5 => 5 | 9 => 9 | n => n, fun | 17 => 2 | n => n⟩
theorem Tryd.laysM284 : Go.Proofs.LaysM.n284 Tryd.prog Tryd.laysM284_ren := {
  mixed := by kernel_rfl
  f129 := Tryd.func180.trans (congrArg some (by kernel_rfl))
  f284 := Tryd.func158.trans (congrArg some (by kernel_rfl))
  f317 := Tryd.func179.trans (congrArg some (by kernel_rfl))
  f318 := Tryd.func181.trans (congrArg some (by kernel_rfl))
  t0 := Tryd.underlying0
  a0 := Tryd.isAgg0
  z0 := Tryd.sizeOf0
  v0 := Tryd.zeroValue0
  t3 := Tryd.underlying3
  a3 := Tryd.isAgg3
  z3 := Tryd.sizeOf3
  v3 := Tryd.zeroValue3
  t4 := Tryd.underlying4
  a4 := Tryd.isAgg4
  z4 := Tryd.sizeOf4
  v4 := Tryd.zeroValue4
  t5 := Tryd.underlying5
  a5 := Tryd.isAgg5
  z5 := Tryd.sizeOf5
  v5 := Tryd.zeroValue5
  t9 := Tryd.underlying9
  a9 := Tryd.isAgg9
  z9 := Tryd.sizeOf9
  v9 := Tryd.zeroValue9
  t46 := Tryd.underlying62
  a46 := Tryd.isAgg62
  z46 := Tryd.sizeOf62
  v46 := Tryd.zeroValue62
  t53 := Tryd.underlying22
  a53 := Tryd.isAgg22
  z53 := Tryd.sizeOf22
  v53 := Tryd.zeroValue22
  t212 := Tryd.underlying235
  a212 := Tryd.isAgg235
  z212 := Tryd.sizeOf235
  v212 := Tryd.zeroValue235
  g17 := by kernel_rfl
  i0 := by kernel_rfl
  i3 := by kernel_rfl
  i4 := by kernel_rfl
  i5 := by kernel_rfl
  i9 := by kernel_rfl
  i46 := by kernel_rfl
  i53 := by kernel_rfl
  i212 := by kernel_rfl
  m17 := by kernel_rfl }
theorem Tryd.internal_strconv_numDigits (u : Nat) (h1 : 1 ≤ u) (h2 : u < 18446744073709551616) (w : World) (htab : Lib.TabIs Tryd.prog w "internal/strconv.uint64pow10" .u64 Lib.pow10Tab) :
    Calls Tryd.prog 158 #[.int .u64 u] w fun e w' => e = .returned (.int .i64 (Lib.nDigits u)) ∧ w' = w := Any.internal_strconv_numDigits Tryd.laysM284 u h1 h2 w htab
def Tryd.lays285_ren : Go.Shelf.Ren := ⟨fun | 285 => 159 | n => n, fun | 37 => 64 | 53 => 22 | 3 => 3 | 4 => 4 | 51 => 178 | 9 => 9 | 5 => 5 | 0 => 0 | n => n, fun | n => n⟩
theorem Tryd.lays285 : Go.Proofs.Lays.n285 Tryd.prog Tryd.lays285_ren := {
  mixed := by kernel_rfl
  f285 := Tryd.func159.trans (congrArg some (by kernel_rfl))
  t0 := Tryd.underlying0
  a0 := Tryd.isAgg0
  z0 := Tryd.sizeOf0
  v0 := Tryd.zeroValue0
  t3 := Tryd.underlying3
  a3 := Tryd.isAgg3
  z3 := Tryd.sizeOf3
  v3 := Tryd.zeroValue3
  t4 := Tryd.underlying4
  a4 := Tryd.isAgg4
  z4 := Tryd.sizeOf4
  v4 := Tryd.zeroValue4
  t5 := Tryd.underlying5
  a5 := Tryd.isAgg5
  z5 := Tryd.sizeOf5
  v5 := Tryd.zeroValue5
  t9 := Tryd.underlying9
  a9 := Tryd.isAgg9
  z9 := Tryd.sizeOf9
  v9 := Tryd.zeroValue9
  t37 := Tryd.underlying64
  a37 := Tryd.isAgg64
  z37 := Tryd.sizeOf64
  v37 := Tryd.zeroValue64
  t51 := Tryd.underlying178
  a51 := Tryd.isAgg178
  z51 := Tryd.sizeOf178
  v51 := Tryd.zeroValue178
  t53 := Tryd.underlying22
  a53 := Tryd.isAgg22
  z53 := Tryd.sizeOf22
  v53 := Tryd.zeroValue22 }
theorem Tryd.internal_strconv_formatBase10 (blk off cap : Nat) (u : Nat) (d : Array UInt8) (w : World) (hH : Holds (fun (b : UInt8) => Value.int .u8 (b.toNat : Int)) w blk off d) (hu : u < 10 ^ d.size) (hu64 : u < 18446744073709551616) (hsz : d.size < 4611686018427387904) :
    Calls Tryd.prog 159 #[.slice (some ⟨blk, off, none⟩) d.size cap, .int .u64 u] w fun e w' =>
      e = .returned (.tuple #[]) ∧ ∃ (n v' : Nat) (dk : Array UInt8), w' = (putRow (fun (b : UInt8) => Value.int .u8 (b.toNat : Int)) w blk off dk).drewN n ∧ FmtInv d.size u 0 v' dk := Any.internal_strconv_formatBase10 Tryd.lays285 blk off cap u d w hH hu hu64 hsz
def Tryd.laysPu14_ren : Go.Shelf.Ren := ⟨fun | 14 => 86 | 16 => 126 | 17 => 127 | 19 => 151 | 20 => 152 | 21 => 153 | 22 => 154 | 23 => 155 | 24 => 156 | 25 => 176 | 27 => 178 | 26 => 177 | 28 => 191 | 29 => 198 | 30 => 157 | 31 => 158 | 32 => 159 | 33 => 160 | 35 => 180 | 34 => 179 | 36 => 181 | 37 => 182 | 38 => 183 | 39 => 192 | 40 => 193 | n => n, fun | 9 => 9 | 3 => 3 | 22 => 22 | 24 => 142 | 25 => 151 | 4 => 4 | 34 => 209 | 5 => 5 | 36 => 62 | 37 => 64 | 0 => 0 | 39 => 211 | 21 => 21 | 44 => 232 | 47 => 188 | 50 => 246 | 48 => 244 | 2 => 2 | 52 => 214 | 55 => 217 | 59 => 235 | 60 => 178 | 20 => 20 | 61 => 236 | 65 => 250 | 66 => 251 | 67 => 147 | n => n, fun | 0 => 0 | 1 => 1 | 2 => 2 | 3 => 4 | 4 => 5 | n => n⟩
theorem Tryd.laysPu14 : Go.Proofs.LaysPu.n14 Tryd.prog Tryd.laysPu14_ren := {
  mixed := by kernel_rfl
  f14 := Tryd.func86.trans (congrArg some (by kernel_rfl))
  f16 := Tryd.func126.trans (congrArg some (by kernel_rfl))
  f17 := Tryd.func127.trans (congrArg some (by kernel_rfl))
  f19 := Tryd.func151.trans (congrArg some (by kernel_rfl))
  f20 := Tryd.func152.trans (congrArg some (by kernel_rfl))
  f21 := Tryd.func153.trans (congrArg some (by kernel_rfl))
  f22 := Tryd.func154.trans (congrArg some (by kernel_rfl))
  f23 := Tryd.func155.trans (congrArg some (by kernel_rfl))
  f24 := Tryd.func156.trans (congrArg some (by kernel_rfl))
  f25 := Tryd.func176.trans (congrArg some (by kernel_rfl))
  f26 := Tryd.func177.trans (congrArg some (by kernel_rfl))
  f27 := Tryd.func178.trans (congrArg some (by kernel_rfl))
  f28 := Tryd.func191.trans (congrArg some (by kernel_rfl))
  f29 := Tryd.func198.trans (congrArg some (by kernel_rfl))
  f30 := Tryd.func157.trans (congrArg some (by kernel_rfl))
  f31 := Tryd.func158.trans (congrArg some (by kernel_rfl))
  f32 := Tryd.func159.trans (congrArg some (by kernel_rfl))
  f33 := Tryd.func160.trans (congrArg some (by kernel_rfl))
  f34 := Tryd.func179.trans (congrArg some (by kernel_rfl))
  f35 := Tryd.func180.trans (congrArg some (by kernel_rfl))
  f36 := Tryd.func181.trans (congrArg some (by kernel_rfl))
  f37 := Tryd.func182.trans (congrArg some (by kernel_rfl))
  f38 := Tryd.func183.trans (congrArg some (by kernel_rfl))
  f39 := Tryd.func192.trans (congrArg some (by kernel_rfl))
  f40 := Tryd.func193.trans (congrArg some (by kernel_rfl))
  t0 := Tryd.underlying0
  a0 := Tryd.isAgg0
  z0 := Tryd.sizeOf0
  v0 := Tryd.zeroValue0
  i0 := by kernel_rfl
  t2 := Tryd.underlying2
  a2 := Tryd.isAgg2
  z2 := Tryd.sizeOf2
  v2 := Tryd.zeroValue2
  i2 := by kernel_rfl
  t3 := Tryd.underlying3
  a3 := Tryd.isAgg3
  z3 := Tryd.sizeOf3
  v3 := Tryd.zeroValue3
  i3 := by kernel_rfl
  t4 := Tryd.underlying4
  a4 := Tryd.isAgg4
  z4 := Tryd.sizeOf4
  v4 := Tryd.zeroValue4
  i4 := by kernel_rfl
  t5 := Tryd.underlying5
  a5 := Tryd.isAgg5
  z5 := Tryd.sizeOf5
  v5 := Tryd.zeroValue5
  i5 := by kernel_rfl
  t9 := Tryd.underlying9
  a9 := Tryd.isAgg9
  z9 := Tryd.sizeOf9
  v9 := Tryd.zeroValue9
  i9 := by kernel_rfl
  t20 := Tryd.underlying20
  a20 := Tryd.isAgg20
  z20 := Tryd.sizeOf20
  v20 := Tryd.zeroValue20
  i20 := by kernel_rfl
  t21 := Tryd.underlying21
  a21 := Tryd.isAgg21
  z21 := Tryd.sizeOf21
  v21 := Tryd.zeroValue21
  i21 := by kernel_rfl
  t22 := Tryd.underlying22
  a22 := Tryd.isAgg22
  z22 := Tryd.sizeOf22
  v22 := Tryd.zeroValue22
  i22 := by kernel_rfl
  t24 := Tryd.underlying142
  a24 := Tryd.isAgg142
  z24 := Tryd.sizeOf142
  v24 := Tryd.zeroValue142
  i24 := by kernel_rfl
  t25 := Tryd.underlying151
  a25 := Tryd.isAgg151
  z25 := Tryd.sizeOf151
  v25 := Tryd.zeroValue151
  i25 := by kernel_rfl
  t34 := Tryd.underlying209
  a34 := Tryd.isAgg209
  z34 := Tryd.sizeOf209
  v34 := Tryd.zeroValue209
  i34 := by kernel_rfl
  c34 := by kernel_rfl
  t36 := Tryd.underlying62
  a36 := Tryd.isAgg62
  z36 := Tryd.sizeOf62
  v36 := Tryd.zeroValue62
  i36 := by kernel_rfl
  t37 := Tryd.underlying64
  a37 := Tryd.isAgg64
  z37 := Tryd.sizeOf64
  v37 := Tryd.zeroValue64
  i37 := by kernel_rfl
  t39 := Tryd.underlying211
  a39 := Tryd.isAgg211
  z39 := Tryd.sizeOf211
  v39 := Tryd.zeroValue211
  i39 := by kernel_rfl
  t44 := Tryd.underlying232
  a44 := Tryd.isAgg232
  z44 := Tryd.sizeOf232
  v44 := Tryd.zeroValue232
  i44 := by kernel_rfl
  t47 := Tryd.underlying188
  a47 := Tryd.isAgg188
  z47 := Tryd.sizeOf188
  v47 := Tryd.zeroValue188
  i47 := by kernel_rfl
  t48 := Tryd.underlying244
  a48 := Tryd.isAgg244
  z48 := Tryd.sizeOf244
  v48 := Tryd.zeroValue244
  i48 := by kernel_rfl
  t50 := Tryd.underlying246
  a50 := Tryd.isAgg246
  z50 := Tryd.sizeOf246
  v50 := Tryd.zeroValue246
  i50 := by kernel_rfl
  t52 := Tryd.underlying214
  a52 := Tryd.isAgg214
  z52 := Tryd.sizeOf214
  v52 := Tryd.zeroValue214
  i52 := by kernel_rfl
  t55 := Tryd.underlying217
  a55 := Tryd.isAgg217
  z55 := Tryd.sizeOf217
  v55 := Tryd.zeroValue217
  i55 := by kernel_rfl
  t59 := Tryd.underlying235
  a59 := Tryd.isAgg235
  z59 := Tryd.sizeOf235
  v59 := Tryd.zeroValue235
  i59 := by kernel_rfl
  t60 := Tryd.underlying178
  a60 := Tryd.isAgg178
  z60 := Tryd.sizeOf178
  v60 := Tryd.zeroValue178
  i60 := by kernel_rfl
  t61 := Tryd.underlying236
  a61 := Tryd.isAgg236
  z61 := Tryd.sizeOf236
  t65 := Tryd.underlying250
  a65 := Tryd.isAgg250
  z65 := Tryd.sizeOf250
  v65 := Tryd.zeroValue250
  i65 := by kernel_rfl
  t66 := Tryd.underlying251
  a66 := Tryd.isAgg251
  z66 := Tryd.sizeOf251
  v66 := Tryd.zeroValue251
  i66 := by kernel_rfl
  t67 := Tryd.underlying147
  a67 := Tryd.isAgg147
  z67 := Tryd.sizeOf147
  v67 := Tryd.zeroValue147
  i67 := by kernel_rfl
  g0 := by kernel_rfl
  m0 := by kernel_rfl
  g1 := by kernel_rfl
  m1 := by kernel_rfl
  g2 := by kernel_rfl
  m2 := by kernel_rfl
  g3 := by kernel_rfl
  m3 := by kernel_rfl
  g4 := by kernel_rfl
  m4 := by kernel_rfl }
theorem Tryd.parse_ok (s : ByteArray) (hmax : s.size ≤ 9223372036854775806) (u : Nat) (h : Lib.parseUintB 64 s.data.toList = .ok u) (w : World) :
    Calls Tryd.prog 86 #[.string s, .int .i64 10, .int .i64 64] w fun e w' => e = .returned (.tuple #[.int .u64 u, .nilIface]) ∧ (w' = w ∨ w' = Lib.bytesWorld w 5 s) := Any.strconv_ParseUint_10_at64_ok Tryd.laysPu14 s hmax u h w
theorem Tryd.parse_bad (s : ByteArray) (hlim : s.size ≤ 281474976710656) (h : ∀ u, Lib.parseUintB 64 s.data.toList ≠ .ok u) (e0 e1 : Value) (w : World) (hv0 : w.cell? ⟨0, 0, none⟩ = some e0) (he0 : e0 = .nilIface ∨ ∃ te pe, e0 = .iface te pe) (hv1 : w.cell? ⟨1, 0, none⟩ = some e1) (he1 : e1 = .nilIface ∨ ∃ te pe, e1 = .iface te pe) :
    Calls Tryd.prog 86 #[.string s, .int .i64 10, .int .i64 64] w fun e w' => ∃ (v : Int) (N : Nat), e = .returned (.tuple #[.int .u64 v, .iface 211 (.pointer (some ⟨N, 0, none⟩))]) ∧ Below w.heap.size w w' := by
  rcases hp : Lib.parseUintB 64 s.data.toList with u | _ | _
  · exact absurd hp (h u)
  · refine (Any.strconv_ParseUint_10_at64_syntax Tryd.laysPu14 s hlim hp e0 w hv0 he0).mono ?_
    rintro e w' ⟨N, he, _, _, hb⟩
    exact ⟨_, N, he, hb⟩
  · refine (Any.strconv_ParseUint_10_at64_range Tryd.laysPu14 s hlim hp e1 w hv1 he1).mono ?_
    rintro e w' ⟨N, he, _, _, hb⟩
    exact ⟨_, N, he, hb⟩
end Go.Proofs

/-! N1 -/
set_option linter.unusedVariables false
namespace Go.Proofs.YteilnbnnhocciaaDoor.N
open Go.Lib
theorem dec_small {n : Nat} (h : n < 10) : decDigits n = [UInt8.ofNat (48 + n)] := by rw [decDigits, dif_pos h]
theorem dec_big {n : Nat} (h : ¬ n < 10) : decDigits n = decDigits (n / 10) ++ [UInt8.ofNat (48 + n % 10)] := by rw [decDigits, dif_neg h]
theorem toNat_of {n : Nat} (h : n < 256) : (UInt8.ofNat n).toNat = n := by simp [UInt8.toNat_ofNat']; omega
theorem pu_app : ∀ (l r : List UInt8) (acc v : Nat), parseUint10 acc l = .ok v → parseUint10 acc (l ++ r) = parseUint10 v r := by
  intro l
  induction l with
  | nil => intro r acc v h; simp only [parseUint10] at h; obtain rfl := NumEnd.ok.inj h; rfl
  | cons c l ih =>
    intro r acc v h
    rw [List.cons_append]
    simp only [parseUint10] at h ⊢
    split at h
    · rename_i h1
      rw [if_pos h1]
      split at h
      · cases h
      · rename_i h2
        rw [if_neg h2]
        split at h
        · cases h
        · rename_i h3
          rw [if_neg h3]
          exact ih _ _ _ h
    · cases h
theorem pu_dec : ∀ (n : Nat), n < 18446744073709551616 → parseUint10 0 (decDigits n) = .ok n := by
  intro n
  induction n using Nat.strongRecOn with
  | _ n ih =>
    intro hn
    by_cases h : n < 10
    · rw [dec_small h]
      have h1 : (UInt8.ofNat (48 + n)).toNat = 48 + n := toNat_of (by omega)
      simp only [parseUint10, h1]
      rw [if_pos (by omega), if_neg (by omega), if_neg (by omega)]
      simp
    · rw [dec_big h, pu_app _ _ _ _ (ih (n / 10) (by omega) (by omega))]
      have h1 : (UInt8.ofNat (48 + n % 10)).toNat = 48 + n % 10 := toNat_of (by omega)
      simp only [parseUint10, h1]
      rw [if_pos (by omega), if_neg (by omega), if_neg (by omega)]
      congr 1
      omega
theorem dec_ne (n : Nat) : decDigits n ≠ [] := by
  by_cases h : n < 10
  · rw [dec_small h]; simp
  · rw [dec_big h]; simp
theorem parse_dec (n : Nat) (hn : n < 18446744073709551616) : parseUintB 64 (decDigits n) = .ok n := by
  rw [parseUintB_64, parseMag, if_neg (dec_ne n), pu_dec n hn]
theorem dec_inj {m n : Nat} (hm : m < 18446744073709551616) (hn : n < 18446744073709551616) (h : decDigits m = decDigits n) : m = n := by
  have h1 := pu_dec m hm
  rw [h, pu_dec n hn] at h1
  exact (NumEnd.ok.inj h1).symm
end Go.Proofs.YteilnbnnhocciaaDoor.N

/-! N2 -/
set_option linter.unusedVariables false
namespace Go.Proofs.YteilnbnnhocciaaDoor.N
open Go.RowKit Go.Lib Go.Sort Go.Proofs.YteilnbnnhocciaaDoorM
structure Reads (w : World) : Prop where
  tab : TabIs Tryd.prog w "internal/strconv.uint64pow10" .u64 pow10Tab
  e0 : ∃ v, w.cell? ⟨0, 0, none⟩ = some v ∧ (v = .nilIface ∨ ∃ te pe, v = .iface te pe)
  e1 : ∃ v, w.cell? ⟨1, 0, none⟩ = some v ∧ (v = .nilIface ∨ ∃ te pe, v = .iface te pe)
def digits (u : Nat) : ByteArray := ⟨(decDigits u).toArray⟩
theorem below_fmt (w : World) (o : Obj) (dk : Array UInt8) (k : Nat) : Below w.heap.size w ((putRow (fun (b : UInt8) => Value.int .u8 (b.toNat : Int)) (w.alloc o) w.heap.size 0 dk).drewN k) := by
  rw [alloc_eq_grow]
  obtain ⟨os', _, e⟩ := putRow_grow_new (fun (b : UInt8) => Value.int .u8 (b.toNat : Int)) w #[o] w.heap.size 0 dk (Nat.le_refl _)
  rw [e]
  refine ⟨rfl, rfl, rfl, by show w.heap.size ≤ (w.heap ++ os').size; simp, fun i hi => ?_⟩
  show (w.heap ++ os')[i]? = w.heap[i]?
  rw [Array.getElem?_append_left hi]
set_option maxHeartbeats 1000000 in
set_option maxRecDepth 100000 in
theorem fmt_big (u : Nat) (hu100 : 100 ≤ u) (hu64 : u < 18446744073709551616) (w : World) (htab : TabIs Tryd.prog w "internal/strconv.uint64pow10" .u64 pow10Tab) :
    Calls Tryd.prog 128 #[.int .u64 u, .int .i64 10] w fun e w' => e = .returned (.string (digits u)) ∧ Below w.heap.size w w' := by
  have hu1 : 1 ≤ u := by omega
  have hnd20 : nDigits u ≤ 20 := nDigits_le20 u hu64
  have hal : Tryd.prog.arrayLen 214 = 24 := by simp [Program.arrayLen, Tryd.underlying214]
  have hsl1 : ∀ W, (Instr.sliceAt 214 (.pointer (some ⟨w.heap.size, 0, none⟩)) none (some (.int .i64 (nDigits u : Int))) none).run Tryd.prog W = .ok (.slice (some ⟨w.heap.size, 0, none⟩) (nDigits u) 24) W := fun W => by
    rw [run_sliceAt_array_h W 214 ⟨w.heap.size, 0, none⟩ (by simp [Program.arrayLen, Program.elem, Tryd.underlying214]) .i64 (nDigits u : Int) (by omega) (by rw [hal]; omega)]
    rw [hal, show Tryd.prog.elem 214 = 5 by simp [Program.elem, Tryd.underlying214], Tryd.sizeOf5]
    go_simp
  have hH0 := holds_zero0 w 214 (nDigits u) (by omega)
  have hfmt := Tryd.internal_strconv_formatBase10 w.heap.size 0 24 u (Array.replicate (nDigits u) 0) (w.alloc (.cells zeros24 214)) hH0 (by rw [Array.size_replicate]; exact lt_pow_nDigits u) hu64 (by rw [Array.size_replicate]; omega)
  rw [Array.size_replicate] at hfmt
  have HH0 := Hush.mk hH0
  have HT := Hush.mk htab
  clear hH0 hal htab
  go_enter Tryd.func128, Tryd.ntmps128
  go_wp2_with fail
  refine (Tryd.internal_strconv_numDigits u hu1 hu64 _ (tabIs_alloc HT.out _)).mono ?_
  rintro e w' ⟨rfl, rfl⟩
  go_wp2_with fail
  refine hfmt.mono ?_
  rintro e w' ⟨rfl, k, v', dk, rfl, hF⟩
  have hcv : (convert 64 9 (.slice (some ⟨w.heap.size, 0, none⟩) (nDigits u) 24)).run Tryd.prog ((putRow (fun (b : UInt8) => Value.int .u8 (b.toNat : Int)) (w.alloc (.cells zeros24 214)) w.heap.size 0 dk).drewN k) = .ok (.string (digits u)) ((putRow (fun (b : UInt8) => Value.int .u8 (b.toNat : Int)) (w.alloc (.cells zeros24 214)) w.heap.size 0 dk).drewN k) := by
    have h := run_convert_bytes_back (P := Tryd.prog) ((putRow (fun (b : UInt8) => Value.int .u8 (b.toNat : Int)) (w.alloc (.cells zeros24 214)) w.heap.size 0 dk).drewN k) 64 9 5 ⟨w.heap.size, 0, none⟩ 24 (decDigits u) Tryd.underlying64 Tryd.underlying5 Tryd.underlying9 (fun j hj => by
      rw [row_is_numeral hF j hj, Lib.add_plain, World.cell?_drewN]
      exact cell?_putRow (fun (b : UInt8) => Value.int .u8 (b.toNat : Int)) _ w.heap.size 0 _ dk HH0.out (by rw [hF.size, Array.size_replicate]) j (by rw [hF.size]; rw [decDigits_length] at hj; exact hj))
    rw [decDigits_length] at h
    exact h
  go_wp2
  go_ret
  exact ⟨rfl, below_fmt w _ dk k⟩
theorem fmt_any (u : Nat) (hu64 : u < 18446744073709551616) (w : World) (htab : TabIs Tryd.prog w "internal/strconv.uint64pow10" .u64 pow10Tab) :
    Calls Tryd.prog 128 #[.int .u64 u, .int .i64 10] w fun e w' => e = .returned (.string (digits u)) ∧ Below w.heap.size w w' := by
  by_cases h : u < 100
  · refine (fmt_small u h w).mono ?_
    rintro e w' ⟨rfl, rfl⟩
    exact ⟨rfl, Below.refl _ _⟩
  · exact fmt_big u (by omega) hu64 w htab
set_option maxHeartbeats 1000000 in
theorem formatUint_any (u : Nat) (hu64 : u < 18446744073709551616) (w : World) (htab : TabIs Tryd.prog w "internal/strconv.uint64pow10" .u64 pow10Tab) :
    Calls Tryd.prog 87 #[.int .u64 u, .int .i64 10] w fun e w' => e = .returned (.string (digits u)) ∧ Below w.heap.size w w' := by
  have H := Hush.mk (fmt_any u hu64 w htab)
  clear htab
  go_enter Tryd.func87, Tryd.ntmps87
  go_wp2_with fail
  refine H.out.mono ?_
  rintro e w1 ⟨rfl, hb⟩
  have HB := Hush.mk hb
  clear hb
  go_wp2
  go_ret
  exact ⟨rfl, HB.out⟩
def nameOf (kind : ByteArray) (u : Nat) : ByteArray := kind ++ ⟨#[45]⟩ ++ digits u
theorem digits_le {u : Nat} (hu64 : u < 18446744073709551616) : (digits u).size ≤ 20 := by
  have := nDigits_le20 u hu64
  rw [← decDigits_length] at this
  simpa [digits, ByteArray.size] using this
set_option maxHeartbeats 1000000 in
theorem name_any (kind : ByteArray) (hk : kind.size ≤ 1000000) (u : Nat) (hu64 : u < 18446744073709551616) (w : World) (htab : TabIs Tryd.prog w "internal/strconv.uint64pow10" .u64 pow10Tab) :
    Calls Tryd.prog 35 #[.string kind, .int .u64 u] w fun e w' => e = .returned (.string (nameOf kind u)) ∧ Below w.heap.size w w' := by
  have H := Hush.mk (formatUint_any u hu64 w htab)
  have hd := digits_le hu64
  clear htab
  have h1 : (9223372036854775807 < kind.size + 1) = False := eq_false (by omega)
  have h2 : (9223372036854775807 < (kind ++ (⟨#[45]⟩ : ByteArray)).size + (digits u).size) = False := eq_false (by rw [ByteArray.size_append]; show ¬ (_ < kind.size + 1 + _); omega)
  have h3 : (9223372036854775807 < kind.size + 1 + (digits u).size) = False := eq_false (by omega)
  clear hd hk
  go_enter Tryd.func35, Tryd.ntmps35
  go_wp2_with fail
  refine H.out.mono ?_
  rintro e w1 ⟨rfl, hb⟩
  have HB := Hush.mk hb
  clear hb
  go_wp2
  go_ret
  exact ⟨rfl, HB.out⟩
end Go.Proofs.YteilnbnnhocciaaDoor.N

/-! N3 -/
set_option linter.unusedVariables false
namespace Go.Proofs.YteilnbnnhocciaaDoor.N
open Go.RowKit Go.Lib Go.Sort Go.Proofs.YteilnbnnhocciaaDoorM
theorem Reads.below {w w' : World} (h : Reads w) (hb : Below w.heap.size w w') : Reads w' := by
  obtain ⟨h1, ⟨v0, hc0, hv0⟩, ⟨v1, hc1, hv1⟩⟩ := h
  refine ⟨?_, ⟨v0, (hb.cell (World.block_lt_of_cell? w _ hc0)).trans hc0, hv0⟩, ⟨v1, (hb.cell (World.block_lt_of_cell? w _ hc1)).trans hc1, hv1⟩⟩
  unfold TabIs World.var? at *
  cases hg : Tryd.prog.globalNamed "internal/strconv.uint64pow10" with
  | none => simp [hg] at h1
  | some g =>
    simp only [hg, Option.bind_some] at h1 ⊢
    have hlt : g < w.heap.size := by
      rcases Nat.lt_or_ge g w.heap.size with h' | h'
      · exact h'
      · rw [Array.getElem?_eq_none h'] at h1; simp at h1
    rw [hb.block g hlt]
    exact h1
def NumRes (kind name : ByteArray) (r : Int) (b : Bool) : Prop :=
  (b = true ∧ ∃ u : Nat, u < 18446744073709551616 ∧ r = (u : Int) ∧ name = nameOf kind u) ∨ (b = false ∧ r = 0 ∧ ∀ u : Nat, u < 18446744073709551616 → name ≠ nameOf kind u)
theorem ba_ext {s t : ByteArray} (h : s.data.toList = t.data.toList) : s = t := by
  cases s with | mk a => cases t with | mk b => congr 1; exact Array.toList_inj.1 h
theorem nameOf_list (kind : ByteArray) (u : Nat) : (nameOf kind u).data.toList = (kind ++ (⟨#[45]⟩ : ByteArray)).data.toList ++ decDigits u := by
  simp [nameOf, digits, ByteArray.data_append]
theorem prefix_of (kind : ByteArray) (u : Nat) : hasPrefix (nameOf kind u).data.toList (kind ++ (⟨#[45]⟩ : ByteArray)).data.toList = true := by
  rw [nameOf_list, hasPrefix, List.isPrefixOf_iff_prefix]
  exact List.prefix_append _ _
theorem trim_of (kind : ByteArray) (u : Nat) : trimPrefix (nameOf kind u).data.toList (kind ++ (⟨#[45]⟩ : ByteArray)).data.toList = decDigits u := by
  rw [trimPrefix, prefix_of, if_pos rfl, nameOf_list, List.drop_left]
theorem nameOf_inj {kind : ByteArray} {u v : Nat} (hu : u < 18446744073709551616) (hv : v < 18446744073709551616) (h : nameOf kind u = nameOf kind v) : u = v := by
  have h1 := trim_of kind u
  rw [h, trim_of] at h1
  exact dec_inj hu hv h1.symm
theorem NumRes.uniq {kind name : ByteArray} {r r' : Int} {b b' : Bool} (h : NumRes kind name r b) (h' : NumRes kind name r' b') : r = r' ∧ b = b' := by
  rcases h with ⟨rfl, u, hu, rfl, hn⟩ | ⟨rfl, rfl, hn⟩
  · rcases h' with ⟨rfl, v, hv, rfl, hn'⟩ | ⟨rfl, rfl, hn'⟩
    · rw [nameOf_inj hu hv (hn.symm.trans hn')]; exact ⟨rfl, rfl⟩
    · exact absurd hn (hn' u hu)
  · rcases h' with ⟨rfl, v, hv, rfl, hn'⟩ | ⟨rfl, rfl, hn'⟩
    · exact absurd hn' (hn v hv)
    · exact ⟨rfl, rfl⟩
theorem NumRes.self (kind : ByteArray) {u : Nat} (hu : u < 18446744073709551616) : NumRes kind (nameOf kind u) u true := .inl ⟨rfl, u, hu, rfl, rfl⟩
theorem parse_any (t : ByteArray) (ht : t.size ≤ 1000000) (w : World) (hr : Reads w) :
    (∃ u : Nat, u < 18446744073709551616 ∧ parseUintB 64 t.data.toList = .ok u ∧ Calls Tryd.prog 86 #[.string t, .int .i64 10, .int .i64 64] w fun e w' => e = .returned (.tuple #[.int .u64 u, .nilIface]) ∧ Below w.heap.size w w') ∨
    ((∀ u, parseUintB 64 t.data.toList ≠ .ok u) ∧ Calls Tryd.prog 86 #[.string t, .int .i64 10, .int .i64 64] w fun e w' => ∃ (v : Int) (N : Nat), e = .returned (.tuple #[.int .u64 v, .iface 211 (.pointer (some ⟨N, 0, none⟩))]) ∧ Below w.heap.size w w') := by
  by_cases hp : ∃ u, parseUintB 64 t.data.toList = .ok u
  · obtain ⟨u, hu⟩ := hp
    have hle := parseUintB_le hu
    refine .inl ⟨u, by omega, hu, (Tryd.parse_ok t (by omega) u hu w).mono ?_⟩
    rintro e w' ⟨rfl, rfl | rfl⟩
    · exact ⟨rfl, Below.refl _ _⟩
    · exact ⟨rfl, bytesWorld_below _ _ _⟩
  · have hp' : ∀ u, parseUintB 64 t.data.toList ≠ .ok u := fun u h => hp ⟨u, h⟩
    obtain ⟨_, ⟨v0, hc0, hv0⟩, ⟨v1, hc1, hv1⟩⟩ := hr
    exact .inr ⟨hp', Tryd.parse_bad t (by omega) hp' v0 v1 w hc0 hv0 hc1 hv1⟩
def number.Post (w : World) (kind name : ByteArray) (e : Ending) (w' : World) : Prop := ∃ (r : Int) (b : Bool), e = .returned (.tuple #[.int .u64 r, .bool b]) ∧ NumRes kind name r b ∧ Below w.heap.size w w'
set_option maxHeartbeats 1000000 in
theorem number_any (kind name : ByteArray) (hk : kind.size ≤ 1000) (hn : name.size ≤ 100000) (w : World) (hr : Reads w) :
    Calls Tryd.prog 33 #[.string kind, .string name] w (number.Post w kind name) := by
  have h1 : (9223372036854775807 < kind.size + 1) = False := eq_false (by omega)
  have HC0 := fun W => Tryd.strings_CutPrefix name (kind ++ (⟨#[45]⟩ : ByteArray)) W
  obtain ⟨t, ht⟩ : ∃ t : ByteArray, t = ⟨(trimPrefix name.data.toList (kind ++ (⟨#[45]⟩ : ByteArray)).data.toList).toArray⟩ := ⟨_, rfl⟩
  obtain ⟨ok, hok⟩ : ∃ b, b = hasPrefix name.data.toList (kind ++ (⟨#[45]⟩ : ByteArray)).data.toList := ⟨_, rfl⟩
  rw [← ht, ← hok] at HC0
  have hts : t.size ≤ 1000000 := by
    rw [ht]
    show (trimPrefix name.data.toList (kind ++ (⟨#[45]⟩ : ByteArray)).data.toList).toArray.size ≤ _
    have hl : name.data.toList.length = name.size := by simp
    rw [List.size_toArray, trimPrefix]
    split
    · rw [List.length_drop, hl]; omega
    · rw [hl]; omega
  have htl : t.data.toList = trimPrefix name.data.toList (kind ++ (⟨#[45]⟩ : ByteArray)).data.toList := by rw [ht]
  have HC := Hush.mk HC0
  have HR := Hush.mk hr
  have HP := Hush.mk (parse_any t hts w hr)
  have HT := Hush.mk htl
  have HO := Hush.mk hok
  have HK : Hush (kind.size ≤ 1000000) := ⟨by omega⟩
  clear HC0 hr ht hts htl hok hk hn
  cases ok with
  | false =>
    rcases HP.out with ⟨u, hu, hpu, hc⟩ | ⟨hpu, hc⟩
    · have HU := Hush.mk hc
      clear hc hpu hu HP
      go_enter Tryd.func33, Tryd.ntmps33
      go_wp2_with fail
      refine (HC.out _).mono ?_
      rintro e w1 ⟨rfl, rfl⟩
      go_wp2_with fail
      refine HU.out.mono ?_
      rintro e w2 ⟨rfl, hb⟩
      have HB := Hush.mk hb
      clear hb
      go_wp2
      go_ret2
      exact ⟨0, false, rfl, .inr ⟨rfl, rfl, fun v hv he => by have := HO.out; rw [he, prefix_of] at this; cases this⟩, HB.out⟩
    · have HU := Hush.mk hc
      clear hc hpu HP
      go_enter Tryd.func33, Tryd.ntmps33
      go_wp2_with fail
      refine (HC.out _).mono ?_
      rintro e w1 ⟨rfl, rfl⟩
      go_wp2_with fail
      refine HU.out.mono ?_
      rintro e w2 ⟨v, N, rfl, hb⟩
      have HB := Hush.mk hb
      clear hb
      go_wp2
      go_ret2
      exact ⟨0, false, rfl, .inr ⟨rfl, rfl, fun v hv he => by have := HO.out; rw [he, prefix_of] at this; cases this⟩, HB.out⟩
  | true =>
    rcases HP.out with ⟨u, hu, hpu, hc⟩ | ⟨hpu, hc⟩
    · have HU := Hush.mk hc
      have HE := Hush.mk hpu
      have HL := Hush.mk hu
      clear hc hpu hu HP
      go_enter Tryd.func33, Tryd.ntmps33
      go_wp2_with fail
      refine (HC.out _).mono ?_
      rintro e w1 ⟨rfl, rfl⟩
      go_wp2_with fail
      refine HU.out.mono ?_
      rintro e w2 ⟨rfl, hb⟩
      have HN := Hush.mk (name_any kind HK.out u HL.out w2 (HR.out.below hb).tab)
      have HB := Hush.mk hb
      clear hb
      by_cases hq : nameOf kind u = name
      · have hq1 : ((nameOf kind u).toList == name.toList) = true := by rw [hq]; simp
        have hq2 : ((nameOf kind u).toList != name.toList) = false := by rw [hq]; simp
        have HQ := Hush.mk hq
        clear hq
        go_wp2_with fail
        refine HN.out.mono ?_
        rintro e w3 ⟨rfl, hb3⟩
        have HB3 := Hush.mk (HB.out.trans (hb3.mono HB.out.size))
        clear hb3
        go_wp2
        go_ret2
        exact ⟨u, true, rfl, .inl ⟨rfl, u, HL.out, rfl, HQ.out.symm⟩, HB3.out⟩
      · have hq0 : ¬ (nameOf kind u).toList = name.toList := fun h => hq (ba_ext (by rw [ByteArray.toList_eq, ByteArray.toList_eq] at h; exact h))
        have hq1 : ((nameOf kind u).toList == name.toList) = false := by simpa using hq0
        have hq2 : ((nameOf kind u).toList != name.toList) = true := by simpa using hq0
        have HQ : Hush (∀ v : Nat, v < 18446744073709551616 → name ≠ nameOf kind v) := ⟨fun v hv he => by
          have h2 := HE.out
          rw [HT.out, he, trim_of, parse_dec v hv] at h2
          have h3 : v = u := NumEnd.ok.inj h2
          subst h3
          exact hq he.symm⟩
        clear hq hq0
        go_wp2_with fail
        refine HN.out.mono ?_
        rintro e w3 ⟨rfl, hb3⟩
        have HB3 := Hush.mk (HB.out.trans (hb3.mono HB.out.size))
        clear hb3
        go_wp2
        go_ret2
        exact ⟨0, false, rfl, .inr ⟨rfl, rfl, HQ.out⟩, HB3.out⟩
    · have HU := Hush.mk hc
      have HE := Hush.mk hpu
      clear hc hpu HP
      go_enter Tryd.func33, Tryd.ntmps33
      go_wp2_with fail
      refine (HC.out _).mono ?_
      rintro e w1 ⟨rfl, rfl⟩
      go_wp2_with fail
      refine HU.out.mono ?_
      rintro e w2 ⟨v, N, rfl, hb⟩
      have HB := Hush.mk hb
      clear hb
      go_wp2
      go_ret2
      exact ⟨0, false, rfl, .inr ⟨rfl, rfl, fun v hv he => HE.out v (by rw [HT.out, he, trim_of, parse_dec v hv])⟩, HB.out⟩
end Go.Proofs.YteilnbnnhocciaaDoor.N

/-! KN0 -/
namespace Go.Proofs.YteilnbnnhocciaaDoor.KN
open Go.RowKit Go.Proofs.YteilnbnnhocciaaDoorW.PrintWords Go.Proofs.YteilnbnnhocciaaDoorW.PrintLast Go.Proofs.YteilnbnnhocciaaDoorW.PrintMore Go.Proofs.YteilnbnnhocciaaDoorM
attribute [local go_sem] max2_int min2_int max_two min_two max_three min_three max_four min_four
set_option linter.unusedVariables false
set_option linter.unusedSimpArgs false
def errW : Option Int → Value
  | none => .nilIface
  | some c => .iface 209 (.int .i64 c)
theorem errW_none : errW none = .nilIface := rfl
theorem errW_some (c : Int) : errW (some c) = .iface 209 (.int .i64 c) := rfl
theorem info5 : (Tryd.prog.info? 5).map (fun i => (i.zero, i.size, i.bytes)) = some (some (.int .u8 0), 1, 1) := by kernel_rfl
structure S97 where
  f0 : Int
  f1 : Int
  f2 : Int
  f3 : ByteArray
  f4 : ByteArray
def z97 : S97 := ⟨(0 : Int), (0 : Int), (0 : Int), (⟨#[]⟩ : ByteArray), (⟨#[]⟩ : ByteArray)⟩
def k97 : Kd S97 := Kd.iso (Kd.pair (Kd.int .u64) (Kd.pair (Kd.int .u64) (Kd.pair (Kd.int .u64) (Kd.pair Kd.string Kd.string)))) (fun x : S97 => (x.f0, x.f1, x.f2, x.f3, x.f4))
theorem k97_open {w : World} {x : S97} {cs : List Value} (h : k97.K w x cs) : cs = [.int .u64 x.f0, .int .u64 x.f1, .int .u64 x.f2, .string x.f3, .string x.f4] := by
  obtain ⟨_, _, rfl, rfl, ⟨_, _, rfl, rfl, ⟨_, _, rfl, rfl, ⟨_, _, rfl, rfl, rfl⟩⟩⟩⟩ := h
  exact rfl
theorem k97_mkM (w : World) (base : Nat) (ok : Nat → Prop) (x : S97)  : k97.M w base ok x [.int .u64 x.f0, .int .u64 x.f1, .int .u64 x.f2, .string x.f3, .string x.f4] := ⟨[.int .u64 x.f0], [.int .u64 x.f1, .int .u64 x.f2, .string x.f3, .string x.f4], rfl, rfl, ⟨[.int .u64 x.f1], [.int .u64 x.f2, .string x.f3, .string x.f4], rfl, rfl, ⟨[.int .u64 x.f2], [.string x.f3, .string x.f4], rfl, rfl, ⟨[.string x.f3], [.string x.f4], rfl, rfl, rfl⟩⟩⟩⟩
structure S107 where
  f0 : Int
  f1 : S97
def z107 : S107 := ⟨(0 : Int), z97⟩
def k107 : Kd S107 := Kd.iso (Kd.pair (Kd.int .i64) k97) (fun x : S107 => (x.f0, x.f1))
theorem k107_open {w : World} {x : S107} {cs : List Value} (h : k107.K w x cs) : cs = [.int .i64 x.f0, .int .u64 x.f1.f0, .int .u64 x.f1.f1, .int .u64 x.f1.f2, .string x.f1.f3, .string x.f1.f4] := by
  obtain ⟨_, _, rfl, rfl, s1⟩ := h
  obtain rfl := k97_open s1
  exact rfl
theorem k107_mkM (w : World) (base : Nat) (ok : Nat → Prop) (x : S107)  : k107.M w base ok x [.int .i64 x.f0, .int .u64 x.f1.f0, .int .u64 x.f1.f1, .int .u64 x.f1.f2, .string x.f1.f3, .string x.f1.f4] := ⟨[.int .i64 x.f0], [.int .u64 x.f1.f0, .int .u64 x.f1.f1, .int .u64 x.f1.f2, .string x.f1.f3, .string x.f1.f4], rfl, rfl, (k97_mkM w base ok x.f1 )⟩
def rd_T107 (xs : List S107) (i : Int) : S107 := xs.getD i.toNat z107
theorem at_T107 {w : World} {A : Option Addr} {n : Nat} {xs : List S107} (h : Kd.C k107 w A n xs) (i : Int) (h0 : 0 ≤ i) (h1 : i < n) : ∃ ad , A = some ad ∧ w.cell? (ad.add (i.toNat * 6)) = some (.int .i64 (rd_T107 xs i).f0) ∧ w.cell? ⟨(ad.add (i.toNat * 6)).block, (ad.add (i.toNat * 6)).off + 1, none⟩ = some (.int .u64 (rd_T107 xs i).f1.f0) ∧ w.cell? ⟨(ad.add (i.toNat * 6)).block, (ad.add (i.toNat * 6)).off + 2, none⟩ = some (.int .u64 (rd_T107 xs i).f1.f1) ∧ w.cell? ⟨(ad.add (i.toNat * 6)).block, (ad.add (i.toNat * 6)).off + 3, none⟩ = some (.int .u64 (rd_T107 xs i).f1.f2) ∧ w.cell? ⟨(ad.add (i.toNat * 6)).block, (ad.add (i.toNat * 6)).off + 4, none⟩ = some (.string (rd_T107 xs i).f1.f3) ∧ w.cell? ⟨(ad.add (i.toNat * 6)).block, (ad.add (i.toNat * 6)).off + 5, none⟩ = some (.string (rd_T107 xs i).f1.f4) := by
  obtain ⟨ad, c, e, _, hK, hc0⟩ := Kd.C_get h z107 i h0 h1
  have hc : ∀ j u, c[j]? = some u → w.cell? (ad.add (i.toNat * 6 + j)) = some u := hc0
  obtain rfl := k107_open hK
  exact ⟨ad, e, hc 0 _ rfl, by rw [← add_field _ _ 1 (by omega)]; exact hc 1 _ rfl, by rw [← add_field _ _ 2 (by omega)]; exact hc 2 _ rfl, by rw [← add_field _ _ 3 (by omega)]; exact hc 3 _ rfl, by rw [← add_field _ _ 4 (by omega)]; exact hc 4 _ rfl, by rw [← add_field _ _ 5 (by omega)]; exact hc 5 _ rfl⟩
structure S111 where
  f0 : Int
  f1 : Int
def z111 : S111 := ⟨(0 : Int), (0 : Int)⟩
def k111 : Kd S111 := Kd.iso (Kd.pair (Kd.int .i64) (Kd.int .u64)) (fun x : S111 => (x.f0, x.f1))
theorem k111_open {w : World} {x : S111} {cs : List Value} (h : k111.K w x cs) : cs = [.int .i64 x.f0, .int .u64 x.f1] := by
  obtain ⟨_, _, rfl, rfl, rfl⟩ := h
  exact rfl
theorem k111_mkM (w : World) (base : Nat) (ok : Nat → Prop) (x : S111)  : k111.M w base ok x [.int .i64 x.f0, .int .u64 x.f1] := ⟨[.int .i64 x.f0], [.int .u64 x.f1], rfl, rfl, rfl⟩
def rd_T111 (xs : List S111) (i : Int) : S111 := xs.getD i.toNat z111
theorem at_T111 {w : World} {A : Option Addr} {n : Nat} {xs : List S111} (h : Kd.C k111 w A n xs) (i : Int) (h0 : 0 ≤ i) (h1 : i < n) : ∃ ad , A = some ad ∧ w.cell? (ad.add (i.toNat * 2)) = some (.int .i64 (rd_T111 xs i).f0) ∧ w.cell? ⟨(ad.add (i.toNat * 2)).block, (ad.add (i.toNat * 2)).off + 1, none⟩ = some (.int .u64 (rd_T111 xs i).f1) := by
  obtain ⟨ad, c, e, _, hK, hc0⟩ := Kd.C_get h z111 i h0 h1
  have hc : ∀ j u, c[j]? = some u → w.cell? (ad.add (i.toNat * 2 + j)) = some u := hc0
  obtain rfl := k111_open hK
  exact ⟨ad, e, hc 0 _ rfl, by rw [← add_field _ _ 1 (by omega)]; exact hc 1 _ rfl⟩
end Go.Proofs.YteilnbnnhocciaaDoor.KN

/-! KN53 -/
namespace Go.Proofs.YteilnbnnhocciaaDoor.KN
open Go.RowKit Go.Proofs.YteilnbnnhocciaaDoorW.PrintWords Go.Proofs.YteilnbnnhocciaaDoorW.PrintLast Go.Proofs.YteilnbnnhocciaaDoorW.PrintMore Go.Proofs.YteilnbnnhocciaaDoorM
attribute [local go_sem] max2_int min2_int max_two min_two max_three min_three max_four min_four
set_option linter.unusedVariables false
set_option linter.unusedSimpArgs false
def bourseref12_Name.l0 : Nat → ByteArray → Int → ByteArray → Option (ByteArray)
  | 0, _, _, _ => none
  | k + 1, x0, x1, x5 => (some (([(IntKind.u64.wrap (48 + (Int.tmod x1 10))) % 256] : List Int) : List Int)).bind fun y218 => (if (strOfNums y218).size + x5.size ≤ 9223372036854775807 then (if (IntKind.u64.wrap (Int.tdiv x1 10)) = 0 then (if x0.size + 1 ≤ 9223372036854775807 then (if (x0 ++ (⟨#[45]⟩ : ByteArray)).size + ((strOfNums y218) ++ x5).size ≤ 9223372036854775807 then (some ((x0 ++ (⟨#[45]⟩ : ByteArray)) ++ ((strOfNums y218) ++ x5))) else (none)) else (none)) else (bourseref12_Name.l0 k x0 (IntKind.u64.wrap (Int.tdiv x1 10)) ((strOfNums y218) ++ x5))) else (none))
def bourseref12_Name.f (k : Nat) (a0 : ByteArray) (a1 : Int) : Option (ByteArray) := bourseref12_Name.l0 k a0 a1 (⟨#[]⟩ : ByteArray)
set_option maxHeartbeats 8000000 in
set_option maxRecDepth 100000 in
theorem bourseref12_Name.calls (k : Nat) (a0 : ByteArray) (a1 : Int) (r : ByteArray) (w : World) (h : bourseref12_Name.f k a0 a1 = some r) :
    Calls Tryd.prog 36 #[.string a0, .int .u64 a1] w fun e w' => e = .returned (.string r) ∧ Below w.heap.size w w' := by
  have HB := Aside0.mk (Below.refl w.heap.size w)
  have H : (bourseref12_Name.l0 k a0 a1 (⟨#[]⟩ : ByteArray)) = some r := h
  clear h
  have H' := Aside0.mk H
  clear H
  go_enter Tryd.func36, Tryd.ntmps36
  go_wp2
  go_loopg [1, 5] k (fun kq v1 v5 w' => ∃ (x1_1 : Int) (x5_1 : ByteArray), v1 = .int .u64 x1_1 ∧ v5 = .string x5_1 ∧ Aside0 (bourseref12_Name.l0 kq a0 x1_1 x5_1 = some r) ∧ Aside0 (kq ≤ k) ∧ Aside0 (Below w.heap.size w w'))
  case atStart => exact ⟨(a1), ((⟨#[]⟩ : ByteArray)), (by first | rfl | (simp; done) | (simp [*]; done)), (by first | rfl | (simp; done) | (simp [*]; done)), H', ⟨Nat.le_refl _⟩, ⟨by repeat (first | (with_reducible first | exact HB.out | apply below_alloc | apply pw_below_drewN | apply below_drew1) | exact HB.out)⟩⟩
  case round =>
    clear H'
    try clear p2
    obtain ⟨x1_1, x5_1, rfl, rfl, HA, HK1, HB⟩ := hrel
    cases gk with
    | zero => exact absurd HA.out (by simp [bourseref12_Name.l0])
    | succ k1 =>
      have H := HA.out
      clear HA
      simp only [bourseref12_Name.l0] at H
      obtain ⟨y218, hy218⟩ : ∃ y_ : List Int, y_ = (([(IntKind.u64.wrap (48 + (Int.tmod x1_1 10))) % 256] : List Int)) := ⟨_, rfl⟩
      replace H : (if (strOfNums y218).size + x5_1.size ≤ 9223372036854775807 then (if (IntKind.u64.wrap (Int.tdiv x1_1 10)) = 0 then (if a0.size + 1 ≤ 9223372036854775807 then (if (a0 ++ (⟨#[45]⟩ : ByteArray)).size + ((strOfNums y218) ++ x5_1).size ≤ 9223372036854775807 then (some ((a0 ++ (⟨#[45]⟩ : ByteArray)) ++ ((strOfNums y218) ++ x5_1))) else (none)) else (none)) else (bourseref12_Name.l0 k1 a0 (IntKind.u64.wrap (Int.tdiv x1_1 10)) ((strOfNums y218) ++ x5_1))) else (none)) = some r := by first | (rw [hy218]; with_reducible exact H) | (have H2_ := (Option.bind_some _ _).symm.trans H; rw [hy218]; with_reducible exact H2_) | (have H2_ := (Option.bind_some _ _).symm.trans H; with_reducible exact H2_) | with_reducible exact H | (rw [hy218]; exact H) | exact H
      have Ny218 := Aside0.mk hy218
      clear hy218
      by_cases c3 : (strOfNums y218).size + x5_1.size ≤ 9223372036854775807
      · rw [if_pos c3] at H
        have c3b0 := eq_true c3
        have c3b1 : decide ((strOfNums y218).size + x5_1.size ≤ 9223372036854775807) = true := decide_eq_true c3
        try have c3b2 : (9223372036854775807 < (strOfNums y218).size + x5_1.size) = False := eq_false (Nat.not_lt.2 c3)
        by_cases c4 : (IntKind.u64.wrap (Int.tdiv x1_1 10)) = 0
        · rw [if_pos c4] at H
          have c4b0 : ((IntKind.u64.wrap (Int.tdiv x1_1 10)) == 0) = true := beq_iff_eq.mpr c4
          have c4b1 : ((IntKind.u64.wrap (Int.tdiv x1_1 10)) != 0) = false := bne_eq_false_iff_eq.mpr c4
          clear c4
          by_cases c5 : a0.size + 1 ≤ 9223372036854775807
          · rw [if_pos c5] at H
            have c5b0 := eq_true c5
            have c5b1 : decide (a0.size + 1 ≤ 9223372036854775807) = true := decide_eq_true c5
            try have c5b2 : (9223372036854775807 < a0.size + 1) = False := eq_false (Nat.not_lt.2 c5)
            by_cases c6 : (a0 ++ (⟨#[45]⟩ : ByteArray)).size + ((strOfNums y218) ++ x5_1).size ≤ 9223372036854775807
            · rw [if_pos c6] at H
              have c6b0 := eq_true c6
              have c6b1 : decide ((a0 ++ (⟨#[45]⟩ : ByteArray)).size + ((strOfNums y218) ++ x5_1).size ≤ 9223372036854775807) = true := decide_eq_true c6
              try have c6b2 : (9223372036854775807 < (a0 ++ (⟨#[45]⟩ : ByteArray)).size + ((strOfNums y218) ++ x5_1).size) = False := eq_false (Nat.not_lt.2 c6)
              try (have c6b3 := c6b2; simp only [ByteArray.size_append'] at c6b3)
              obtain rfl := Option.some.inj H
              go_wp2_with (first | ((with_reducible refine gate_dst (N := 10) rfl ?_); refine Kd.R_lit (Kd.int .u8) _ 5 ?hg (N := 10) ?hd (xs := ([(IntKind.u64.wrap (48 + (Int.tmod x1_1 10))) % 256] : List Int)) (inner := [.int .u8 ((IntKind.u64.wrap (48 + (Int.tmod x1_1 10))) % 256)]) (ok := fun _ => True) (okp := fun _ => True) ?hr ?hp (fun _ hk => hk) trivial (Below.refl _ _) (Nat.le_refl _) (by simp) ?_; (case hd => rfl); (case hg => rfl); (case hr => first | (go_simp; done) | (go_simp; rfl)); (case hp => exact (Reps.one (show Kd.M (Kd.int .u8) _ _ _ ((IntKind.u64.wrap (48 + (Int.tmod x1_1 10))) % 256) [.int .u8 ((IntKind.u64.wrap (48 + (Int.tmod x1_1 10))) % 256)] from rfl) (Reps.none _ _))); intro v219 w7 ho8 hb hg_ hnew_; clear hg_ hnew_; (first | rw [← Ny218.out] at ho8 | (simp only [Int.reduceToNat] at ho8; rw [← Ny218.out] at ho8)); have n0_ := Aside0.mk (Kd.R_lower ho8 (below_size (by repeat (first | (with_reducible first | exact HB.out | apply below_alloc | apply pw_below_drewN | apply below_drew1) | exact HB.out)))); have n1_ := Aside0.mk (below_step (by repeat (first | (with_reducible first | exact HB.out | apply below_alloc | apply pw_below_drewN | apply below_drew1) | exact HB.out)) hb); clear HB; have HO220 := n0_; have HB := n1_; clear n0_ n1_; clear hb ho8; have hcv9 := own_string (P := Tryd.prog) Tryd.underlying64 Tryd.underlying5 Tryd.underlying9 (Kd.own_of_R HO220.out)))
              go_ret
              exact ⟨by first | rfl | (simp [errW_none, errW_some] <;> rfl) | (simp [*, errW_none, errW_some] <;> rfl), by repeat (first | (with_reducible first | exact HB.out | apply below_alloc | apply pw_below_drewN | apply below_drew1) | exact HB.out)⟩
            · rw [if_neg c6] at H
              exact absurd H (by simp)
          · rw [if_neg c5] at H
            exact absurd H (by simp)
        · rw [if_neg c4] at H
          have c4b0 : ((IntKind.u64.wrap (Int.tdiv x1_1 10)) == 0) = false := beq_eq_false_iff_ne.mpr c4
          have c4b1 : ((IntKind.u64.wrap (Int.tdiv x1_1 10)) != 0) = true := bne_iff_ne.mpr c4
          have H' := Aside0.mk H
          clear H
          go_wp2_with (first | ((with_reducible refine gate_dst (N := 10) rfl ?_); refine Kd.R_lit (Kd.int .u8) _ 5 ?hg (N := 10) ?hd (xs := ([(IntKind.u64.wrap (48 + (Int.tmod x1_1 10))) % 256] : List Int)) (inner := [.int .u8 ((IntKind.u64.wrap (48 + (Int.tmod x1_1 10))) % 256)]) (ok := fun _ => True) (okp := fun _ => True) ?hr ?hp (fun _ hk => hk) trivial (Below.refl _ _) (Nat.le_refl _) (by simp) ?_; (case hd => rfl); (case hg => rfl); (case hr => first | (go_simp; done) | (go_simp; rfl)); (case hp => exact (Reps.one (show Kd.M (Kd.int .u8) _ _ _ ((IntKind.u64.wrap (48 + (Int.tmod x1_1 10))) % 256) [.int .u8 ((IntKind.u64.wrap (48 + (Int.tmod x1_1 10))) % 256)] from rfl) (Reps.none _ _))); intro v219 w10 ho11 hb hg_ hnew_; clear hg_ hnew_; (first | rw [← Ny218.out] at ho11 | (simp only [Int.reduceToNat] at ho11; rw [← Ny218.out] at ho11)); have n0_ := Aside0.mk (Kd.R_lower ho11 (below_size (by repeat (first | (with_reducible first | exact HB.out | apply below_alloc | apply pw_below_drewN | apply below_drew1) | exact HB.out)))); have n1_ := Aside0.mk (below_step (by repeat (first | (with_reducible first | exact HB.out | apply below_alloc | apply pw_below_drewN | apply below_drew1) | exact HB.out)) hb); clear HB; have HO220 := n0_; have HB := n1_; clear n0_ n1_; clear hb ho11; have hcv12 := own_string (P := Tryd.prog) Tryd.underlying64 Tryd.underlying5 Tryd.underlying9 (Kd.own_of_R HO220.out)))
          go_roundg k1
          case measure => have := HK1.out; omega
          case rel => exact ⟨(IntKind.u64.wrap (Int.tdiv x1_1 10)), ((strOfNums y218) ++ x5_1), (by first | rfl | (simp; done) | (simp [*]; done)), (by first | rfl | (simp; done) | (simp [*]; done)), H', ⟨by have := HK1.out; omega⟩, ⟨by repeat (first | (with_reducible first | exact HB.out | apply below_alloc | apply pw_below_drewN | apply below_drew1) | exact HB.out)⟩⟩
      · rw [if_neg c3] at H
        exact absurd H (by simp)
end Go.Proofs.YteilnbnnhocciaaDoor.KN

/-! KN54 -/
namespace Go.Proofs.YteilnbnnhocciaaDoor.KN
open Go.RowKit Go.Proofs.YteilnbnnhocciaaDoorW.PrintWords Go.Proofs.YteilnbnnhocciaaDoorW.PrintLast Go.Proofs.YteilnbnnhocciaaDoorW.PrintMore Go.Proofs.YteilnbnnhocciaaDoorM
attribute [local go_sem] max2_int min2_int max_two min_two max_three min_three max_four min_four
set_option linter.unusedVariables false
set_option linter.unusedSimpArgs false
mutual
def bourseref12_Number.j0 : Nat → ByteArray → ByteArray → Int → Bool → Option (Int × Bool)
  | 0, _, _, _, _ => none
  | k + 1, x0, x1, x6, x24 => if x24 = true then (some (0, false)) else (bourseref12_Number.l0 k x0 x1 0 x6)
def bourseref12_Number.l0 : Nat → ByteArray → ByteArray → Int → Int → Option (Int × Bool)
  | 0, _, _, _, _ => none
  | k + 1, x0, x1, x7, x8 => if x8 < (x1.size : Int) then (if 0 ≤ x8 then (if (bt x1 x8) < 48 then (some (0, false)) else (if (bt x1 x8) > 57 then (some (0, false)) else (if x7 > 1844674407370955161 then (some (0, false)) else (if x7 = 1844674407370955161 then (if (bt x1 x8) > 53 then (some (0, false)) else (bourseref12_Number.l0 k x0 x1 (IntKind.u64.wrap ((IntKind.u64.wrap (x7 * 10)) + (((bt x1 x8) - 48) % 256))) (wrap64 (x8 + 1)))) else (bourseref12_Number.l0 k x0 x1 (IntKind.u64.wrap ((IntKind.u64.wrap (x7 * 10)) + (((bt x1 x8) - 48) % 256))) (wrap64 (x8 + 1))))))) else (none)) else ((bourseref12_Name.f k x0 x7).bind fun t221 => (if t221.toList = x1.toList then (some (x7, true)) else (some (0, false))))
end
def bourseref12_Number.f (k : Nat) (a0 : ByteArray) (a1 : ByteArray) : Option (Int × Bool) := if (a1.size : Int) ≤ (wrap64 ((a0.size : Int) + 1)) then (bourseref12_Number.j0 k a0 a1 (wrap64 ((a0.size : Int) + 1)) true) else (if 0 ≤ (wrap64 ((a0.size : Int) + 1)) then (if (wrap64 ((a0.size : Int) + 1)) ≤ (a1.size : Int) then (if a0.size + 1 ≤ 9223372036854775807 then (bourseref12_Number.j0 k a0 a1 (wrap64 ((a0.size : Int) + 1)) ((a1.extract 0 ((wrap64 ((a0.size : Int) + 1)) : Int).toNat).toList != (a0 ++ (⟨#[45]⟩ : ByteArray)).toList)) else (none)) else (none)) else (none))
set_option maxHeartbeats 8000000 in
set_option maxRecDepth 100000 in
theorem bourseref12_Number.calls (k : Nat) (a0 : ByteArray) (a1 : ByteArray) (r1 : Int) (r2 : Bool) (w : World) (h : bourseref12_Number.f k a0 a1 = some (r1, r2)) :
    Calls Tryd.prog 34 #[.string a0, .string a1] w fun e w' => e = .returned (.tuple #[.int .u64 r1, .bool r2]) ∧ Below w.heap.size w w' := by
  have HB := Aside0.mk (Below.refl w.heap.size w)
  have H : (if (a1.size : Int) ≤ (wrap64 ((a0.size : Int) + 1)) then (bourseref12_Number.j0 k a0 a1 (wrap64 ((a0.size : Int) + 1)) true) else (if 0 ≤ (wrap64 ((a0.size : Int) + 1)) then (if (wrap64 ((a0.size : Int) + 1)) ≤ (a1.size : Int) then (if a0.size + 1 ≤ 9223372036854775807 then (bourseref12_Number.j0 k a0 a1 (wrap64 ((a0.size : Int) + 1)) ((a1.extract 0 ((wrap64 ((a0.size : Int) + 1)) : Int).toNat).toList != (a0 ++ (⟨#[45]⟩ : ByteArray)).toList)) else (none)) else (none)) else (none))) = some (r1, r2) := h
  clear h
  have HC3 := Aside0.mk H
  clear H
  go_enter Tryd.func34, Tryd.ntmps34
  go_upto_region 2 with (fail)
  go_cut [24] (fun v24 wc => ∃ (kq : Nat) (x24_2 : Bool), v24 = .bool x24_2 ∧ Aside0 (bourseref12_Number.j0 kq a0 a1 (wrap64 ((a0.size : Int) + 1)) x24_2 = some (r1, r2)) ∧ Aside0 (kq ≤ k) ∧ Aside0 (Below w.heap.size w wc))
  case first =>
    have H := HC3.out
    clear HC3
    by_cases c4 : (a1.size : Int) ≤ (wrap64 ((a0.size : Int) + 1))
    · rw [if_pos c4] at H
      have c4b0 : decide ((a1.size : Int) ≤ (wrap64 ((a0.size : Int) + 1))) = true := decide_eq_true c4
      clear c4
      (first | rw [c4b0] | (simp only [i64_w, i32_w]; rw [c4b0]) | skip)
      have H' := Aside0.mk H
      clear H
      go_wp2
      go_meet
      case rel => exact ⟨_, (true), (by first | rfl | (simp; done) | (simp [*]; done)), H', ⟨by first | omega | exact Nat.le_refl _⟩, ⟨by repeat (first | (with_reducible first | exact HB.out | apply below_alloc | apply pw_below_drewN | apply below_drew1) | exact HB.out)⟩⟩
    · rw [if_neg c4] at H
      have c4b0 : decide ((a1.size : Int) ≤ (wrap64 ((a0.size : Int) + 1))) = false := decide_eq_false c4
      clear c4
      (first | rw [c4b0] | (simp only [i64_w, i32_w]; rw [c4b0]) | skip)
      obtain ⟨ji5, hji5⟩ : ∃ j_ : Int, (wrap64 ((a0.size : Int) + 1)) = j_ := ⟨_, rfl⟩
      replace H : (if 0 ≤ (ji5) then (if (ji5) ≤ (a1.size : Int) then (if a0.size + 1 ≤ 9223372036854775807 then (bourseref12_Number.j0 k a0 a1 ji5 ((a1.extract 0 ((ji5) : Int).toNat).toList != (a0 ++ (⟨#[45]⟩ : ByteArray)).toList)) else (none)) else (none)) else (none)) = some (r1, r2) := by first | (rw [hji5] at H; exact H) | (simp only [hji5] at H ⊢; exact H)
      (try rw [hji5] at c4b0)
      have hji5w : (IntKind.i64.wrap ((a0.size : Int) + 1)) = ji5 := (i64_w _).trans hji5
      by_cases c6 : 0 ≤ (ji5)
      · rw [if_pos c6] at H
        have c6b0 := eq_true c6
        have c6b1 : decide (0 ≤ (ji5)) = true := decide_eq_true c6
        clear c6
        by_cases c7 : (ji5) ≤ (a1.size : Int)
        · rw [if_pos c7] at H
          have c7b0 := eq_true c7
          have c7b1 : decide ((ji5) ≤ (a1.size : Int)) = true := decide_eq_true c7
          clear c7
          by_cases c8 : a0.size + 1 ≤ 9223372036854775807
          · rw [if_pos c8] at H
            have c8b0 := eq_true c8
            have c8b1 : decide (a0.size + 1 ≤ 9223372036854775807) = true := decide_eq_true c8
            try have c8b2 : (9223372036854775807 < a0.size + 1) = False := eq_false (Nat.not_lt.2 c8)
            have H' := Aside0.mk H
            clear H
            go_wp2
            go_meet
            case rel => exact ⟨_, (((a1.extract 0 ((ji5) : Int).toNat).toList != (a0 ++ (⟨#[45]⟩ : ByteArray)).toList)), (by first | rfl | (simp; done) | (simp only [← hji5] <;> (first | rfl | simp)) | (simp [*]; done)), (by first | exact H' | (rw [hji5]; exact H')), ⟨by first | omega | exact Nat.le_refl _⟩, ⟨by repeat (first | (with_reducible first | exact HB.out | apply below_alloc | apply pw_below_drewN | apply below_drew1) | exact HB.out)⟩⟩
          · rw [if_neg c8] at H
            exact absurd H (by simp)
        · rw [if_neg c7] at H
          exact absurd H (by simp)
      · rw [if_neg c6] at H
        exact absurd H (by simp)
  case rest =>
    clear HC3
    try clear p2
    try clear c3
    try clear c4
    try clear c4b0
    try clear c6
    try clear c6b0
    try clear c6b1
    try clear p6
    try clear c7
    try clear c7b0
    try clear c7b1
    try clear c8
    try clear c8b0
    try clear c8b1
    try clear c8b2
    obtain ⟨kq, x24_2, rfl, HA, HJ2, HB⟩ := hcut
    cases kq with
    | zero => exact absurd HA.out (by simp [bourseref12_Number.j0])
    | succ kj2 =>
      have H := HA.out
      clear HA
      simp only [bourseref12_Number.j0] at H
      by_cases c9 : x24_2 = true
      · subst c9
        have H1 : (some (0, false)) = some (r1, r2) := by rw [if_pos rfl] at H; exact H
        clear H
        have H := H1
        clear H1
        simp only [Option.some.injEq, Prod.mk.injEq] at H
        obtain ⟨rfl, rfl⟩ := H
        go_wp2
        go_ret2
        exact ⟨by first | rfl | (simp [errW_none, errW_some] <;> rfl) | (simp [*, errW_none, errW_some] <;> rfl), by repeat (first | (with_reducible first | exact HB.out | apply below_alloc | apply pw_below_drewN | apply below_drew1) | exact HB.out)⟩
      · replace c9 := Bool.eq_false_iff.mpr c9
        subst c9
        have H1 : (bourseref12_Number.l0 kj2 a0 a1 0 (wrap64 ((a0.size : Int) + 1))) = some (r1, r2) := by rw [if_neg (show ¬ (false = true) by decide)] at H; exact H
        clear H
        have H := H1
        clear H1
        have H' := Aside0.mk H
        clear H
        go_wp2
        go_loopg [7, 8] kj2 (fun kq v7 v8 w' => ∃ (x7_2 : Int) (x8_2 : Int), v7 = .int .u64 x7_2 ∧ v8 = .int .i64 x8_2 ∧ Aside0 (bourseref12_Number.l0 kq a0 a1 x7_2 x8_2 = some (r1, r2)) ∧ Aside0 (kq ≤ kj2) ∧ Aside0 (Below w.heap.size w w'))
        case atStart => exact ⟨(0), ((wrap64 ((a0.size : Int) + 1))), (by first | rfl | (simp; done) | (simp [*]; done)), (by first | rfl | (simp; done) | (simp [*]; done)), H', ⟨Nat.le_refl _⟩, ⟨by repeat (first | (with_reducible first | exact HB.out | apply below_alloc | apply pw_below_drewN | apply below_drew1) | exact HB.out)⟩⟩
        case round =>
          clear H'
          try clear p2
          try clear c3
          try clear c4
          try clear c4b0
          try clear c6
          try clear c6b0
          try clear c6b1
          try clear p6
          try clear c7
          try clear c7b0
          try clear c7b1
          try clear c8
          try clear c8b0
          try clear c8b1
          try clear c8b2
          try clear c9
          try clear p2
          try clear p6
          obtain ⟨x7_2, x8_2, rfl, rfl, HA, HK2, HB⟩ := hrel
          cases gk with
          | zero => exact absurd HA.out (by simp [bourseref12_Number.l0])
          | succ k2 =>
            have H := HA.out
            clear HA
            simp only [bourseref12_Number.l0] at H
            by_cases c10 : x8_2 < (a1.size : Int)
            · rw [if_pos c10] at H
              have c10b0 : decide (x8_2 < (a1.size : Int)) = true := decide_eq_true c10
              clear c10
              by_cases c11 : 0 ≤ x8_2
              · rw [if_pos c11] at H
                have c11b0 : decide (0 ≤ x8_2) = true := decide_eq_true c11
                clear c11
                by_cases c13 : (bt a1 x8_2) < 48
                · rw [if_pos c13] at H
                  have c13b0 : decide ((bt a1 x8_2) < 48) = true := decide_eq_true c13
                  clear c13
                  simp only [Option.some.injEq, Prod.mk.injEq] at H
                  obtain ⟨rfl, rfl⟩ := H
                  have p12 : 0 ≤ (x8_2 : Int) := of_decide_eq_true (by first | (with_reducible assumption) | assumption)
                  have q12 : x8_2 < (a1.size : Int) := of_decide_eq_true (by first | (with_reducible assumption) | assumption)
                  have hx12 := bt_at a1 x8_2
                  replace p12 := eq_true p12
                  replace q12 := eq_true q12
                  go_wp2
                  go_ret2
                  exact ⟨by first | rfl | (simp [errW_none, errW_some] <;> rfl) | (simp [*, errW_none, errW_some] <;> rfl), by repeat (first | (with_reducible first | exact HB.out | apply below_alloc | apply pw_below_drewN | apply below_drew1) | exact HB.out)⟩
                · rw [if_neg c13] at H
                  have c13b0 : decide ((bt a1 x8_2) < 48) = false := decide_eq_false c13
                  clear c13
                  by_cases c14 : (bt a1 x8_2) > 57
                  · rw [if_pos c14] at H
                    have c14b0 : decide (57 < (bt a1 x8_2)) = true := decide_eq_true c14
                    clear c14
                    simp only [Option.some.injEq, Prod.mk.injEq] at H
                    obtain ⟨rfl, rfl⟩ := H
                    have p12 : 0 ≤ (x8_2 : Int) := of_decide_eq_true (by first | (with_reducible assumption) | assumption)
                    have q12 : x8_2 < (a1.size : Int) := of_decide_eq_true (by first | (with_reducible assumption) | assumption)
                    have hx12 := bt_at a1 x8_2
                    replace p12 := eq_true p12
                    replace q12 := eq_true q12
                    go_wp2
                    go_ret2
                    exact ⟨by first | rfl | (simp [errW_none, errW_some] <;> rfl) | (simp [*, errW_none, errW_some] <;> rfl), by repeat (first | (with_reducible first | exact HB.out | apply below_alloc | apply pw_below_drewN | apply below_drew1) | exact HB.out)⟩
                  · rw [if_neg c14] at H
                    have c14b0 : decide (57 < (bt a1 x8_2)) = false := decide_eq_false c14
                    clear c14
                    by_cases c15 : x7_2 > 1844674407370955161
                    · rw [if_pos c15] at H
                      have c15b0 : decide (1844674407370955161 < x7_2) = true := decide_eq_true c15
                      clear c15
                      simp only [Option.some.injEq, Prod.mk.injEq] at H
                      obtain ⟨rfl, rfl⟩ := H
                      have p12 : 0 ≤ (x8_2 : Int) := of_decide_eq_true (by first | (with_reducible assumption) | assumption)
                      have q12 : x8_2 < (a1.size : Int) := of_decide_eq_true (by first | (with_reducible assumption) | assumption)
                      have hx12 := bt_at a1 x8_2
                      replace p12 := eq_true p12
                      replace q12 := eq_true q12
                      go_wp2
                      go_ret2
                      exact ⟨by first | rfl | (simp [errW_none, errW_some] <;> rfl) | (simp [*, errW_none, errW_some] <;> rfl), by repeat (first | (with_reducible first | exact HB.out | apply below_alloc | apply pw_below_drewN | apply below_drew1) | exact HB.out)⟩
                    · rw [if_neg c15] at H
                      have c15b0 : decide (1844674407370955161 < x7_2) = false := decide_eq_false c15
                      clear c15
                      by_cases c16 : x7_2 = 1844674407370955161
                      · rw [if_pos c16] at H
                        have c16b0 : (x7_2 == 1844674407370955161) = true := beq_iff_eq.mpr c16
                        have c16b1 : (x7_2 != 1844674407370955161) = false := bne_eq_false_iff_eq.mpr c16
                        clear c16
                        by_cases c17 : (bt a1 x8_2) > 53
                        · rw [if_pos c17] at H
                          have c17b0 : decide (53 < (bt a1 x8_2)) = true := decide_eq_true c17
                          clear c17
                          simp only [Option.some.injEq, Prod.mk.injEq] at H
                          obtain ⟨rfl, rfl⟩ := H
                          have p12 : 0 ≤ (x8_2 : Int) := of_decide_eq_true (by first | (with_reducible assumption) | assumption)
                          have q12 : x8_2 < (a1.size : Int) := of_decide_eq_true (by first | (with_reducible assumption) | assumption)
                          have hx12 := bt_at a1 x8_2
                          replace p12 := eq_true p12
                          replace q12 := eq_true q12
                          go_wp2
                          go_ret2
                          exact ⟨by first | rfl | (simp [errW_none, errW_some] <;> rfl) | (simp [*, errW_none, errW_some] <;> rfl), by repeat (first | (with_reducible first | exact HB.out | apply below_alloc | apply pw_below_drewN | apply below_drew1) | exact HB.out)⟩
                        · rw [if_neg c17] at H
                          have c17b0 : decide (53 < (bt a1 x8_2)) = false := decide_eq_false c17
                          clear c17
                          have H' := Aside0.mk H
                          clear H
                          have p12 : 0 ≤ (x8_2 : Int) := of_decide_eq_true (by first | (with_reducible assumption) | assumption)
                          have q12 : x8_2 < (a1.size : Int) := of_decide_eq_true (by first | (with_reducible assumption) | assumption)
                          have hx12 := bt_at a1 x8_2
                          replace p12 := eq_true p12
                          replace q12 := eq_true q12
                          go_wp2
                          go_roundg k2
                          case measure => have := HJ2.out; have := HK2.out; omega
                          case rel => exact ⟨(IntKind.u64.wrap ((IntKind.u64.wrap (x7_2 * 10)) + (((bt a1 x8_2) - 48) % 256))), (wrap64 (x8_2 + 1)), (by first | rfl | (simp; done) | (simp [*]; done)), (by first | rfl | (simp; done) | (simp [*]; done)), H', ⟨by have := HJ2.out; have := HK2.out; omega⟩, ⟨by repeat (first | (with_reducible first | exact HB.out | apply below_alloc | apply pw_below_drewN | apply below_drew1) | exact HB.out)⟩⟩
                      · rw [if_neg c16] at H
                        have c16b0 : (x7_2 == 1844674407370955161) = false := beq_eq_false_iff_ne.mpr c16
                        have c16b1 : (x7_2 != 1844674407370955161) = true := bne_iff_ne.mpr c16
                        have H' := Aside0.mk H
                        clear H
                        have p12 : 0 ≤ (x8_2 : Int) := of_decide_eq_true (by first | (with_reducible assumption) | assumption)
                        have q12 : x8_2 < (a1.size : Int) := of_decide_eq_true (by first | (with_reducible assumption) | assumption)
                        have hx12 := bt_at a1 x8_2
                        replace p12 := eq_true p12
                        replace q12 := eq_true q12
                        go_wp2
                        go_roundg k2
                        case measure => have := HJ2.out; have := HK2.out; omega
                        case rel => exact ⟨(IntKind.u64.wrap ((IntKind.u64.wrap (x7_2 * 10)) + (((bt a1 x8_2) - 48) % 256))), (wrap64 (x8_2 + 1)), (by first | rfl | (simp; done) | (simp [*]; done)), (by first | rfl | (simp; done) | (simp [*]; done)), H', ⟨by have := HJ2.out; have := HK2.out; omega⟩, ⟨by repeat (first | (with_reducible first | exact HB.out | apply below_alloc | apply pw_below_drewN | apply below_drew1) | exact HB.out)⟩⟩
              · rw [if_neg c11] at H
                exact absurd H (by simp)
            · rw [if_neg c10] at H
              have c10b0 : decide (x8_2 < (a1.size : Int)) = false := decide_eq_false c10
              clear c10
              replace H := Option.bind_eq_some_iff.mp H
              obtain ⟨t221, A180, H⟩ := H
              replace H : (if t221.toList = a1.toList then (some (x7_2, true)) else (some (0, false))) = some (r1, r2) := H
              have A18 := Aside0.mk A180
              clear A180
              by_cases c19 : t221.toList = a1.toList
              · rw [if_pos c19] at H
                have c19b0 : (t221.toList == a1.toList) = true := beq_iff_eq.mpr c19
                have c19b1 : (t221.toList != a1.toList) = false := bne_eq_false_iff_eq.mpr c19
                clear c19
                simp only [Option.some.injEq, Prod.mk.injEq] at H
                obtain ⟨rfl, rfl⟩ := H
                go_wp2_with (first | ((with_reducible refine gate_callee (f := 36) rfl ?_); refine goesL_ (some 61) rfl rfl Tryd.func36 (by kernel_rfl) rfl #[.string a0, .int .u64 x7_2] rfl (by (try simp only [List.map_toArray, List.map_cons, List.map_nil]); first | done | rfl | (simp only [List.length_drop, List.length_take]; rfl)) ?_; (with_reducible refine (bourseref12_Name.calls k2 a0 x7_2 t221 _ A18.out).mono ?_); rintro e w20 ⟨rfl, hb⟩; refine ⟨_, rfl, ?_⟩; have n0_ := Aside0.mk (below_step (by repeat (first | (with_reducible first | exact HB.out | apply below_alloc | apply pw_below_drewN | apply below_drew1) | exact HB.out)) hb); clear HB; have HB := n0_; clear n0_; (try clear hb); (try clear hb2); (try clear hk); (try clear hi)))
                go_ret2
                exact ⟨by first | rfl | (simp [errW_none, errW_some] <;> rfl) | (simp [*, errW_none, errW_some] <;> rfl), by repeat (first | (with_reducible first | exact HB.out | apply below_alloc | apply pw_below_drewN | apply below_drew1) | exact HB.out)⟩
              · rw [if_neg c19] at H
                have c19b0 : (t221.toList == a1.toList) = false := beq_eq_false_iff_ne.mpr c19
                have c19b1 : (t221.toList != a1.toList) = true := bne_iff_ne.mpr c19
                simp only [Option.some.injEq, Prod.mk.injEq] at H
                obtain ⟨rfl, rfl⟩ := H
                go_wp2_with (first | ((with_reducible refine gate_callee (f := 36) rfl ?_); refine goesL_ (some 61) rfl rfl Tryd.func36 (by kernel_rfl) rfl #[.string a0, .int .u64 x7_2] rfl (by (try simp only [List.map_toArray, List.map_cons, List.map_nil]); first | done | rfl | (simp only [List.length_drop, List.length_take]; rfl)) ?_; (with_reducible refine (bourseref12_Name.calls k2 a0 x7_2 t221 _ A18.out).mono ?_); rintro e w21 ⟨rfl, hb⟩; refine ⟨_, rfl, ?_⟩; have n0_ := Aside0.mk (below_step (by repeat (first | (with_reducible first | exact HB.out | apply below_alloc | apply pw_below_drewN | apply below_drew1) | exact HB.out)) hb); clear HB; have HB := n0_; clear n0_; (try clear hb); (try clear hb2); (try clear hk); (try clear hi)))
                go_ret2
                exact ⟨by first | rfl | (simp [errW_none, errW_some] <;> rfl) | (simp [*, errW_none, errW_some] <;> rfl), by repeat (first | (with_reducible first | exact HB.out | apply below_alloc | apply pw_below_drewN | apply below_drew1) | exact HB.out)⟩
end Go.Proofs.YteilnbnnhocciaaDoor.KN

/-! N4 -/
set_option linter.unusedVariables false
namespace Go.Proofs.YteilnbnnhocciaaDoor.N
open Go.RowKit Go.Lib Go.Sort Go.Proofs.YteilnbnnhocciaaDoorM Go.Proofs.YteilnbnnhocciaaDoorW.PrintWords Go.Proofs.YteilnbnnhocciaaDoor.KN
def bs (l : List UInt8) : ByteArray := ⟨l.toArray⟩
theorem bs_app (l m : List UInt8) : bs l ++ bs m = bs (l ++ m) := ByteArray.mk_append_mk l m
theorem bs_size (l : List UInt8) : (bs l).size = l.length := by simp [bs, ByteArray.size]
theorem one_bs (x : Int) : strOfNums [x] = bs [UInt8.ofNat x.toNat] := ba_ext rfl
theorem wr64 {n : Int} (h1 : -9223372036854775808 ≤ n) (h2 : n ≤ 9223372036854775807) : wrap64 n = n := IntWalk.wrap64_in n ⟨by omega, by omega⟩
theorem refname_l : ∀ (d n k : Nat) (kind : ByteArray) (acc : List UInt8), n < 10 ^ (d + 1) → n < 18446744073709551616 → d < k → acc.length + d ≤ 1000000 → kind.size ≤ 1000000 →
    bourseref12_Name.l0 k kind (n : Int) (bs acc) = some (kind ++ (⟨#[45]⟩ : ByteArray) ++ bs (decDigits n ++ acc)) := by
  intro d
  induction d with
  | zero =>
    intro n k kind acc h h64 hk hl hkd
    obtain ⟨k, rfl⟩ : ∃ k', k = k' + 1 := ⟨k - 1, by omega⟩
    have h1 : n < 10 := by simpa using h
    have e1 : Int.tmod (n : Int) 10 = ((n % 10 : Nat) : Int) := by rw [Int.tmod_eq_emod_of_nonneg (by omega)]; omega
    have e2 : Int.tdiv (n : Int) 10 = ((n / 10 : Nat) : Int) := by rw [Int.tdiv_eq_ediv_of_nonneg (by omega)]; omega
    have e3 : IntKind.u64.wrap (48 + ((n % 10 : Nat) : Int)) % 256 = ((48 + n : Nat) : Int) := by rw [IntKind.wrap_u64]; omega
    have e4 : IntKind.u64.wrap ((n / 10 : Nat) : Int) = 0 := by rw [IntKind.wrap_u64]; omega
    rw [bourseref12_Name.l0]
    simp only [Option.bind_some]
    rw [e1, e2, e3, e4, one_bs, Int.toNat_natCast, bs_app, bs_size, bs_size, bs_size, if_pos (by simp; omega), if_pos rfl, if_pos (by omega), if_pos (by rw [ByteArray.size_append]; show kind.size + 1 + _ ≤ _; simp; omega), dec_small h1]
  | succ d ih =>
    intro n k kind acc h h64 hk hl hkd
    obtain ⟨k, rfl⟩ : ∃ k', k = k' + 1 := ⟨k - 1, by omega⟩
    have e1 : Int.tmod (n : Int) 10 = ((n % 10 : Nat) : Int) := by rw [Int.tmod_eq_emod_of_nonneg (by omega)]; omega
    have e2 : Int.tdiv (n : Int) 10 = ((n / 10 : Nat) : Int) := by rw [Int.tdiv_eq_ediv_of_nonneg (by omega)]; omega
    have e3 : IntKind.u64.wrap (48 + ((n % 10 : Nat) : Int)) % 256 = ((48 + n % 10 : Nat) : Int) := by rw [IntKind.wrap_u64]; omega
    have e4 : IntKind.u64.wrap ((n / 10 : Nat) : Int) = ((n / 10 : Nat) : Int) := by rw [IntKind.wrap_u64]; omega
    rw [bourseref12_Name.l0]
    simp only [Option.bind_some]
    rw [e1, e2, e3, e4, one_bs, Int.toNat_natCast, bs_app, bs_size, bs_size, bs_size, if_pos (by simp; omega)]
    by_cases h1 : n < 10
    · rw [if_pos (by omega), if_pos (by omega), if_pos (by rw [ByteArray.size_append]; show kind.size + 1 + _ ≤ _; simp; omega), dec_small h1, show 48 + n % 10 = 48 + n by omega]
    · rw [if_neg (by omega)]
      have h2 : n / 10 < 10 ^ (d + 1) := by rw [Nat.div_lt_iff_lt_mul (by decide)]; rw [Nat.pow_succ] at h; exact h
      have := ih (n / 10) k kind ([UInt8.ofNat (48 + n % 10)] ++ acc) h2 (by omega) (by omega) (by simp; omega) hkd
      rw [this, dec_big h1]
      simp only [List.append_assoc]
theorem refname_f (k : Nat) (hk : 21 ≤ k) (kind : ByteArray) (hkd : kind.size ≤ 1000000) (n : Nat) (hn : n < 18446744073709551616) : bourseref12_Name.f k kind (n : Int) = some (nameOf kind n) := by
  have h10 : (10 : Nat) ^ (19 + 1) = 100000000000000000000 := by decide
  have := refname_l 19 n k kind [] (by rw [h10]; omega) hn (by omega) (by simp) hkd
  rw [List.append_nil] at this
  exact this
theorem bt_here (s : ByteArray) (j : Nat) (c : UInt8) (r : List UInt8) (h : s.data.toList.drop j = c :: r) : j < s.size ∧ bt s (j : Int) = (c.toNat : Int) ∧ s.data.toList.drop (j + 1) = r := by
  have hl : s.data.toList.length = s.size := by simp
  have hj : j < s.data.toList.length := by
    rcases Nat.lt_or_ge j s.data.toList.length with h' | h'
    · exact h'
    · rw [List.drop_eq_nil_of_le h'] at h; cases h
  rw [List.drop_eq_getElem_cons hj] at h
  obtain ⟨h1, h2⟩ := List.cons.inj h
  refine ⟨by omega, ?_, h2⟩
  have := bt_at s (j : Int) (by omega)
  rw [← this, ← h1]
  rfl
section
variable {kind name : ByteArray} {L : List UInt8}
theorem none_of (hpre : name.data.toList = (kind ++ (⟨#[45]⟩ : ByteArray)).data.toList ++ L) (h : ∀ u, parseUint10 0 L ≠ .ok u) : NumRes kind name 0 false := by
  refine .inr ⟨rfl, rfl, fun u hu he => ?_⟩
  rw [he, nameOf_list] at hpre
  have hL := List.append_cancel_left hpre
  exact h u (by rw [← hL]; exact pu_dec u hu)
theorem refnum_l : ∀ (l : List UInt8) (n i k : Nat), name.data.toList.drop i = l → n < 18446744073709551616 → parseUint10 0 L = parseUint10 n l → l.length + 25 ≤ k → kind.size ≤ 1000 → name.size ≤ 100000 →
    name.data.toList = (kind ++ (⟨#[45]⟩ : ByteArray)).data.toList ++ L → ∃ r b, bourseref12_Number.l0 k kind name (n : Int) (i : Int) = some (r, b) ∧ NumRes kind name r b := by
  intro l
  induction l with
  | nil =>
    intro n i k hd hn hp hk hkd hnm hpre
    obtain ⟨k, rfl⟩ : ∃ k', k = k' + 1 := ⟨k - 1, by omega⟩
    have hl : name.data.toList.length = name.size := by simp
    have hi : name.size ≤ i := by
      rcases Nat.lt_or_ge i name.size with h' | h'
      · have := congrArg List.length hd
        rw [List.length_drop, hl] at this
        simp at this; omega
      · exact h'
    rw [bourseref12_Number.l0, if_neg (by omega), refname_f k (by simp at hk; omega) kind (by omega) n hn]
    simp only [Option.bind_some]
    have hp' : parseUint10 0 L = .ok n := by rw [hp]; rfl
    by_cases hq : nameOf kind n = name
    · rw [if_pos (by rw [hq])]
      exact ⟨_, _, rfl, .inl ⟨rfl, n, hn, rfl, hq.symm⟩⟩
    · have hq0 : ¬ (nameOf kind n).toList = name.toList := fun h => hq (ba_ext (by rw [ByteArray.toList_eq, ByteArray.toList_eq] at h; exact h))
      rw [if_neg hq0]
      refine ⟨_, _, rfl, .inr ⟨rfl, rfl, fun u hu he => ?_⟩⟩
      have hpre2 := hpre
      rw [he, nameOf_list] at hpre2
      have hL := List.append_cancel_left hpre2
      rw [← hL, pu_dec u hu] at hp'
      have : u = n := NumEnd.ok.inj hp'
      subst this
      exact hq he.symm
  | cons c l ih =>
    intro n i k hd hn hp hk hkd hnm hpre
    obtain ⟨k, rfl⟩ : ∃ k', k = k' + 1 := ⟨k - 1, by omega⟩
    obtain ⟨hi, hc, hd'⟩ := bt_here name i c l hd
    have hc2 := c.toNat_lt
    rw [bourseref12_Number.l0, if_pos (by omega), if_pos (by omega), hc]
    by_cases h1 : (c.toNat : Int) < 48
    · rw [if_pos h1]
      refine ⟨_, _, rfl, none_of hpre fun u => ?_⟩
      rw [hp]
      simp only [parseUint10]
      rw [if_neg (by omega)]
      exact fun h => by cases h
    · rw [if_neg h1]
      by_cases h2 : (c.toNat : Int) > 57
      · rw [if_pos h2]
        refine ⟨_, _, rfl, none_of hpre fun u => ?_⟩
        rw [hp]
        simp only [parseUint10]
        rw [if_neg (by omega)]
        exact fun h => by cases h
      · rw [if_neg h2]
        by_cases h3 : (n : Int) > 1844674407370955161
        · rw [if_pos h3]
          refine ⟨_, _, rfl, none_of hpre fun u => ?_⟩
          rw [hp]
          simp only [parseUint10]
          rw [if_pos (by omega), if_pos (by omega)]
          exact fun h => by cases h
        · rw [if_neg h3]
          by_cases h4 : (n : Int) = 1844674407370955161 ∧ (c.toNat : Int) > 53
          · rw [if_pos h4.1, if_pos h4.2]
            refine ⟨_, _, rfl, none_of hpre fun u => ?_⟩
            rw [hp]
            simp only [parseUint10]
            rw [if_pos (by omega), if_neg (by omega), if_pos (by omega)]
            exact fun h => by cases h
          · have e1 : IntKind.u64.wrap (IntKind.u64.wrap ((n : Int) * 10) + ((c.toNat : Int) - 48) % 256) = ((n * 10 + (c.toNat - 48) : Nat) : Int) := by
              rw [IntKind.wrap_u64, IntKind.wrap_u64]; omega
            have e2 : wrap64 ((i : Int) + 1) = ((i + 1 : Nat) : Int) := by rw [wr64 (by omega) (by omega)]; omega
            have hnext := ih (n * 10 + (c.toNat - 48)) (i + 1) k hd' (by omega) (by
              rw [hp]
              conv => lhs; rw [parseUint10]
              rw [if_pos (by omega), if_neg (by omega), if_neg (by omega)]) (by simp at hk; omega) hkd hnm hpre
            rw [e1, e2]
            by_cases h5 : (n : Int) = 1844674407370955161
            · rw [if_pos h5, if_neg (by omega)]
              exact hnext
            · rw [if_neg h5]
              exact hnext
end
theorem refnumber (k : Nat) (kind name : ByteArray) (hkd : kind.size ≤ 1000) (hnm : name.size ≤ 100000) (hk : name.size + 30 ≤ k) : ∃ r b, bourseref12_Number.f k kind name = some (r, b) ∧ NumRes kind name r b := by
  have e1 : wrap64 ((kind.size : Int) + 1) = ((kind.size + 1 : Nat) : Int) := by rw [wr64 (by omega) (by omega)]; omega
  have hl : name.data.toList.length = name.size := by simp
  have hkl : (kind ++ (⟨#[45]⟩ : ByteArray)).data.toList.length = kind.size + 1 := by
    rw [Array.length_toList]
    show (kind ++ (⟨#[45]⟩ : ByteArray)).size = kind.size + 1
    rw [ByteArray.size_append]
    rfl
  obtain ⟨k, rfl⟩ : ∃ k', k = k' + 1 := ⟨k - 1, by omega⟩
  unfold bourseref12_Number.f
  rw [e1]
  by_cases h1 : (name.size : Int) ≤ ((kind.size + 1 : Nat) : Int)
  · rw [if_pos h1, bourseref12_Number.j0, if_pos rfl]
    refine ⟨_, _, rfl, .inr ⟨rfl, rfl, fun u hu he => ?_⟩⟩
    have h2 := congrArg (fun x : ByteArray => x.data.toList.length) he
    simp only [nameOf_list, List.length_append, hkl, hl] at h2
    have h3 : 0 < (decDigits u).length := List.length_pos_iff.mpr (dec_ne u)
    omega
  · rw [if_neg h1, if_pos (by omega), if_pos (by omega), if_pos (by omega), bourseref12_Number.j0, Int.toNat_natCast]
    have hex : (name.extract 0 (kind.size + 1)).data.toList = name.data.toList.take (kind.size + 1) := by
      rw [Lib.extract_data]; simp
    by_cases h2 : (name.extract 0 (kind.size + 1)).toList = (kind ++ (⟨#[45]⟩ : ByteArray)).toList
    · rw [if_neg (by simp [h2])]
      rw [ByteArray.toList_eq, ByteArray.toList_eq, hex] at h2
      have hpre : name.data.toList = (kind ++ (⟨#[45]⟩ : ByteArray)).data.toList ++ name.data.toList.drop (kind.size + 1) := by
        rw [← h2, List.take_append_drop]
      have := refnum_l (L := name.data.toList.drop (kind.size + 1)) (name.data.toList.drop (kind.size + 1)) 0 (kind.size + 1) k rfl (by decide) rfl (by rw [List.length_drop, hl]; omega) hkd hnm hpre
      exact this
    · rw [if_pos (by simpa using h2)]
      refine ⟨_, _, rfl, .inr ⟨rfl, rfl, fun u hu he => h2 ?_⟩⟩
      rw [ByteArray.toList_eq, ByteArray.toList_eq, hex, he, nameOf_list, ← hkl, List.take_left]
end Go.Proofs.YteilnbnnhocciaaDoor.N

/-! M1 -/
set_option linter.unusedVariables false
namespace Go.Proofs
open Go.Shelf
def Tryd.lays169_ren : Go.Shelf.Ren := ⟨fun | 169 => 83 | n => n, fun | 70 => 138 | 9 => 9 | 0 => 0 | 72 => 140 | 37 => 64 | 127 => 188 | 3 => 3 | 5 => 5 | n => n, fun | n => n⟩
theorem Tryd.lays169 : Go.Proofs.Lays.n169 Tryd.prog Tryd.lays169_ren := {
  mixed := by kernel_rfl
  f169 := Tryd.func83.trans (congrArg some (by kernel_rfl))
  t0 := Tryd.underlying0
  a0 := Tryd.isAgg0
  z0 := Tryd.sizeOf0
  v0 := Tryd.zeroValue0
  t3 := Tryd.underlying3
  a3 := Tryd.isAgg3
  z3 := Tryd.sizeOf3
  v3 := Tryd.zeroValue3
  t9 := Tryd.underlying9
  a9 := Tryd.isAgg9
  z9 := Tryd.sizeOf9
  v9 := Tryd.zeroValue9
  t37 := Tryd.underlying64
  a37 := Tryd.isAgg64
  z37 := Tryd.sizeOf64
  v37 := Tryd.zeroValue64
  t70 := Tryd.underlying138
  a70 := Tryd.isAgg138
  z70 := Tryd.sizeOf138
  v70 := Tryd.zeroValue138
  t72 := Tryd.underlying140
  a72 := Tryd.isAgg140
  z72 := Tryd.sizeOf140
  v72 := Tryd.zeroValue140
  t127 := Tryd.underlying188
  a127 := Tryd.isAgg188
  z127 := Tryd.sizeOf188
  v127 := Tryd.zeroValue188 }
theorem Tryd.Builder_Extra_169 : Builder.Extra Tryd.prog Tryd.lays169_ren := {
  sizeBuilder := by kernel_rfl
  liesBuilder := by kernel_rfl
  t5 := Tryd.underlying5
  a5 := Tryd.isAgg5
  z5 := Tryd.sizeOf5
  v5 := Tryd.zeroValue5
  infoByte := by kernel_rfl
  cellsByte := by kernel_rfl
  sizeByte := by kernel_rfl
  neB5 := by decide }
open Go.RowKit in
open Go.RowKit in
open Go.RowKit in
theorem Tryd.Builder_String_any (B b : Nat) (l : List UInt8) (w : World) (h : Lib.IsBuilder 140 5 B b (Lib.byteCells l) w) (hBw : B ≤ w.heap.size) :
    Calls Tryd.prog 83 #[.pointer (some ⟨b, 0, none⟩)] w fun e w' => e = .returned (.string ⟨l.toArray⟩) ∧ Below B w w' := Any.Builder_String_any Tryd.lays169 Tryd.Builder_Extra_169 B b l w h hBw
end Go.Proofs
namespace Go.Proofs.YteilnbnnhocciaaDoorM
open Go.RowKit
theorem infoB : (Tryd.prog.info? 140).map (fun i => i.size) = some 2 := by kernel_rfl
theorem info5 : (Tryd.prog.info? 5).map (fun i => (i.zero, i.size, i.bytes)) = some (some (.int .u8 0), 1, 1) := by kernel_rfl
theorem liesB : liesAt Tryd.prog Tryd.prog.depth 140 (2 / Tryd.prog.cellsOf 140) 0 140 1 = true := by kernel_rfl
set_option maxHeartbeats 1000000 in
set_option maxRecDepth 100000 in
theorem copyCheck_used (b : Nat) (w : World) (h0 : w.cell? ⟨b, 0, none⟩ = some (.pointer (some ⟨b, 0, none⟩))) :
    Calls Tryd.prog 118 #[.pointer (some ⟨b, 0, none⟩)] w fun e w' => e = .returned (.tuple #[]) ∧ w' = w := by
  obtain ⟨j, hj, _⟩ := Option.map_eq_some_iff.1 infoB
  go_enter Tryd.func118, Tryd.ntmps118
  go_wp2
  rw [Lib.run_neq_ptr_same w _ Tryd.underlying138 hj]
  go_wp2
  go_end0
  exact ⟨rfl, rfl⟩
set_option maxHeartbeats 1000000 in
set_option maxRecDepth 100000 in
theorem copyCheck_fresh (b : Nat) (w : World) (h0 : w.cell? ⟨b, 0, none⟩ = some (.pointer none)) (hsh : w.shape? b = some (140, 2)) (hfz : w.frozen? ⟨b, 0, none⟩ = false) :
    Calls Tryd.prog 118 #[.pointer (some ⟨b, 0, none⟩)] w fun e w' => e = .returned (.tuple #[]) ∧ w' = w.setCell ⟨b, 0, none⟩ (.pointer (some ⟨b, 0, none⟩)) := by
  obtain ⟨j, hj, hjs⟩ := Option.map_eq_some_iff.1 infoB
  go_enter Tryd.func118, Tryd.ntmps118
  go_wp2
  rw [Lib.run_to_unsafe w ⟨b, 0, none⟩ Tryd.underlying138 Tryd.underlying203 hj (by rw [hjs]; decide) hsh (Nat.zero_lt_succ 1)]
  simp only [Result.andThen]
  rw [Oper.upon_value]
  go_wp2
  rw [run_callFunc_extern Tryd.func143 (by kernel_rfl) (by kernel_rfl) (by kernel_rfl) (e := Extern.AbiNoEscape.same) (by kernel_rfl)]
  rw [Lib.run_noEscape]
  simp only [Result.andThen]
  rw [Oper.upon_value]
  go_wp2
  rw [Lib.run_from_unsafe w ⟨b, 0, none⟩ Tryd.underlying203 Tryd.underlying138 hj hsh liesB]
  simp only [Result.andThen]
  rw [Oper.upon_value]
  go_wp2
  go_end0
  exact ⟨rfl, rfl⟩
theorem copyCheck (B b : Nat) (bs : List Value) (w : World) (h : Lib.IsBuilder 140 5 B b bs w) :
    Calls Tryd.prog 118 #[.pointer (some ⟨b, 0, none⟩)] w fun e w' => e = .returned (.tuple #[]) ∧ (Lib.BuilderAt 140 5 B b (.pointer (some ⟨b, 0, none⟩)) bs w' ∧ Below B w w') := by
  rcases h with h | h
  · refine (copyCheck_fresh b w h.cell0 h.shape h.frozen0).mono ?_
    rintro e w' ⟨rfl, rfl⟩
    exact ⟨rfl, h.used _, (Below.refl B w).setCell (p := ⟨b, 0, none⟩) h.1 _⟩
  · refine (copyCheck_used b w h.cell0).mono ?_
    rintro e w' ⟨rfl, rfl⟩
    exact ⟨rfl, h, Below.refl B _⟩
set_option maxHeartbeats 2000000 in
set_option maxRecDepth 100000 in
theorem writeString (B b : Nat) (bs : List Value) (s : ByteArray) (w : World) (h : Lib.IsBuilder 140 5 B b bs w) (hlen : bs.length + s.size ≤ 140737488355328) (hBw : B ≤ w.heap.size) :
    Calls Tryd.prog 78 #[.pointer (some ⟨b, 0, none⟩), .string s] w fun e w' => e = .returned (.tuple #[.int .i64 s.size, .nilIface]) ∧ (Lib.BuilderAt 140 5 B b (.pointer (some ⟨b, 0, none⟩)) (bs ++ Lib.strCells s) w' ∧ Below B w w') := by
  obtain ⟨i0, hi, hz0, hz1, hz2⟩ := info_parts info5
  go_enter Tryd.func78, Tryd.ntmps78
  go_wp2_with (go_at_call 118; refine (copyCheck B b bs _ h).mono ?_)
  rintro e w1 ⟨rfl, h1, hb1⟩
  obtain ⟨hB, v, hbk, hown, hne⟩ := h1
  have c0 : w1.cell? ⟨b, 0, none⟩ = some (.pointer (some ⟨b, 0, none⟩)) := by rw [Lib.cell_of_heap hbk]; rfl
  have c1 : w1.cell? ⟨b, 1, none⟩ = some v := by rw [Lib.cell_of_heap hbk]; rfl
  go_wp2_with (at_builtin; refine Lib.wpList_append_own_string _ rfl _ _ 64 9 rfl B 5 i0 Tryd.underlying64 Tryd.underlying9 hi hz0 hz1 hz2 _ _ _ rfl hown s rfl ?c3 ?c4 ?c5 ?_)
  case c3 => unfold maxLen; omega
  case c4 => omega
  case c5 => have := hb1.size; omega
  intro v' w2 hown' hgrow _
  have hlt : b < w1.heap.size := by
    rcases Nat.lt_or_ge b w1.heap.size with h' | h'
    · exact h'
    · simp [Array.getElem?_eq_none h'] at hbk
  have hb2 : w2.heap[b]? = some (.cells #[.pointer (some ⟨b, 0, none⟩), v] 140 (0, 0)) := by
    rw [hgrow.block b hlt (fun e => hne e.symm)]
    exact hbk
  have d0 : w2.cell? ⟨b, 0, none⟩ = some (.pointer (some ⟨b, 0, none⟩)) := by rw [Lib.cell_of_heap hb2]; rfl
  have d1 : w2.cell? ⟨b, 1, none⟩ = some v := by rw [Lib.cell_of_heap hb2]; rfl
  have f1 : w2.frozen? ⟨b, 1, none⟩ = false := Lib.frozen_of_heap hb2 1
  obtain ⟨ao, n', cap, rfl⟩ : ∃ ao n' cap, v' = .slice ao n' cap := by
    rcases hown'.2 with ⟨hv, _⟩ | ⟨g, cap, cur, hv, _⟩
    · exact ⟨_, _, _, hv⟩
    · exact ⟨_, _, _, hv⟩
  go_wp2
  go_ret2
  refine ⟨rfl, ?_, ?_⟩
  · exact Lib.BuilderAt.put (T := 140) (e := 5) hB hb2 (bs' := bs ++ Lib.strCells s) (by simpa [Lib.strCells_length] using hown') (by decide)
  · exact (hb1.grown hgrow (by have := hb1.size; omega) (fun k hk => (hown.lt k hk).1)).setCell (p := ⟨b, 1, none⟩) hB _
theorem builderAt_below {T e : TypeId} {B b : Nat} {p : Value} {bs : List Value} {w w1 : World} (h : Lib.BuilderAt T e B b p bs w) (hb : Below w.heap.size w w1) : Lib.BuilderAt T e B b p bs w1 := by
  obtain ⟨hB, v, hbk, hown, hne⟩ := h
  have hlt : b < w.heap.size := Lib.BuilderAt.lt ⟨hB, v, hbk, hown, hne⟩
  exact ⟨hB, v, (hb.block b hlt).trans hbk, hown.kept (row := none) ⟨hb.os, hb.tape, hb.output, hb.size, fun i hi _ => hb.block i hi⟩ (by cases v.ownBlock <;> simp), hne⟩
theorem builder_below {T e : TypeId} {B b : Nat} {bs : List Value} {w w1 : World} (h : Lib.IsBuilder T e B b bs w) (hb : Below w.heap.size w w1) : Lib.IsBuilder T e B b bs w1 :=
  h.elim (fun h => .inl (builderAt_below h hb)) (fun h => .inr (builderAt_below h hb))
end Go.Proofs.YteilnbnnhocciaaDoorM

/-! K0 -/
namespace Go.Proofs.YteilnbnnhocciaaDoor.K
open Go.RowKit Go.Proofs.YteilnbnnhocciaaDoorW.PrintWords Go.Proofs.YteilnbnnhocciaaDoorW.PrintLast Go.Proofs.YteilnbnnhocciaaDoorW.PrintMore Go.Proofs.YteilnbnnhocciaaDoorM
attribute [local go_sem] max2_int min2_int max_two min_two max_three min_three max_four min_four
set_option linter.unusedVariables false
set_option linter.unusedSimpArgs false
def errW : Option Int → Value
  | none => .nilIface
  | some c => .iface 0 (.int .i64 c)
theorem errW_none : errW none = .nilIface := rfl
theorem errW_some (c : Int) : errW (some c) = .iface 0 (.int .i64 c) := rfl
theorem info5 : (Tryd.prog.info? 5).map (fun i => (i.zero, i.size, i.bytes)) = some (some (.int .u8 0), 1, 1) := by kernel_rfl
structure S97 where
  f0 : Int
  f1 : Int
  f2 : Int
  f3 : ByteArray
  f4 : ByteArray
def z97 : S97 := ⟨(0 : Int), (0 : Int), (0 : Int), (⟨#[]⟩ : ByteArray), (⟨#[]⟩ : ByteArray)⟩
def k97 : Kd S97 := Kd.iso (Kd.pair (Kd.int .u64) (Kd.pair (Kd.int .u64) (Kd.pair (Kd.int .u64) (Kd.pair Kd.string Kd.string)))) (fun x : S97 => (x.f0, x.f1, x.f2, x.f3, x.f4))
theorem k97_open {w : World} {x : S97} {cs : List Value} (h : k97.K w x cs) : cs = [.int .u64 x.f0, .int .u64 x.f1, .int .u64 x.f2, .string x.f3, .string x.f4] := by
  obtain ⟨_, _, rfl, rfl, ⟨_, _, rfl, rfl, ⟨_, _, rfl, rfl, ⟨_, _, rfl, rfl, rfl⟩⟩⟩⟩ := h
  exact rfl
theorem k97_mkM (w : World) (base : Nat) (ok : Nat → Prop) (x : S97)  : k97.M w base ok x [.int .u64 x.f0, .int .u64 x.f1, .int .u64 x.f2, .string x.f3, .string x.f4] := ⟨[.int .u64 x.f0], [.int .u64 x.f1, .int .u64 x.f2, .string x.f3, .string x.f4], rfl, rfl, ⟨[.int .u64 x.f1], [.int .u64 x.f2, .string x.f3, .string x.f4], rfl, rfl, ⟨[.int .u64 x.f2], [.string x.f3, .string x.f4], rfl, rfl, ⟨[.string x.f3], [.string x.f4], rfl, rfl, rfl⟩⟩⟩⟩
structure S107 where
  f0 : Int
  f1 : S97
def z107 : S107 := ⟨(0 : Int), z97⟩
def k107 : Kd S107 := Kd.iso (Kd.pair (Kd.int .i64) k97) (fun x : S107 => (x.f0, x.f1))
theorem k107_open {w : World} {x : S107} {cs : List Value} (h : k107.K w x cs) : cs = [.int .i64 x.f0, .int .u64 x.f1.f0, .int .u64 x.f1.f1, .int .u64 x.f1.f2, .string x.f1.f3, .string x.f1.f4] := by
  obtain ⟨_, _, rfl, rfl, s1⟩ := h
  obtain rfl := k97_open s1
  exact rfl
theorem k107_mkM (w : World) (base : Nat) (ok : Nat → Prop) (x : S107)  : k107.M w base ok x [.int .i64 x.f0, .int .u64 x.f1.f0, .int .u64 x.f1.f1, .int .u64 x.f1.f2, .string x.f1.f3, .string x.f1.f4] := ⟨[.int .i64 x.f0], [.int .u64 x.f1.f0, .int .u64 x.f1.f1, .int .u64 x.f1.f2, .string x.f1.f3, .string x.f1.f4], rfl, rfl, (k97_mkM w base ok x.f1 )⟩
def rd_T107 (xs : List S107) (i : Int) : S107 := xs.getD i.toNat z107
theorem at_T107 {w : World} {A : Option Addr} {n : Nat} {xs : List S107} (h : Kd.C k107 w A n xs) (i : Int) (h0 : 0 ≤ i) (h1 : i < n) : ∃ ad , A = some ad ∧ w.cell? (ad.add (i.toNat * 6)) = some (.int .i64 (rd_T107 xs i).f0) ∧ w.cell? ⟨(ad.add (i.toNat * 6)).block, (ad.add (i.toNat * 6)).off + 1, none⟩ = some (.int .u64 (rd_T107 xs i).f1.f0) ∧ w.cell? ⟨(ad.add (i.toNat * 6)).block, (ad.add (i.toNat * 6)).off + 2, none⟩ = some (.int .u64 (rd_T107 xs i).f1.f1) ∧ w.cell? ⟨(ad.add (i.toNat * 6)).block, (ad.add (i.toNat * 6)).off + 3, none⟩ = some (.int .u64 (rd_T107 xs i).f1.f2) ∧ w.cell? ⟨(ad.add (i.toNat * 6)).block, (ad.add (i.toNat * 6)).off + 4, none⟩ = some (.string (rd_T107 xs i).f1.f3) ∧ w.cell? ⟨(ad.add (i.toNat * 6)).block, (ad.add (i.toNat * 6)).off + 5, none⟩ = some (.string (rd_T107 xs i).f1.f4) := by
  obtain ⟨ad, c, e, _, hK, hc0⟩ := Kd.C_get h z107 i h0 h1
  have hc : ∀ j u, c[j]? = some u → w.cell? (ad.add (i.toNat * 6 + j)) = some u := hc0
  obtain rfl := k107_open hK
  exact ⟨ad, e, hc 0 _ rfl, by rw [← add_field _ _ 1 (by omega)]; exact hc 1 _ rfl, by rw [← add_field _ _ 2 (by omega)]; exact hc 2 _ rfl, by rw [← add_field _ _ 3 (by omega)]; exact hc 3 _ rfl, by rw [← add_field _ _ 4 (by omega)]; exact hc 4 _ rfl, by rw [← add_field _ _ 5 (by omega)]; exact hc 5 _ rfl⟩
structure S111 where
  f0 : Int
  f1 : Int
def z111 : S111 := ⟨(0 : Int), (0 : Int)⟩
def k111 : Kd S111 := Kd.iso (Kd.pair (Kd.int .i64) (Kd.int .u64)) (fun x : S111 => (x.f0, x.f1))
theorem k111_open {w : World} {x : S111} {cs : List Value} (h : k111.K w x cs) : cs = [.int .i64 x.f0, .int .u64 x.f1] := by
  obtain ⟨_, _, rfl, rfl, rfl⟩ := h
  exact rfl
theorem k111_mkM (w : World) (base : Nat) (ok : Nat → Prop) (x : S111)  : k111.M w base ok x [.int .i64 x.f0, .int .u64 x.f1] := ⟨[.int .i64 x.f0], [.int .u64 x.f1], rfl, rfl, rfl⟩
def rd_T111 (xs : List S111) (i : Int) : S111 := xs.getD i.toNat z111
theorem at_T111 {w : World} {A : Option Addr} {n : Nat} {xs : List S111} (h : Kd.C k111 w A n xs) (i : Int) (h0 : 0 ≤ i) (h1 : i < n) : ∃ ad , A = some ad ∧ w.cell? (ad.add (i.toNat * 2)) = some (.int .i64 (rd_T111 xs i).f0) ∧ w.cell? ⟨(ad.add (i.toNat * 2)).block, (ad.add (i.toNat * 2)).off + 1, none⟩ = some (.int .u64 (rd_T111 xs i).f1) := by
  obtain ⟨ad, c, e, _, hK, hc0⟩ := Kd.C_get h z111 i h0 h1
  have hc : ∀ j u, c[j]? = some u → w.cell? (ad.add (i.toNat * 2 + j)) = some u := hc0
  obtain rfl := k111_open hK
  exact ⟨ad, e, hc 0 _ rfl, by rw [← add_field _ _ 1 (by omega)]; exact hc 1 _ rfl⟩
structure S112 where
  f0 : Int
  f1 : Int
  f2 : Int
  f3 : ByteArray
  f4 : ByteArray
structure S114 where
  f0 : Int
  f1 : S112
structure S115 where
  f0 : Int
  f1 : Int
structure S36 where
  f0 : Int
  f1 : Int
  f2 : Int
  f3 : (List S114)
  f4 : (List S115)
def z36 : S36 := ⟨(0 : Int), (0 : Int), (0 : Int), ([] : List S114), ([] : List S115)⟩
end Go.Proofs.YteilnbnnhocciaaDoor.K

/-! K5 -/
namespace Go.Proofs.YteilnbnnhocciaaDoor.K
open Go.RowKit Go.Proofs.YteilnbnnhocciaaDoorW.PrintWords Go.Proofs.YteilnbnnhocciaaDoorW.PrintLast Go.Proofs.YteilnbnnhocciaaDoorW.PrintMore Go.Proofs.YteilnbnnhocciaaDoorM
attribute [local go_sem] max2_int min2_int max_two min_two max_three min_three max_four min_four
set_option linter.unusedVariables false
set_option linter.unusedSimpArgs false
attribute [local go_sem] gtr_run leq_run geq_run
def edit_levelB (n : Int) : Bool := decide (0 ≤ n ∧ n < 4)
def edit_keyedB (s : ByteArray) : Bool := decide (0 < s.size ∧ s.size ≤ 200)
def edit_wrong.val (lv num : Int) (least most : ByteArray) : Int :=
  if edit_levelB lv = false then 21 else if (edit_keyedB least && edit_keyedB most && !Op.bytesLess most.toList least.toList) = false then 19 else if num = 0 then 8 else 0
set_option maxHeartbeats 1000000 in
theorem edit_level.any (n : Int) (w : World) : Calls Tryd.prog 70 #[.int .i64 n] w fun e w' => e = .returned (.bool (edit_levelB n)) ∧ w = w' := by
  unfold edit_levelB
  by_cases h0 : 0 ≤ n <;> by_cases h1 : n < 4
  all_goals
    go_enter Tryd.func70, Tryd.ntmps70
    go_wp2
    go_ret
    exact ⟨by simp [h0, h1], rfl⟩
set_option maxHeartbeats 1000000 in
theorem edit_keyed.any (s : ByteArray) (w : World) : Calls Tryd.prog 113 #[.string s] w fun e w' => e = .returned (.bool (edit_keyedB s)) ∧ w = w' := by
  unfold edit_keyedB
  by_cases h0 : s.toList = []
  · have h2 := (toList_nil_iff s).1 h0
    go_enter Tryd.func113, Tryd.ntmps113
    go_wp2
    go_ret
    exact ⟨by simp [h2], rfl⟩
  · have h2 : ¬ s.size = 0 := fun h => h0 ((toList_nil_iff s).2 h)
    have h3 : s.toList.isEmpty = false := by simpa using h0
    have h4 : (s.toList == []) = false := by simpa using h0
    go_enter Tryd.func113, Tryd.ntmps113
    go_wp2
    go_ret
    exact ⟨by simp [Nat.pos_of_ne_zero h2]; omega, rfl⟩
def edit_wrong.Post (w : World) (r : Int) (e : Ending) (w' : World) : Prop := e = .returned (.int .i64 r) ∧ Below w.heap.size w w'
set_option maxHeartbeats 2000000 in
set_option maxRecDepth 100000 in
theorem edit_wrong.walk (a0_0 : Int) (a0_1 : Int) (a0_2 : Int) (a0_3 : Int) (a0_4 : ByteArray) (a0_5 : ByteArray) (w : World) :
    Calls Tryd.prog 67 #[.agg #[.int .i64 a0_0, .int .u64 a0_1, .int .u64 a0_2, .int .u64 a0_3, .string a0_4, .string a0_5]] w (edit_wrong.Post w (edit_wrong.val a0_0 a0_1 a0_4 a0_5)) := by
  have B2 := fun (o o' : Obj) => Hush.mk (((Below.refl w.heap.size w).alloc (Nat.le_refl _) o).alloc (by simp) o')
  by_cases hl : edit_levelB a0_0 = true
  · by_cases hk : edit_keyedB a0_4 = true
    · by_cases hk2 : edit_keyedB a0_5 = true
      · by_cases hg : Op.bytesLess a0_5.toList a0_4.toList = true
        · have hv : Hush (edit_wrong.val a0_0 a0_1 a0_4 a0_5 = 19) := ⟨by simp [edit_wrong.val, hl, hk, hk2, hg]⟩
          go_enter Tryd.func67, Tryd.ntmps67
          go_wp2_with fail
          refine (edit_level.any _ _).mono ?_
          rintro e w1 ⟨rfl, rfl⟩
          go_wp2_with fail
          refine (edit_keyed.any _ _).mono ?_
          rintro e w1 ⟨rfl, rfl⟩
          go_wp2_with fail
          refine (edit_keyed.any _ _).mono ?_
          rintro e w1 ⟨rfl, rfl⟩
          go_wp2
          go_ret
          exact ⟨by rw [hv.out]; rfl, (B2 _ _).out⟩
        · have hg' : Op.bytesLess a0_5.toList a0_4.toList = false := by simpa using hg
          by_cases hz : a0_1 = 0
          · have hv : Hush (edit_wrong.val a0_0 a0_1 a0_4 a0_5 = 8) := ⟨by simp [edit_wrong.val, hl, hk, hk2, hg', hz]⟩
            have hz' : (a0_1 == 0) = true := by simpa using hz
            clear hg hz
            go_enter Tryd.func67, Tryd.ntmps67
            go_wp2_with fail
            refine (edit_level.any _ _).mono ?_
            rintro e w1 ⟨rfl, rfl⟩
            go_wp2_with fail
            refine (edit_keyed.any _ _).mono ?_
            rintro e w1 ⟨rfl, rfl⟩
            go_wp2_with fail
            refine (edit_keyed.any _ _).mono ?_
            rintro e w1 ⟨rfl, rfl⟩
            go_wp2
            go_ret
            exact ⟨by rw [hv.out]; rfl, (B2 _ _).out⟩
          · have hv : Hush (edit_wrong.val a0_0 a0_1 a0_4 a0_5 = 0) := ⟨by simp [edit_wrong.val, hl, hk, hk2, hg', hz]⟩
            have hz' : (a0_1 == 0) = false := by simpa using hz
            clear hg hz
            go_enter Tryd.func67, Tryd.ntmps67
            go_wp2_with fail
            refine (edit_level.any _ _).mono ?_
            rintro e w1 ⟨rfl, rfl⟩
            go_wp2_with fail
            refine (edit_keyed.any _ _).mono ?_
            rintro e w1 ⟨rfl, rfl⟩
            go_wp2_with fail
            refine (edit_keyed.any _ _).mono ?_
            rintro e w1 ⟨rfl, rfl⟩
            go_wp2
            go_ret
            exact ⟨by rw [hv.out]; rfl, (B2 _ _).out⟩
      · have hk2' : edit_keyedB a0_5 = false := by simpa using hk2
        have hv : Hush (edit_wrong.val a0_0 a0_1 a0_4 a0_5 = 19) := ⟨by simp [edit_wrong.val, hl, hk, hk2']⟩
        clear hk2
        go_enter Tryd.func67, Tryd.ntmps67
        go_wp2_with fail
        refine (edit_level.any _ _).mono ?_
        rintro e w1 ⟨rfl, rfl⟩
        go_wp2_with fail
        refine (edit_keyed.any _ _).mono ?_
        rintro e w1 ⟨rfl, rfl⟩
        go_wp2_with fail
        refine (edit_keyed.any _ _).mono ?_
        rintro e w1 ⟨rfl, rfl⟩
        go_wp2
        go_ret
        exact ⟨by rw [hv.out]; rfl, (B2 _ _).out⟩
    · have hk' : edit_keyedB a0_4 = false := by simpa using hk
      have hv : Hush (edit_wrong.val a0_0 a0_1 a0_4 a0_5 = 19) := ⟨by simp [edit_wrong.val, hl, hk']⟩
      clear hk
      go_enter Tryd.func67, Tryd.ntmps67
      go_wp2_with fail
      refine (edit_level.any _ _).mono ?_
      rintro e w1 ⟨rfl, rfl⟩
      go_wp2_with fail
      refine (edit_keyed.any _ _).mono ?_
      rintro e w1 ⟨rfl, rfl⟩
      go_wp2
      go_ret
      exact ⟨by rw [hv.out]; rfl, (B2 _ _).out⟩
  · have hl' : edit_levelB a0_0 = false := by simpa using hl
    have hv : Hush (edit_wrong.val a0_0 a0_1 a0_4 a0_5 = 21) := ⟨by simp [edit_wrong.val, hl']⟩
    clear hl
    go_enter Tryd.func67, Tryd.ntmps67
    go_wp2_with fail
    refine (edit_level.any _ _).mono ?_
    rintro e w1 ⟨rfl, rfl⟩
    go_wp2
    go_ret
    exact ⟨by rw [hv.out]; rfl, (B2 _ _).out⟩
end Go.Proofs.YteilnbnnhocciaaDoor.K

/-! K6 -/
namespace Go.Proofs.YteilnbnnhocciaaDoor.K
open Go.RowKit Go.Proofs.YteilnbnnhocciaaDoorW.PrintWords Go.Proofs.YteilnbnnhocciaaDoorW.PrintLast Go.Proofs.YteilnbnnhocciaaDoorW.PrintMore Go.Proofs.YteilnbnnhocciaaDoorM
attribute [local go_sem] max2_int min2_int max_two min_two max_three min_three max_four min_four
set_option linter.unusedVariables false
set_option linter.unusedSimpArgs false
def edit_goneB (g : S111) : Bool := !edit_levelB g.f0
def edit_firstWrong : List S107 → Int
  | [] => 0
  | a :: r => if edit_wrong.val a.f0 a.f1.f0 a.f1.f3 a.f1.f4 = 0 then edit_firstWrong r else edit_wrong.val a.f0 a.f1.f0 a.f1.f3 a.f1.f4
def edit_Edit_Check.val (come : List S107) (gone : List S111) : Int :=
  if 200 < come.length ∨ 200 < gone.length then 6 else if edit_firstWrong come ≠ 0 then edit_firstWrong come else if gone.any edit_goneB then 21 else 0
def edit_Edit_Check.f (a0_0 : Int) (a0_1 : Int) (a0_2 : Int) (l0_3 : List (S107)) (l0_4 : List (S111)) : Option (Int) := some (edit_Edit_Check.val l0_3 l0_4)
set_option maxHeartbeats 1000000 in
theorem edit_check1.any (a b : Int) (w : World) : Calls Tryd.prog 69 #[.agg #[.int .i64 a, .int .u64 b]] w fun e w' => e = .returned (.bool (!edit_levelB a)) ∧ Below w.heap.size w w' := by
  have B1 := fun (o : Obj) => Hush.mk ((Below.refl w.heap.size w).alloc (Nat.le_refl _) o)
  go_enter Tryd.func69, Tryd.ntmps69
  go_wp2_with fail
  refine (edit_level.any _ _).mono ?_
  rintro e w1 ⟨rfl, rfl⟩
  go_wp2
  go_ret
  exact ⟨rfl, (B1 _).out⟩
def edit_index.Post (w : World) (l : List S111) (e : Ending) (w' : World) : Prop := ∃ r : Int, e = .returned (.int .i64 r) ∧ -1 ≤ r ∧ decide (0 ≤ r) = l.any edit_goneB ∧ Below w.heap.size w w'
def edit_index.J (w : World) (l : List S111) (i : Nat) (wr : World) : Prop := i ≤ l.length ∧ (l.take i).any edit_goneB = false ∧ Below w.heap.size w wr
set_option maxHeartbeats 2000000 in
set_option maxRecDepth 100000 in
theorem edit_index.any (A : Option Addr) (c : Nat) (l : List S111) (w : World) (hr : Kd.C k111 w A l.length l) :
    Calls Tryd.prog 114 #[.slice A l.length c, .func (.func 69) #[] #[]] w (edit_index.Post w l) := by
  have hlen := Kd.C_max hr
  have HR := Hush.mk hr
  clear hr
  go_enter Tryd.func114, Tryd.ntmps114
  go_wp2
  go_loopw [5, 8] (fun _ i wr => ∃ k' : Nat, i = .int .i64 k' ∧ edit_index.J w l k' wr) (fun _ i _ => l.length - (intOf i).toNat)
  case atStart => exact ⟨0, rfl, by omega, by simp, Below.refl _ _⟩
  case round =>
    obtain ⟨i, rfl, hi, hany, hbl⟩ := hrel
    by_cases hlt : i < l.length
    · obtain ⟨ad, rfl, hx0, hx1⟩ := at_T111 HR.out i (by omega) (by omega)
      have hn : (i : Int).toNat = i := by omega
      rw [hn] at hx0 hx1
      have hx0' := (hbl.cell (World.block_lt_of_cell? w _ hx0)).trans hx0
      have hx1' := (hbl.cell (World.block_lt_of_cell? w _ hx1)).trans hx1
      obtain ⟨g, hg⟩ : ∃ g, g = rd_T111 l i := ⟨_, rfl⟩
      rw [← hg] at hx0' hx1'
      have hgl : g = l[i] := by rw [hg]; simp [rd_T111, List.getD, hlt]
      have HG := Hush.mk hgl
      clear hx0 hx1 hn hg hgl
      have HA := Hush.mk hany
      clear hany
      have hsn : (l.take (i + 1)).any edit_goneB = edit_goneB g := by
        rw [List.take_succ_eq_append_getElem hlt, List.any_append, HA.out, ← HG.out]; simp
      by_cases hb : edit_levelB g.f0 = true
      · have hb' : (!edit_levelB g.f0) = false := by rw [hb]; rfl
        have HS : Hush ((l.take (i + 1)).any edit_goneB = false) := ⟨by rw [hsn]; exact hb'⟩
        clear hsn hb
        go_wp2_with fail
        refine (edit_check1.any _ _ _).mono ?_
        rintro e w1 ⟨rfl, hb1⟩
        go_wp2
        go_roundw
        case rel => exact ⟨i + 1, by go_num, by omega, HS.out, hbl.trans (hb1.mono hbl.size)⟩
        case measure => simp [intOf]; omega
      · have hb' : (!edit_levelB g.f0) = true := by simpa using hb
        have HS : Hush (l.any edit_goneB = true) := ⟨by
          rw [← List.take_append_drop (i + 1) l, List.any_append, hsn]
          have : edit_goneB g = true := hb'
          rw [this]; rfl⟩
        clear hsn hb
        go_wp2_with fail
        refine (edit_check1.any _ _ _).mono ?_
        rintro e w1 ⟨rfl, hb1⟩
        go_wp2
        go_ret
        exact ⟨i, rfl, by omega, by rw [HS.out]; simp, hbl.trans (hb1.mono hbl.size)⟩
    · have HA := Hush.mk hany
      clear hany
      go_wp2
      go_ret
      have := HA.out
      rw [List.take_of_length_le (by omega)] at this
      exact ⟨-1, rfl, by omega, by rw [this]; rfl, hbl⟩
def edit_contains.Post (w : World) (l : List S111) (e : Ending) (w' : World) : Prop := e = .returned (.bool (l.any edit_goneB)) ∧ Below w.heap.size w w'
set_option maxHeartbeats 1000000 in
theorem edit_contains.any (A : Option Addr) (c : Nat) (l : List S111) (w : World) (hr : Kd.C k111 w A l.length l) :
    Calls Tryd.prog 68 #[.slice A l.length c, .func (.func 69) #[] #[]] w (edit_contains.Post w l) := by
  have HR := Hush.mk hr
  clear hr
  go_enter Tryd.func68, Tryd.ntmps68
  go_wp2_with fail
  refine (edit_index.any _ _ _ _ HR.out).mono ?_
  rintro e w1 ⟨r, rfl, hr1, hr2, hb⟩
  have HR2 := Hush.mk hr2
  clear hr2
  go_wp2
  go_ret
  exact ⟨by rw [← HR2.out]; rfl, hb⟩
def edit_Edit_Check.Post (w : World) (r : Int) (e : Ending) (w' : World) : Prop := e = .returned (.int .i64 r) ∧ Below w.heap.size w w'
def edit_Edit_Check.J (w : World) (l : List S107) (i : Nat) (wr : World) : Prop := i ≤ l.length ∧ edit_firstWrong l = edit_firstWrong (l.drop i) ∧ Below w.heap.size w wr
set_option maxHeartbeats 3000000 in
set_option maxRecDepth 100000 in
theorem edit_Edit_Check.walk (a0_0 : Int) (a0_1 : Int) (a0_2 : Int) (A0_3 : Option Addr) (c0_3 : Nat) (l0_3 : List (S107)) (A0_4 : Option Addr) (c0_4 : Nat) (l0_4 : List (S111)) (w : World) (hr0_3 : Kd.C k107 w A0_3 l0_3.length l0_3) (hr0_4 : Kd.C k111 w A0_4 l0_4.length l0_4) :
    Calls Tryd.prog 20 #[.agg #[.int .u64 a0_0, .int .u64 a0_1, .int .u64 a0_2, .slice A0_3 l0_3.length c0_3, .slice A0_4 l0_4.length c0_4]] w (edit_Edit_Check.Post w (edit_Edit_Check.val l0_3 l0_4)) := by
  have hlen := Kd.C_max hr0_3
  have hlen4 := Kd.C_max hr0_4
  have B1 := fun (o : Obj) => Hush.mk ((Below.refl w.heap.size w).alloc (Nat.le_refl _) o)
  have HR3 := Hush.mk hr0_3
  have HR4 := Hush.mk hr0_4
  clear hr0_3 hr0_4
  by_cases h3 : 200 < l0_3.length
  · have hv : Hush (edit_Edit_Check.val l0_3 l0_4 = 6) := ⟨by rw [edit_Edit_Check.val, if_pos (.inl h3)]⟩
    go_enter Tryd.func20, Tryd.ntmps20
    go_wp2
    go_ret
    exact ⟨by rw [hv.out]; rfl, (B1 _).out⟩
  · by_cases h4 : 200 < l0_4.length
    · have hv : Hush (edit_Edit_Check.val l0_3 l0_4 = 6) := ⟨by rw [edit_Edit_Check.val, if_pos (.inr h4)]⟩
      go_enter Tryd.func20, Tryd.ntmps20
      go_wp2
      go_ret
      exact ⟨by rw [hv.out]; rfl, (B1 _).out⟩
    · go_enter Tryd.func20, Tryd.ntmps20
      go_wp2
      have hk : Below w.heap.size w (w.alloc (.cells #[.int .u64 a0_0, .int .u64 a0_1, .int .u64 a0_2, .slice A0_3 l0_3.length c0_3, .slice A0_4 l0_4.length c0_4] 26)) := (B1 _).out
      have hcell4 : (w.alloc (.cells #[.int .u64 a0_0, .int .u64 a0_1, .int .u64 a0_2, .slice A0_3 l0_3.length c0_3, .slice A0_4 l0_4.length c0_4] 26)).cell? ⟨w.heap.size, 4, none⟩ = some (.slice A0_4 l0_4.length c0_4) := by
        rw [World.cell?_alloc_at _ _ _ _ rfl]; rfl
      obtain ⟨W, hW⟩ : ∃ W, W = w.alloc (.cells #[.int .u64 a0_0, .int .u64 a0_1, .int .u64 a0_2, .slice A0_3 l0_3.length c0_3, .slice A0_4 l0_4.length c0_4] 26) := ⟨_, rfl⟩
      have hWs : W.heap.size = w.heap.size + 1 := by rw [hW]; simp
      rw [← hW] at hk hcell4 ⊢
      have HW := Hush.mk hW
      have HWs := Hush.mk hWs
      clear hW hWs B1
      go_loopw [4, 5, 19] (fun _ _ i wr => ∃ k' : Nat, i = .int .i64 k' ∧ edit_Edit_Check.J W l0_3 k' wr) (fun _ _ i _ => l0_3.length - (intOf i).toNat)
      case atStart => exact ⟨0, rfl, by omega, by simp, Below.refl _ _⟩
      case round =>
        obtain ⟨i, rfl, hi, hfw, hbl⟩ := hrel
        by_cases hlt : i < l0_3.length
        · obtain ⟨ad, rfl, hx0, hx1, hx2, hx3, hx4, hx5⟩ := at_T107 (Kd.C_below (Kd.C_below HR3.out (HW.out ▸ below_alloc (Below.refl _ _) _)) hbl) i (by omega) (by omega)
          have hn : (i : Int).toNat = i := by omega
          rw [hn] at hx0 hx1 hx2 hx3 hx4 hx5
          have hgl : rd_T107 l0_3 i = l0_3[i] := by simp [rd_T107, List.getD, hlt]
          rw [hgl] at hx0 hx1 hx2 hx3 hx4 hx5
          rw [List.drop_eq_getElem_cons hlt, edit_firstWrong] at hfw
          obtain ⟨a, ha⟩ : ∃ a, a = l0_3[i] := ⟨_, rfl⟩
          rw [← ha] at hx0 hx1 hx2 hx3 hx4 hx5 hfw
          clear ha hgl hn
          obtain ⟨v, hv⟩ : ∃ v, v = edit_wrong.val a.f0 a.f1.f0 a.f1.f3 a.f1.f4 := ⟨_, rfl⟩
          rw [← hv] at hfw
          have HV := Hush.mk hv
          clear hv
          by_cases hz : v = 0
          · rw [if_pos hz] at hfw
            have HF := Hush.mk hfw
            have hz' : (v == 0) = true := by simpa using hz
            have hz2 : (v != 0) = false := by simpa using hz
            clear hfw hz
            go_wp2_with fail
            refine (edit_wrong.walk _ _ _ _ _ _ _).mono ?_
            rintro e w1 ⟨he, hb1⟩
            rw [← HV.out] at he
            subst he
            go_wp2
            go_roundw
            case rel => exact ⟨i + 1, by go_num, by omega, HF.out, hbl.trans ((((Below.refl _ wr).alloc (Nat.le_refl _) _).trans (hb1.mono (by simp))).mono hbl.size)⟩
            case measure => simp [intOf]; omega
          · rw [if_neg hz] at hfw
            have hr : Hush (edit_Edit_Check.val l0_3 l0_4 = v) := ⟨by rw [edit_Edit_Check.val, if_neg (by omega), if_pos (by rw [hfw]; exact hz), hfw]⟩
            have hz' : (v == 0) = false := by simpa using hz
            have hz2 : (v != 0) = true := by simpa using hz
            clear hfw hz
            go_wp2_with fail
            refine (edit_wrong.walk _ _ _ _ _ _ _).mono ?_
            rintro e w1 ⟨he, hb1⟩
            rw [← HV.out] at he
            subst he
            go_wp2
            go_ret
            exact ⟨by rw [hr.out]; rfl, hk.trans ((hbl.trans ((((Below.refl _ wr).alloc (Nat.le_refl _) _).trans (hb1.mono (by simp))).mono hbl.size)).mono hk.size)⟩
        · have hf0 : edit_firstWrong l0_3 = 0 := by rw [hfw, List.drop_of_length_le (by omega)]; rfl
          have hv : edit_Edit_Check.val l0_3 l0_4 = if l0_4.any edit_goneB then 21 else 0 := by rw [edit_Edit_Check.val, if_neg (by omega), if_neg (by rw [hf0]; exact fun h => h rfl)]
          have hc4 := (hbl.cell (p := ⟨w.heap.size, 4, none⟩) (by rw [HWs.out]; exact Nat.lt_succ_self _)).trans hcell4
          have hb2 := hk.trans (hbl.mono hk.size)
          clear hfw hf0
          have hR4 := Hush.mk (Kd.C_below (Kd.C_below HR4.out (HW.out ▸ below_alloc (Below.refl _ _) _)) hbl)
          cases hany : l0_4.any edit_goneB
          · rw [hany] at hv
            have HV := Hush.mk hv
            have HA := Hush.mk hany
            clear hv hany
            go_wp2_with fail
            refine (edit_contains.any _ _ _ _ hR4.out).mono ?_
            rintro e w1 ⟨he, hb1⟩
            rw [HA.out] at he
            subst he
            go_wp2
            go_ret
            exact ⟨by rw [HV.out]; rfl, hb2.trans (hb1.mono hb2.size)⟩
          · rw [hany] at hv
            have HV := Hush.mk hv
            have HA := Hush.mk hany
            clear hv hany
            go_wp2_with fail
            refine (edit_contains.any _ _ _ _ hR4.out).mono ?_
            rintro e w1 ⟨he, hb1⟩
            rw [HA.out] at he
            subst he
            go_wp2
            go_ret
            exact ⟨by rw [HV.out]; rfl, hb2.trans (hb1.mono hb2.size)⟩
theorem edit_Edit_Check.calls (a0_0 : Int) (a0_1 : Int) (a0_2 : Int) (A0_3 : Option Addr) (c0_3 : Nat) (l0_3 : List (S107)) (A0_4 : Option Addr) (c0_4 : Nat) (l0_4 : List (S111)) (r : Int) (w : World) (hr0_3 : Kd.C k107 w A0_3 l0_3.length l0_3) (hc0_3 : l0_3.length ≤ c0_3) (hr0_4 : Kd.C k111 w A0_4 l0_4.length l0_4) (hc0_4 : l0_4.length ≤ c0_4) (h : edit_Edit_Check.f a0_0 a0_1 a0_2 l0_3 l0_4 = some r) :
    Calls Tryd.prog 20 #[.agg #[.int .u64 a0_0, .int .u64 a0_1, .int .u64 a0_2, .slice A0_3 l0_3.length c0_3, .slice A0_4 l0_4.length c0_4]] w fun e w' => e = .returned (.int .i64 r) ∧ Below w.heap.size w w' := by
  obtain rfl := Option.some.inj h
  exact edit_Edit_Check.walk _ _ _ _ _ _ _ _ _ _ hr0_3 hr0_4
end Go.Proofs.YteilnbnnhocciaaDoor.K

/-! K7 -/
namespace Go.Proofs.YteilnbnnhocciaaDoor.K
open Go.RowKit Go.Proofs.YteilnbnnhocciaaDoorW.PrintWords Go.Proofs.YteilnbnnhocciaaDoorW.PrintLast Go.Proofs.YteilnbnnhocciaaDoorW.PrintMore Go.Proofs.YteilnbnnhocciaaDoorM
attribute [local go_sem] max2_int min2_int max_two min_two max_three min_three max_four min_four
set_option linter.unusedVariables false
set_option linter.unusedSimpArgs false
def varint_Num.l : Nat → Int → List Int → Option ByteArray
  | 0, _, _ => none
  | k + 1, n, xs => if 128 ≤ n then varint_Num.l k (n / 128) (xs ++ [Go.bits .or .u8 (n % 256) 128]) else some (strOfNums (xs ++ [n]))
def varint_Num.f (k : Nat) (a0 : Int) : Option ByteArray := if 0 ≤ a0 ∧ a0 ≤ 18446744073709551615 then varint_Num.l k a0 [] else none
theorem varint_Num.room {m : Int} {n : Nat} (h0 : 0 ≤ m) (h : m.toNat * 128 ^ n ≤ 18446744073709551615) (h1 : 128 ≤ m) : (m / 128).toNat * 128 ^ (n + 1) ≤ 18446744073709551615 ∧ n < 10 := by
  constructor
  · have e : (m / 128).toNat * 128 ≤ m.toNat := by omega
    calc (m / 128).toNat * 128 ^ (n + 1) = ((m / 128).toNat * 128) * 128 ^ n := by rw [Nat.pow_succ, Nat.mul_comm (128 ^ n) 128, Nat.mul_assoc]
      _ ≤ m.toNat * 128 ^ n := Nat.mul_le_mul_right _ e
      _ ≤ _ := h
  · rcases Nat.lt_or_ge n 10 with hn | hn
    · exact hn
    · have h2 : 128 ^ 10 ≤ 128 ^ n := Nat.pow_le_pow_right (by decide) hn
      have h3 : 1 * 128 ^ n ≤ m.toNat * 128 ^ n := Nat.mul_le_mul_right _ (by omega)
      have h4 : (128 : Nat) ^ 10 = 1180591620717411303424 := by decide
      omega
theorem varint_Num.info5 : (Tryd.prog.info? 5).map (fun i => (i.zero, i.size, i.bytes)) = some (some (.int .u8 0), 1, 1) := by kernel_rfl
def varint_Num.Post (w : World) (r : ByteArray) (e : Ending) (w' : World) : Prop := e = .returned (.string r) ∧ Below w.heap.size w w'
def varint_Num.J (w : World) (r : ByteArray) (a' : Act) (w' : World) : Prop := Below w.heap.size w w' ∧ ∃ (k : Nat) (m : Int) (xs : List Int) (v u4 u5 u6 u7 u8 u9 u10 u11 u12 u13 : Value),
  0 ≤ m ∧ m ≤ 18446744073709551615 ∧ a' = { tmps := #[.int .u64 m, undef, .string ⟨#[]⟩, v, u4, u5, u6, u7, u8, u9, u10, u11, u12, u13, undef, undef, undef, undef, undef, undef], defers := [] } ∧ w'.ownsRow w.heap.size 5 1 v xs.length (xs.map (Value.int .u8)) ∧ xs.length ≤ 10 ∧ m.toNat * 128 ^ xs.length ≤ 18446744073709551615 ∧ varint_Num.l k m xs = some r
set_option maxHeartbeats 1000000 in
set_option maxRecDepth 100000 in
theorem varint_Num.walk (k : Nat) (n : Int) (r : ByteArray) (w : World) (h : varint_Num.l k n [] = some r) (h0 : 0 ≤ n) (h1 : n ≤ 18446744073709551615) :
    Calls Tryd.prog 105 #[.int .u64 n] w (varint_Num.Post w r) := by
  obtain ⟨i0, hi, hz0, hz1, hz2⟩ := info_parts varint_Num.info5
  have H := Hush.mk h
  clear h
  go_enter Tryd.func105, Tryd.ntmps105
  go_wp2
  refine wp_scope_first 0 (varint_Num.J w r) (fun a' _ => (intOf (a'.tmps.getD 0 undef)).toNat) rfl ?pass ?first
  case first =>
    intro hp
    go_wp2
    go_step3
    have hj : varint_Num.J w r { tmps := #[.int .u64 n, undef, .string ⟨#[]⟩, .slice none 0 0, undef, undef, undef, undef, undef, undef, undef, undef, undef, undef, undef, undef, undef, undef, undef, undef], defers := [] } w :=
      ⟨Below.refl _ _, k, n, [], .slice none 0 0, _, _, _, _, _, _, _, _, _, _, h0, h1, rfl, World.ownsRow_nil _ _ _ _, by simp, by simp; omega, H.out⟩
    exact (by assumption : ∀ a w, Code.wp _ _ _ a w → _) _ _ (hp.out _ _ hj)
  case pass =>
    rintro a' w' ⟨hb, k, m, xs, v, u4, u5, u6, u7, u8, u9, u10, u11, u12, u13, m0, m1, rfl, hown, hx, hr, hl⟩
    have HL := Hush.mk hl
    clear hl
    by_cases h128 : 128 ≤ m
    · have HR := Hush.mk (varint_Num.room m0 hr h128)
      clear hr
      go_wp2_with ((at_builtin; refine wpList_append_own _ rfl _ _ 64 rfl w.heap.size 5 i0 (.int .u8 0) 1 1 Tryd.underlying64 hi hz0 hz1 hz2 rfl (by decide) v xs.length (xs.map (Value.int .u8)) rfl (hown.alloc _) ⟨w'.heap.size, 0, none⟩ 1 1 [.int .u8 (Go.bits .or .u8 (m % 256) 128)] rfl rfl (cell_one_new _ _ _) (by simp [Value.oneCell']) (by unfold maxLen; omega) (by omega) (by have := hb.size; simp; omega) ?_; intro v' w1 hown1 hgrow _))
      go_wp2
      go_step3
      refine ⟨rfl, ⟨(hb.trans ((Below.refl _ _).alloc (Nat.le_refl _) _ |>.mono hb.size)).grown hgrow (by have := hb.size; simp; omega) (fun g hg => (hown.lt g hg).1), k - 1, m / 128, xs ++ [Go.bits .or .u8 (m % 256) 128], v', _, _, _, _, _, _, _, _, _, _, by omega, by omega, rfl, ?_, ?_, ?_, ?_⟩, ?_⟩
      · simpa using hown1
      · have := HR.out.2; simp; omega
      · have := HR.out.1; simpa using this
      · have := HL.out
        cases k with
        | zero => exact absurd this (by simp [varint_Num.l])
        | succ k => rw [varint_Num.l, if_pos h128] at this; exact this
      · simp [intOf]; omega
    · go_wp2_with ((at_builtin; refine wpList_append_own _ rfl _ _ 64 rfl w.heap.size 5 i0 (.int .u8 0) 1 1 Tryd.underlying64 hi hz0 hz1 hz2 rfl (by decide) v xs.length (xs.map (Value.int .u8)) rfl (hown.alloc _) ⟨w'.heap.size, 0, none⟩ 1 1 [.int .u8 m] rfl rfl (cell_one_new _ _ _) (by simp [Value.oneCell']) (by unfold maxLen; omega) (by omega) (by have := hb.size; simp; omega) ?_; intro v' w1 hown1 hgrow _; have hcv := run_convert_own (n := xs.length + 1) (xs := xs ++ [m]) Tryd.underlying64 Tryd.underlying5 Tryd.underlying9 (by simp) (by simpa using hown1)))
      go_ret
      refine ⟨?_, (hb.trans ((Below.refl _ _).alloc (Nat.le_refl _) _ |>.mono hb.size)).grown hgrow (by have := hb.size; simp; omega) (fun g hg => (hown.lt g hg).1)⟩
      have := HL.out
      cases k with
      | zero => exact absurd this (by simp [varint_Num.l])
      | succ k => rw [varint_Num.l, if_neg (by omega)] at this; rw [Option.some.inj this]; rfl
theorem varint_Num.calls (k : Nat) (a0 : Int) (r : ByteArray) (w : World) (h : varint_Num.f k a0 = some r) :
    Calls Tryd.prog 105 #[.int .u64 a0] w fun e w' => e = .returned (.string r) ∧ Below w.heap.size w w' := by
  unfold varint_Num.f at h
  by_cases hc : 0 ≤ a0 ∧ a0 ≤ 18446744073709551615
  · rw [if_pos hc] at h
    exact varint_Num.walk k a0 r w h hc.1 hc.2
  · rw [if_neg hc] at h
    cases h
end Go.Proofs.YteilnbnnhocciaaDoor.K

/-! K8 -/
namespace Go.Proofs.YteilnbnnhocciaaDoor.K
open Go.RowKit Go.Proofs.YteilnbnnhocciaaDoorW.PrintWords Go.Proofs.YteilnbnnhocciaaDoorW.PrintLast Go.Proofs.YteilnbnnhocciaaDoorW.PrintMore Go.Proofs.YteilnbnnhocciaaDoorM
attribute [local go_sem] max2_int min2_int max_two min_two max_three min_three max_four min_four
set_option linter.unusedVariables false
set_option linter.unusedSimpArgs false
def edit_nums.go : Nat → List Int → ByteArray → Option ByteArray
  | _, [], acc => some acc
  | k, x :: xs, acc => (varint_Num.f k x).bind fun t => if acc.size + t.size ≤ 140737488355328 then edit_nums.go k xs (acc ++ t) else none
def edit_nums.f (k : Nat) (l0 : List Int) : Option ByteArray := edit_nums.go k l0 ⟨#[]⟩
theorem edit_nums.int_at {w : World} {A : Option Addr} {k : IntKind} {xs : List Int} (h : Kd.C (Kd.int k) w A xs.length xs) (i : Nat) (hi : i < xs.length) : ∃ ad, A = some ad ∧ w.cell? (ad.add i) = some (.int k (xs.getD i 0)) := by
  obtain ⟨ad, c, e, _, hK, hc⟩ := Kd.C_get h 0 (i : Int) (by omega) (by omega)
  have hc' : c = [.int k (xs.getD i 0)] := hK
  subst hc'
  refine ⟨ad, e, ?_⟩
  have h2 := hc 0 _ rfl
  have e2 : (i : Int).toNat * (Kd.int k).sz + 0 = i := by show (i : Int).toNat * 1 + 0 = i; omega
  rwa [e2] at h2
def edit_nums.J (w : World) (xs : List Int) (k : Nat) (r : ByteArray) (i : Nat) (wr : World) : Prop :=
  ∃ acc : ByteArray, Lib.IsBuilder 140 5 w.heap.size w.heap.size (Lib.strCells acc) wr ∧ Below w.heap.size w wr ∧ edit_nums.go k (xs.drop i) acc = some r
set_option maxHeartbeats 1000000 in
set_option maxRecDepth 100000 in
theorem edit_nums.calls (k : Nat) (A0 : Option Addr) (c0 : Nat) (l0 : List Int) (r : ByteArray) (w : World) (hr0 : Kd.C (Kd.int .u64) w A0 l0.length l0) (hc0 : l0.length ≤ c0) (h : edit_nums.f k l0 = some r) :
    Calls Tryd.prog 51 #[.slice A0 l0.length c0] w fun e w' => e = .returned (.string r) ∧ Below w.heap.size w w' := by
  have hlen := Kd.C_max hr0
  have H := Hush.mk h
  have HR := Hush.mk hr0
  clear h hr0
  go_enter Tryd.func51, Tryd.ntmps51
  go_wp2
  go_loopw [5, 8] (fun _ i wr => ∃ k' : Nat, i = .int .i64 k' ∧ k' ≤ l0.length ∧ edit_nums.J w l0 k r k' wr) (fun _ i _ => l0.length - (intOf i).toNat)
  case atStart => exact ⟨0, rfl, by omega, ⟨#[]⟩, Lib.fresh_isBuilder 140 5 w, (Below.refl _ _).alloc (Nat.le_refl _) _, H.out⟩
  case round =>
    obtain ⟨i, rfl, hi, acc, hb, hbl, hgo⟩ := hrel
    by_cases hlt : i < l0.length
    · rw [List.drop_eq_getElem_cons hlt] at hgo
      obtain ⟨t, ht, hgo⟩ := Option.bind_eq_some_iff.mp hgo
      have hsz : acc.size + t.size ≤ 140737488355328 := by
        rcases Nat.lt_or_ge 140737488355328 (acc.size + t.size) with h2 | h2
        · rw [if_neg (by omega)] at hgo; cases hgo
        · exact h2
      rw [if_pos hsz] at hgo
      have HG := Hush.mk hgo
      have HB := Hush.mk hb
      have HT := Hush.mk ht
      obtain ⟨ad, rfl, hcell⟩ := edit_nums.int_at HR.out i hlt
      have hcell' := (hbl.cell (World.block_lt_of_cell? w _ hcell)).trans hcell
      clear hgo ht hb hcell
      rw [show l0.getD i 0 = l0[i] by simp [List.getD, hlt]] at hcell'
      have hx : ∃ x, x = l0[i] := ⟨_, rfl⟩
      obtain ⟨x, hx⟩ := hx
      rw [← hx] at hcell'
      have HX := Hush.mk hx
      clear hx
      go_wp2_with fail
      refine (varint_Num.calls k x t _ (by rw [HX.out]; exact HT.out)).mono ?_
      rintro e w2 ⟨rfl, hb2⟩
      have hbl2 : Below w.heap.size w w2 := hbl.trans (hb2.mono hbl.size)
      go_wp2_with fail
      refine (writeString w.heap.size w.heap.size (Lib.strCells acc) t _ (builder_below HB.out hb2) (by rw [Lib.strCells_length]; exact hsz) hbl2.size).mono ?_
      rintro e w3 ⟨rfl, hB3, hb3⟩
      have HB3 := Hush.mk hB3
      clear hB3
      go_wp2
      go_roundw
      case rel => exact ⟨i + 1, by go_num, by omega, acc ++ t, .inr (by have := HB3.out; simpa [Lib.strCells] using this), hbl2.trans hb3, HG.out⟩
      case measure => simp [intOf]; omega
    · have he : i = l0.length := by omega
      have HB := Hush.mk hb
      have HE := Hush.mk he
      have HG := Hush.mk hgo
      clear he hgo hb
      go_wp2_with fail
      refine (Tryd.Builder_String_any w.heap.size w.heap.size acc.data.toList _ HB.out hbl.size).mono ?_
      rintro e w3 ⟨rfl, hb3⟩
      go_wp2
      go_ret
      have := HG.out
      rw [HE.out, List.drop_length, edit_nums.go] at this
      obtain rfl := Option.some.inj this
      exact ⟨rfl, hbl.trans hb3⟩
end Go.Proofs.YteilnbnnhocciaaDoor.K

/-! K9 -/
namespace Go.Proofs.YteilnbnnhocciaaDoor.K
open Go.RowKit Go.Proofs.YteilnbnnhocciaaDoorW.PrintWords Go.Proofs.YteilnbnnhocciaaDoorW.PrintLast Go.Proofs.YteilnbnnhocciaaDoorW.PrintMore Go.Proofs.YteilnbnnhocciaaDoorM
attribute [local go_sem] max2_int min2_int max_two min_two max_three min_three max_four min_four
set_option linter.unusedVariables false
set_option linter.unusedSimpArgs false
def varint_Text.f (k : Nat) (a0 : ByteArray) : Option (ByteArray) := (varint_Num.f k (IntKind.u64.wrap ((a0.size : Int)))).bind fun t109 => (if t109.size + a0.size ≤ 9223372036854775807 then (some (t109 ++ a0)) else (none))
set_option maxHeartbeats 1000000 in
theorem varint_Text.calls (k : Nat) (a0 : ByteArray) (r : ByteArray) (w : World) (h : varint_Text.f k a0 = some r) :
    Calls Tryd.prog 52 #[.string a0] w fun e w' => e = .returned (.string r) ∧ Below w.heap.size w w' := by
  obtain ⟨t, A20, H⟩ := Option.bind_eq_some_iff.mp h
  by_cases c3 : t.size + a0.size ≤ 9223372036854775807
  · rw [if_pos c3] at H
    obtain rfl := Option.some.inj H
    have hc := Aside0.mk (Nat.not_lt.2 c3)
    clear c3 H h
    have A2 := Aside0.mk A20
    clear A20
    go_enter Tryd.func52, Tryd.ntmps52
    go_wp2_with fail
    refine (varint_Num.calls k _ t _ A2.out).mono ?_
    rintro e w4 ⟨rfl, hb⟩
    have hc' := hc.out
    go_wp2
    go_ret
    exact ⟨rfl, hb⟩
  · rw [if_neg c3] at H
    exact absurd H (by simp)
end Go.Proofs.YteilnbnnhocciaaDoor.K

/-! K10 -/
namespace Go.Proofs.YteilnbnnhocciaaDoor.K
open Go.RowKit Go.Proofs.YteilnbnnhocciaaDoorW.PrintWords Go.Proofs.YteilnbnnhocciaaDoorW.PrintLast Go.Proofs.YteilnbnnhocciaaDoorW.PrintMore Go.Proofs.YteilnbnnhocciaaDoorM
attribute [local go_sem] max2_int min2_int max_two min_two max_three min_three max_four min_four
set_option linter.unusedVariables false
set_option linter.unusedSimpArgs false
mutual
def edit_Edit_Bytes.l0 : Nat → ByteArray → List (S107) → Int → Int → Int → Int → Int → List (S107) → List (S111) → Option (ByteArray × Int)
  | 0, _, _, _, _, _, _, _, _, _ => none
  | k + 1, x5, x29, x30, x31, x102000, x102001, x102002, x102003, x102004 => if x31 < x30 then (if 0 ≤ x31 then (if x31 < (x29.length : Int) then ((edit_nums.f k (([IntKind.u64.wrap ((rd_T107 x29 x31).f0), (rd_T107 x29 x31).f1.f0, (rd_T107 x29 x31).f1.f1, (rd_T107 x29 x31).f1.f2] : List Int))).bind fun t113 => ((varint_Text.f k ((rd_T107 x29 x31).f1.f3)).bind fun t114 => (if t113.size + t114.size ≤ 9223372036854775807 then ((varint_Text.f k ((rd_T107 x29 x31).f1.f4)).bind fun t115 => (if (t113 ++ t114).size + t115.size ≤ 9223372036854775807 then (if x5.size + ((t113 ++ t114) ++ t115).size ≤ 9223372036854775807 then (edit_Edit_Bytes.l0 k (x5 ++ ((t113 ++ t114) ++ t115)) x29 x30 (wrap64 (x31 + 1)) x102000 x102001 x102002 x102003 x102004) else (none)) else (none))) else (none)))) else (none)) else (none)) else ((edit_nums.f k (([IntKind.u64.wrap ((x102004.length : Int))] : List Int))).bind fun t119 => (if x5.size + t119.size ≤ 9223372036854775807 then (edit_Edit_Bytes.l1 k (x5 ++ t119) x102004 (x102004.length : Int) 0) else (none)))
def edit_Edit_Bytes.l1 : Nat → ByteArray → List (S111) → Int → Int → Option (ByteArray × Int)
  | 0, _, _, _, _ => none
  | k + 1, x5, x68, x69, x70 => if x70 < x69 then (if 0 ≤ x70 then (if x70 < (x68.length : Int) then ((edit_nums.f k (([IntKind.u64.wrap ((rd_T111 x68 x70).f0), (rd_T111 x68 x70).f1] : List Int))).bind fun t125 => (if x5.size + t125.size ≤ 9223372036854775807 then (edit_Edit_Bytes.l1 k (x5 ++ t125) x68 x69 (wrap64 (x70 + 1))) else (none))) else (none)) else (none)) else (some (x5, 0))
end
def edit_Edit_Bytes.f (k : Nat) (a0_0 : Int) (a0_1 : Int) (a0_2 : Int) (l0_3 : List (S107)) (l0_4 : List (S111)) : Option (ByteArray × Int) := (edit_Edit_Check.f a0_0 a0_1 a0_2 l0_3 l0_4).bind fun t102 => (if t102 = 0 then ((edit_nums.f k (([a0_0, a0_1, a0_2, IntKind.u64.wrap ((l0_3.length : Int))] : List Int))).bind fun t106 => (edit_Edit_Bytes.l0 k t106 l0_3 (l0_3.length : Int) 0 a0_0 a0_1 a0_2 l0_3 l0_4)) else (some ((⟨#[]⟩ : ByteArray), t102)))
def edit_Edit_Bytes.T9 : Bool × List (List Nat × List Nat) := (true, [([], []), ([], []), ([1], [1]), ([2], [2]), ([], []), ([4], [4]), ([], []), ([6], [6]), ([], []), ([8], [8]), ([3, 5, 7, 9], [3, 5, 7, 9]), ([10], [10]), ([], []), ([12], [12]), ([13, 11], [13]), ([11, 14], [11, 14]), ([], []), ([16], [16]), ([17, 14], [17]), ([15, 18], [15, 18]), ([0, 19], [0, 19]), ([20, 18, 0, 1, 2, 3, 4, 5, 6, 7, 8, 9, 10, 11, 12, 13, 14, 15, 16, 17, 18, 19, 20], [0, 20])])
def edit_Edit_Bytes.B9 : List Nat := [0, 0, 2, 6, 0, 16, 0, 64, 0, 256, 1022, 2046, 0, 4096, 16382, 32766, 0, 65536, 229374, 524286, 1048575, 2097151]
theorem edit_Edit_Bytes.tab9 : rtab .any (opsOf Tryd.f15 9) = edit_Edit_Bytes.T9 := by kernel_rfl
theorem edit_Edit_Bytes.bits9 : waitsOk edit_Edit_Bytes.T9.2 edit_Edit_Bytes.B9 = true := by kernel_rfl
set_option maxHeartbeats 8000000 in
set_option maxRecDepth 100000 in
theorem edit_Edit_Bytes.calls (k : Nat) (a0_0 : Int) (a0_1 : Int) (a0_2 : Int) (A0_3 : Option Addr) (c0_3 : Nat) (l0_3 : List (S107)) (A0_4 : Option Addr) (c0_4 : Nat) (l0_4 : List (S111)) (r1 : ByteArray) (r2 : Int) (w : World) (hr0_3 : Kd.C k107 w A0_3 l0_3.length l0_3) (hc0_3 : l0_3.length ≤ c0_3) (hr0_4 : Kd.C k111 w A0_4 l0_4.length l0_4) (hc0_4 : l0_4.length ≤ c0_4) (h : edit_Edit_Bytes.f k a0_0 a0_1 a0_2 l0_3 l0_4 = some (r1, r2)) :
    Calls Tryd.prog 15 #[.agg #[.int .u64 a0_0, .int .u64 a0_1, .int .u64 a0_2, .slice A0_3 l0_3.length c0_3, .slice A0_4 l0_4.length c0_4]] w fun e w' => e = .returned (.tuple #[.string r1, .int .i64 r2]) ∧ Below w.heap.size w w' := by
  have hu26 := Tryd.underlying26
  have hu107 := Tryd.underlying107
  have hu97 := Tryd.underlying97
  have hu111 := Tryd.underlying111
  have HR0_3 := Aside0.mk hr0_3
  have HC0_3 := Aside0.mk hc0_3
  clear hr0_3 hc0_3
  have HR0_4 := Aside0.mk hr0_4
  have HC0_4 := Aside0.mk hc0_4
  clear hr0_4 hc0_4
  have HB := Aside0.mk (Below.refl w.heap.size w)
  have H : ((edit_Edit_Check.f a0_0 a0_1 a0_2 l0_3 l0_4).bind fun t102 => (if t102 = 0 then ((edit_nums.f k (([a0_0, a0_1, a0_2, IntKind.u64.wrap ((l0_3.length : Int))] : List Int))).bind fun t106 => (edit_Edit_Bytes.l0 k t106 l0_3 (l0_3.length : Int) 0 a0_0 a0_1 a0_2 l0_3 l0_4)) else (some ((⟨#[]⟩ : ByteArray), t102)))) = some (r1, r2) := h
  clear h
  replace H := Option.bind_eq_some_iff.mp H
  obtain ⟨t102, A20, H⟩ := H
  replace H : (if t102 = 0 then ((edit_nums.f k (([a0_0, a0_1, a0_2, IntKind.u64.wrap ((l0_3.length : Int))] : List Int))).bind fun t106 => (edit_Edit_Bytes.l0 k t106 l0_3 (l0_3.length : Int) 0 a0_0 a0_1 a0_2 l0_3 l0_4)) else (some ((⟨#[]⟩ : ByteArray), t102))) = some (r1, r2) := H
  have A2 := Aside0.mk A20
  clear A20
  by_cases c3 : t102 = 0
  · rw [if_pos c3] at H
    have c3b0 : (t102 == 0) = true := beq_iff_eq.mpr c3
    have c3b1 : (t102 != 0) = false := bne_eq_false_iff_eq.mpr c3
    clear c3
    obtain ⟨y103, hy103⟩ : ∃ y_ : List Int, y_ = (([a0_0, a0_1, a0_2, IntKind.u64.wrap ((l0_3.length : Int))] : List Int)) := ⟨_, rfl⟩
    replace H : ((edit_nums.f k y103).bind fun t106 => (edit_Edit_Bytes.l0 k t106 l0_3 (l0_3.length : Int) 0 a0_0 a0_1 a0_2 l0_3 l0_4)) = some (r1, r2) := by first | (rw [hy103]; with_reducible exact H) | (have H2_ := (Option.bind_some _ _).symm.trans H; rw [hy103]; with_reducible exact H2_) | (have H2_ := (Option.bind_some _ _).symm.trans H; with_reducible exact H2_) | with_reducible exact H | (rw [hy103]; exact H) | exact H
    have Ny103 := Aside0.mk hy103
    clear hy103
    replace H := Option.bind_eq_some_iff.mp H
    obtain ⟨t106, A40, H⟩ := H
    replace H : (edit_Edit_Bytes.l0 k t106 l0_3 (l0_3.length : Int) 0 a0_0 a0_1 a0_2 l0_3 l0_4) = some (r1, r2) := H
    have A4 := Aside0.mk A40
    clear A40
    have H' := Aside0.mk H
    clear H
    go_enter Tryd.func15, Tryd.ntmps15
    go_wp2_with (first | ((with_reducible refine gate_dst (N := 1) rfl ?_); refine box_event ?hg (N := 1) ?hd (cs := #[.int .u64 a0_0, .int .u64 a0_1, .int .u64 a0_2, .slice A0_3 l0_3.length c0_3, .slice A0_4 l0_4.length c0_4]) (t := 26) ?hr ?_; (case hd => rfl); (case hg => rfl); (case hr => first | (go_simp; done) | (go_simp; rfl)); intro gb101 hg w5 hbox hb; have n0_ := Aside0.mk (below_step (by repeat (first | (with_reducible first | exact HB.out | apply below_alloc | apply pw_below_drewN | apply below_drew1) | exact HB.out)) hb); have n1_ := Aside0.mk (hbox); have n2_ := Aside0.mk ((by rw [hg]; exact (below_size (by repeat (first | (with_reducible first | exact HB.out | apply below_alloc | apply pw_below_drewN | apply below_drew1) | exact HB.out))) : w.heap.size ≤ gb101)); have n3_ := Aside0.mk ((by rw [hg]; exact (below_size (by repeat (first | (with_reducible first | exact HB.out | apply below_alloc | apply pw_below_drewN | apply below_drew1) | exact HB.out))) : w.heap.size ≤ gb101)); clear HB; have HB := n0_; have BK101 := n1_; have GW101 := n2_; have GE101 := n3_; clear n0_ n1_ n2_ n3_; clear hb hbox hg; have hcz6_0 : w5.cell? ⟨gb101, 0, none⟩ = some (.int .u64 a0_0) := (blk_cell BK101.out 0).trans rfl; have hcz6_1 : w5.cell? ⟨gb101, 1, none⟩ = some (.int .u64 a0_1) := (blk_cell BK101.out 1).trans rfl; have hcz6_2 : w5.cell? ⟨gb101, 2, none⟩ = some (.int .u64 a0_2) := (blk_cell BK101.out 2).trans rfl; have hcz6_3 : w5.cell? ⟨gb101, 3, none⟩ = some (.slice A0_3 l0_3.length c0_3) := (blk_cell BK101.out 3).trans rfl; have hcz6_4 : w5.cell? ⟨gb101, 4, none⟩ = some (.slice A0_4 l0_4.length c0_4) := (blk_cell BK101.out 4).trans rfl; have hfz6_0 := blk_frozen BK101.out 0; have hfz6_1 := blk_frozen BK101.out 1; have hfz6_2 := blk_frozen BK101.out 2; have hfz6_3 := blk_frozen BK101.out 3; have hfz6_4 := blk_frozen BK101.out 4) | ((with_reducible refine gate_callee (f := 20) rfl ?_); refine goesL_ (some 12) rfl rfl Tryd.func20 (by kernel_rfl) rfl #[.agg #[.int .u64 a0_0, .int .u64 a0_1, .int .u64 a0_2, .slice A0_3 l0_3.length c0_3, .slice A0_4 l0_4.length c0_4]] rfl (by (try simp only [List.map_toArray, List.map_cons, List.map_nil]); first | done | rfl | (simp only [List.length_drop, List.length_take]; rfl)) ?_; (with_reducible refine (edit_Edit_Check.calls a0_0 a0_1 a0_2 _ _ l0_3 _ _ l0_4 t102 _ ?side1 ?side2 ?side3 ?side4 A2.out).mono ?_); (case side1 => repeat (first | exact (Kd.C_below HR0_3.out HB.out) | (with_reducible refine Kd.C_alloc ?_ _) | (with_reducible refine Kd.C_drewN ?_ _) | (with_reducible refine Kd.C_drew ?_))); (case side2 => exact HC0_3.out); (case side3 => repeat (first | exact (Kd.C_below HR0_4.out HB.out) | (with_reducible refine Kd.C_alloc ?_ _) | (with_reducible refine Kd.C_drewN ?_ _) | (with_reducible refine Kd.C_drew ?_))); (case side4 => exact HC0_4.out); rintro e w7 ⟨rfl, hb⟩; refine ⟨_, rfl, ?_⟩; have n0_ := Aside0.mk (blk_below (g := gb101) (o := .cells #[.int .u64 a0_0, .int .u64 a0_1, .int .u64 a0_2, .slice A0_3 l0_3.length c0_3, .slice A0_4 l0_4.length c0_4] 26 (0, 0)) (by (with_reducible repeat (first | refine blk_drewN ?_ _ | refine blk_drew ?_ | refine blk_alloc ?_ _)); exact BK101.out) hb); have n1_ := Aside0.mk (below_step (by repeat (first | (with_reducible first | exact HB.out | apply below_alloc | apply pw_below_drewN | apply below_drew1 | refine below_set ?_ GE101.out) | exact HB.out)) hb); clear BK101; clear HB; have BK101 := n0_; have HB := n1_; clear n0_ n1_; (try clear hb); (try clear hb2); (try clear hk); (try clear hi); have hcz8_0 : w7.cell? ⟨gb101, 0, none⟩ = some (.int .u64 a0_0) := (blk_cell BK101.out 0).trans rfl; have hcz8_1 : w7.cell? ⟨gb101, 1, none⟩ = some (.int .u64 a0_1) := (blk_cell BK101.out 1).trans rfl; have hcz8_2 : w7.cell? ⟨gb101, 2, none⟩ = some (.int .u64 a0_2) := (blk_cell BK101.out 2).trans rfl; have hcz8_3 : w7.cell? ⟨gb101, 3, none⟩ = some (.slice A0_3 l0_3.length c0_3) := (blk_cell BK101.out 3).trans rfl; have hcz8_4 : w7.cell? ⟨gb101, 4, none⟩ = some (.slice A0_4 l0_4.length c0_4) := (blk_cell BK101.out 4).trans rfl; have hfz8_0 := blk_frozen BK101.out 0; have hfz8_1 := blk_frozen BK101.out 1; have hfz8_2 := blk_frozen BK101.out 2; have hfz8_3 := blk_frozen BK101.out 3; have hfz8_4 := blk_frozen BK101.out 4) | ((with_reducible refine gate_dst (N := 26) rfl ?_); refine Kd.R_lit (Kd.int .u64) _ 22 ?hg (N := 26) ?hd (xs := ([a0_0, a0_1, a0_2, IntKind.u64.wrap ((l0_3.length : Int))] : List Int)) (inner := [.int .u64 a0_0, .int .u64 a0_1, .int .u64 a0_2, .int .u64 (IntKind.u64.wrap ((l0_3.length : Int)))]) (ok := fun _ => True) (okp := fun _ => True) ?hr ?hp (fun _ hk => hk) trivial (Below.refl _ _) (Nat.le_refl _) (by simp) ?_; (case hd => rfl); (case hg => rfl); (case hr => first | (go_simp; done) | (go_simp; rfl)); (case hp => exact (Reps.one (show Kd.M (Kd.int .u64) _ _ _ a0_0 [.int .u64 a0_0] from rfl) (Reps.one (show Kd.M (Kd.int .u64) _ _ _ a0_1 [.int .u64 a0_1] from rfl) (Reps.one (show Kd.M (Kd.int .u64) _ _ _ a0_2 [.int .u64 a0_2] from rfl) (Reps.one (show Kd.M (Kd.int .u64) _ _ _ (IntKind.u64.wrap ((l0_3.length : Int))) [.int .u64 (IntKind.u64.wrap ((l0_3.length : Int)))] from rfl) (Reps.none _ _)))))); intro v104 w9 ho10 hb hg_ hnew_; clear hg_ hnew_; (first | rw [← Ny103.out] at ho10 | (simp only [Int.reduceToNat] at ho10; rw [← Ny103.out] at ho10)); have n0_ := Aside0.mk (Kd.R_lower ho10 (below_size (by repeat (first | (with_reducible first | exact HB.out | apply below_alloc | apply pw_below_drewN | apply below_drew1 | refine below_set ?_ GE101.out) | exact HB.out)))); have n1_ := Aside0.mk (blk_below (g := gb101) (o := .cells #[.int .u64 a0_0, .int .u64 a0_1, .int .u64 a0_2, .slice A0_3 l0_3.length c0_3, .slice A0_4 l0_4.length c0_4] 26 (0, 0)) (by (with_reducible repeat (first | refine blk_drewN ?_ _ | refine blk_drew ?_ | refine blk_alloc ?_ _)); exact BK101.out) hb); have n2_ := Aside0.mk (below_step (by repeat (first | (with_reducible first | exact HB.out | apply below_alloc | apply pw_below_drewN | apply below_drew1 | refine below_set ?_ GE101.out) | exact HB.out)) hb); clear BK101; clear HB; have HO105 := n0_; have BK101 := n1_; have HB := n2_; clear n0_ n1_ n2_; clear hb ho10; obtain ⟨Ao11, co11, eo11⟩ := Kd.R_slice HO105.out; subst eo11) | ((with_reducible refine gate_callee (f := 51) rfl ?_); refine goesL_ (some 27) rfl rfl Tryd.func51 (by kernel_rfl) rfl #[.slice Ao11 y103.length co11] rfl (by (try simp only [List.map_toArray, List.map_cons, List.map_nil]); first | done | rfl | (simp only [List.length_drop, List.length_take]; rfl)) ?_; (with_reducible refine (edit_nums.calls k _ _ y103 t106 _ ?side1 ?side2 A4.out).mono ?_); (case side1 => repeat (first | exact (Kd.R_reads' HO105.out).2.2 | (with_reducible refine Kd.C_alloc ?_ _) | (with_reducible refine Kd.C_drewN ?_ _) | (with_reducible refine Kd.C_drew ?_))); (case side2 => exact (Kd.R_reads' HO105.out).2.1); rintro e w12 ⟨rfl, hb⟩; refine ⟨_, rfl, ?_⟩; have n0_ := Aside0.mk (Kd.R_below (by (with_reducible repeat (first | apply Kd.R_alloc | apply Kd.R_drewN | apply Kd.R_drew)); exact HO105.out) hb); have n1_ := Aside0.mk (blk_below (g := gb101) (o := .cells #[.int .u64 a0_0, .int .u64 a0_1, .int .u64 a0_2, .slice A0_3 l0_3.length c0_3, .slice A0_4 l0_4.length c0_4] 26 (0, 0)) (by (with_reducible repeat (first | refine blk_drewN ?_ _ | refine blk_drew ?_ | refine blk_alloc ?_ _)); exact BK101.out) hb); have n2_ := Aside0.mk (below_step (by repeat (first | (with_reducible first | exact HB.out | apply below_alloc | apply pw_below_drewN | apply below_drew1 | refine below_set ?_ GE101.out) | exact HB.out)) hb); clear HO105; clear BK101; clear HB; have HO105 := n0_; have BK101 := n1_; have HB := n2_; clear n0_ n1_ n2_; (try clear hb); (try clear hb2); (try clear hk); (try clear hi); have hcz13_0 : w12.cell? ⟨gb101, 0, none⟩ = some (.int .u64 a0_0) := (blk_cell BK101.out 0).trans rfl; have hcz13_1 : w12.cell? ⟨gb101, 1, none⟩ = some (.int .u64 a0_1) := (blk_cell BK101.out 1).trans rfl; have hcz13_2 : w12.cell? ⟨gb101, 2, none⟩ = some (.int .u64 a0_2) := (blk_cell BK101.out 2).trans rfl; have hcz13_3 : w12.cell? ⟨gb101, 3, none⟩ = some (.slice A0_3 l0_3.length c0_3) := (blk_cell BK101.out 3).trans rfl; have hcz13_4 : w12.cell? ⟨gb101, 4, none⟩ = some (.slice A0_4 l0_4.length c0_4) := (blk_cell BK101.out 4).trans rfl; have hfz13_0 := blk_frozen BK101.out 0; have hfz13_1 := blk_frozen BK101.out 1; have hfz13_2 := blk_frozen BK101.out 2; have hfz13_3 := blk_frozen BK101.out 3; have hfz13_4 := blk_frozen BK101.out 4))
    go_loopg [5, 31] k (fun kq v5 v31 w' => ∃ (x5_1 : ByteArray) (x31_1 : Int), v5 = .string x5_1 ∧ v31 = .int .i64 x31_1 ∧ Aside0 (edit_Edit_Bytes.l0 kq x5_1 l0_3 (l0_3.length : Int) x31_1 a0_0 a0_1 a0_2 l0_3 l0_4 = some (r1, r2)) ∧ Aside0 (kq ≤ k) ∧ Aside0 (w'.heap[gb101]? = some (.cells #[.int .u64 a0_0, .int .u64 a0_1, .int .u64 a0_2, (.slice A0_3 l0_3.length c0_3), (.slice A0_4 l0_4.length c0_4)] 26 (0, 0))) ∧ Aside0 (Below w.heap.size w w'))
    case atStart => exact ⟨(t106), (0), (by first | rfl | (simp; done) | (simp [*]; done)), (by first | rfl | (simp; done) | (simp [*]; done)), H', ⟨Nat.le_refl _⟩, ⟨by (with_reducible repeat (first | refine blk_drewN ?_ _ | refine blk_drew ?_ | refine blk_alloc ?_ _)); exact BK101.out⟩, ⟨by repeat (first | (with_reducible first | exact HB.out | apply below_alloc | apply pw_below_drewN | apply below_drew1 | refine below_set ?_ GE101.out) | exact HB.out)⟩⟩
    case round =>
      clear H'
      try clear c1
      try clear c2
      try clear p2
      try clear c3
      try clear c3b0
      try clear c3b1
      try clear c5
      try clear hcz13_0
      try clear hcz13_1
      try clear hcz13_2
      try clear hcz13_3
      try clear hcz13_4
      try clear hcz6_0
      try clear hcz6_1
      try clear hcz6_2
      try clear hcz6_3
      try clear hcz6_4
      try clear hcz8_0
      try clear hcz8_1
      try clear hcz8_2
      try clear hcz8_3
      try clear hcz8_4
      try clear hfz13_0
      try clear hfz13_1
      try clear hfz13_2
      try clear hfz13_3
      try clear hfz13_4
      try clear hfz6_0
      try clear hfz6_1
      try clear hfz6_2
      try clear hfz6_3
      try clear hfz6_4
      try clear hfz8_0
      try clear hfz8_1
      try clear hfz8_2
      try clear hfz8_3
      try clear hfz8_4
      obtain ⟨x5_1, x31_1, rfl, rfl, HA, HK1, BK101, HB⟩ := hrel
      cases gk with
      | zero => exact absurd HA.out (by simp [edit_Edit_Bytes.l0])
      | succ k1 =>
        have H := HA.out
        clear HA
        simp only [edit_Edit_Bytes.l0] at H
        by_cases c14 : x31_1 < (l0_3.length : Int)
        · rw [if_pos c14] at H
          have c14b0 : decide (x31_1 < (l0_3.length : Int)) = true := decide_eq_true c14
          clear c14
          by_cases c15 : 0 ≤ x31_1
          · rw [if_pos c15] at H
            have c15b0 : decide (0 ≤ x31_1) = true := decide_eq_true c15
            clear c15
            by_cases c16 : x31_1 < (l0_3.length : Int)
            · rw [if_pos c16] at H
              have c16b0 : decide (x31_1 < (l0_3.length : Int)) = true := decide_eq_true c16
              clear c16
              obtain ⟨y110, hy110⟩ : ∃ y_ : List Int, y_ = (([IntKind.u64.wrap ((rd_T107 l0_3 x31_1).f0), (rd_T107 l0_3 x31_1).f1.f0, (rd_T107 l0_3 x31_1).f1.f1, (rd_T107 l0_3 x31_1).f1.f2] : List Int)) := ⟨_, rfl⟩
              replace H : ((edit_nums.f k1 y110).bind fun t113 => ((varint_Text.f k1 ((rd_T107 l0_3 x31_1).f1.f3)).bind fun t114 => (if t113.size + t114.size ≤ 9223372036854775807 then ((varint_Text.f k1 ((rd_T107 l0_3 x31_1).f1.f4)).bind fun t115 => (if (t113 ++ t114).size + t115.size ≤ 9223372036854775807 then (if x5_1.size + ((t113 ++ t114) ++ t115).size ≤ 9223372036854775807 then (edit_Edit_Bytes.l0 k1 (x5_1 ++ ((t113 ++ t114) ++ t115)) l0_3 (l0_3.length : Int) (wrap64 (x31_1 + 1)) a0_0 a0_1 a0_2 l0_3 l0_4) else (none)) else (none))) else (none)))) = some (r1, r2) := by first | (rw [hy110]; with_reducible exact H) | (have H2_ := (Option.bind_some _ _).symm.trans H; rw [hy110]; with_reducible exact H2_) | (have H2_ := (Option.bind_some _ _).symm.trans H; with_reducible exact H2_) | with_reducible exact H | (rw [hy110]; exact H) | exact H
              have Ny110 := Aside0.mk hy110
              clear hy110
              replace H := Option.bind_eq_some_iff.mp H
              obtain ⟨t113, A170, H⟩ := H
              replace H : ((varint_Text.f k1 ((rd_T107 l0_3 x31_1).f1.f3)).bind fun t114 => (if t113.size + t114.size ≤ 9223372036854775807 then ((varint_Text.f k1 ((rd_T107 l0_3 x31_1).f1.f4)).bind fun t115 => (if (t113 ++ t114).size + t115.size ≤ 9223372036854775807 then (if x5_1.size + ((t113 ++ t114) ++ t115).size ≤ 9223372036854775807 then (edit_Edit_Bytes.l0 k1 (x5_1 ++ ((t113 ++ t114) ++ t115)) l0_3 (l0_3.length : Int) (wrap64 (x31_1 + 1)) a0_0 a0_1 a0_2 l0_3 l0_4) else (none)) else (none))) else (none))) = some (r1, r2) := H
              have A17 := Aside0.mk A170
              clear A170
              replace H := Option.bind_eq_some_iff.mp H
              obtain ⟨t114, A180, H⟩ := H
              replace H : (if t113.size + t114.size ≤ 9223372036854775807 then ((varint_Text.f k1 ((rd_T107 l0_3 x31_1).f1.f4)).bind fun t115 => (if (t113 ++ t114).size + t115.size ≤ 9223372036854775807 then (if x5_1.size + ((t113 ++ t114) ++ t115).size ≤ 9223372036854775807 then (edit_Edit_Bytes.l0 k1 (x5_1 ++ ((t113 ++ t114) ++ t115)) l0_3 (l0_3.length : Int) (wrap64 (x31_1 + 1)) a0_0 a0_1 a0_2 l0_3 l0_4) else (none)) else (none))) else (none)) = some (r1, r2) := H
              have A18 := Aside0.mk A180
              clear A180
              by_cases c19 : t113.size + t114.size ≤ 9223372036854775807
              · rw [if_pos c19] at H
                have c19b0 := eq_true c19
                have c19b1 : decide (t113.size + t114.size ≤ 9223372036854775807) = true := decide_eq_true c19
                try have c19b2 : (9223372036854775807 < t113.size + t114.size) = False := eq_false (Nat.not_lt.2 c19)
                replace H := Option.bind_eq_some_iff.mp H
                obtain ⟨t115, A200, H⟩ := H
                replace H : (if (t113 ++ t114).size + t115.size ≤ 9223372036854775807 then (if x5_1.size + ((t113 ++ t114) ++ t115).size ≤ 9223372036854775807 then (edit_Edit_Bytes.l0 k1 (x5_1 ++ ((t113 ++ t114) ++ t115)) l0_3 (l0_3.length : Int) (wrap64 (x31_1 + 1)) a0_0 a0_1 a0_2 l0_3 l0_4) else (none)) else (none)) = some (r1, r2) := H
                have A20 := Aside0.mk A200
                clear A200
                by_cases c21 : (t113 ++ t114).size + t115.size ≤ 9223372036854775807
                · rw [if_pos c21] at H
                  have c21b0 := eq_true c21
                  have c21b1 : decide ((t113 ++ t114).size + t115.size ≤ 9223372036854775807) = true := decide_eq_true c21
                  try have c21b2 : (9223372036854775807 < (t113 ++ t114).size + t115.size) = False := eq_false (Nat.not_lt.2 c21)
                  try (have c21b3 := c21b2; simp only [ByteArray.size_append'] at c21b3)
                  by_cases c22 : x5_1.size + ((t113 ++ t114) ++ t115).size ≤ 9223372036854775807
                  · rw [if_pos c22] at H
                    have c22b0 := eq_true c22
                    have c22b1 : decide (x5_1.size + ((t113 ++ t114) ++ t115).size ≤ 9223372036854775807) = true := decide_eq_true c22
                    try have c22b2 : (9223372036854775807 < x5_1.size + ((t113 ++ t114) ++ t115).size) = False := eq_false (Nat.not_lt.2 c22)
                    try (have c22b3 := c22b2; simp only [ByteArray.size_append'] at c22b3)
                    have H' := Aside0.mk H
                    clear H
                    have p107 : 0 ≤ (x31_1 : Int) := of_decide_eq_true (by first | (with_reducible assumption) | assumption)
                    have q107 : x31_1 < (l0_3.length : Int) := of_decide_eq_true (by first | (with_reducible assumption) | assumption)
                    obtain ⟨ad107, e107, hx107_0, hx107_1, hx107_2, hx107_3, hx107_4, hx107_5⟩ := at_T107 HR0_3.out x31_1 p107 q107
                    cases e107
                    replace hx107_0 := (HB.out.cell (World.block_lt_of_cell? w _ hx107_0)).trans hx107_0
                    replace hx107_1 := (HB.out.cell (World.block_lt_of_cell? w _ hx107_1)).trans hx107_1
                    replace hx107_2 := (HB.out.cell (World.block_lt_of_cell? w _ hx107_2)).trans hx107_2
                    replace hx107_3 := (HB.out.cell (World.block_lt_of_cell? w _ hx107_3)).trans hx107_3
                    replace hx107_4 := (HB.out.cell (World.block_lt_of_cell? w _ hx107_4)).trans hx107_4
                    replace hx107_5 := (HB.out.cell (World.block_lt_of_cell? w _ hx107_5)).trans hx107_5
                    replace p107 := eq_true p107
                    replace q107 := eq_true q107
                    try go_wp2_with (first | ((with_reducible refine gate_dst (N := 7) rfl ?_); refine box_event ?hg (N := 7) ?hd (cs := #[.int .i64 0, .int .u64 0, .int .u64 0, .int .u64 0, .string (⟨#[]⟩ : ByteArray), .string (⟨#[]⟩ : ByteArray)]) (t := 107) ?hr ?_; (case hd => rfl); (case hg => rfl); (case hr => first | (go_simp; done) | (go_simp; rfl)); intro gb108 hg w23 hbox hb; have n0_ := Aside0.mk (blk_below (g := gb101) (o := .cells #[.int .u64 a0_0, .int .u64 a0_1, .int .u64 a0_2, .slice (some ad107) l0_3.length c0_3, .slice A0_4 l0_4.length c0_4] 26 (0, 0)) (by (with_reducible repeat (first | refine blk_drewN ?_ _ | refine blk_drew ?_ | refine blk_alloc ?_ _)); exact BK101.out) hb); have n1_ := Aside0.mk (below_step (by repeat (first | (with_reducible first | exact HB.out | apply below_alloc | apply pw_below_drewN | apply below_drew1 | refine below_set ?_ GE101.out) | exact HB.out)) hb); have n2_ := Aside0.mk (hbox); have n3_ := Aside0.mk ((by rw [hg]; exact (below_size (by repeat (first | (with_reducible first | exact HB.out | apply below_alloc | apply pw_below_drewN | apply below_drew1 | refine below_set ?_ GE101.out) | exact HB.out))) : w.heap.size ≤ gb108)); have n4_ := Aside0.mk ((by rw [hg]; exact (below_size (by repeat (first | (with_reducible first | exact HB.out | apply below_alloc | apply pw_below_drewN | apply below_drew1 | refine below_set ?_ GE101.out) | exact HB.out))) : w.heap.size ≤ gb108)); have n5_ := Aside0.mk ((by rw [hg]; exact Nat.ne_of_lt (blk_lt (g := gb101) (o := .cells #[.int .u64 a0_0, .int .u64 a0_1, .int .u64 a0_2, .slice (some ad107) l0_3.length c0_3, .slice A0_4 l0_4.length c0_4] 26 (0, 0)) (by (with_reducible repeat (first | refine blk_drewN ?_ _ | refine blk_drew ?_ | refine blk_alloc ?_ _)); exact BK101.out)) : gb101 ≠ gb108)); have n6_ := Aside0.mk ((by rw [hg]; exact Nat.ne_of_gt (blk_lt (g := gb101) (o := .cells #[.int .u64 a0_0, .int .u64 a0_1, .int .u64 a0_2, .slice (some ad107) l0_3.length c0_3, .slice A0_4 l0_4.length c0_4] 26 (0, 0)) (by (with_reducible repeat (first | refine blk_drewN ?_ _ | refine blk_drew ?_ | refine blk_alloc ?_ _)); exact BK101.out)) : gb108 ≠ gb101)); clear BK101; clear HB; have BK101 := n0_; have HB := n1_; have BK108 := n2_; have GW108 := n3_; have GE108 := n4_; have NB101_108 := n5_; have NB108_101 := n6_; clear n0_ n1_ n2_ n3_ n4_ n5_ n6_; clear hb hbox hg; have hnb24 := NB108_101.out; have hnc24 := NB101_108.out; have hcz25_0 : w23.cell? ⟨gb108, 0, none⟩ = some (.int .i64 0) := (blk_cell BK108.out 0).trans rfl; have hcz25_1 : w23.cell? ⟨gb108, 1, none⟩ = some (.int .u64 0) := (blk_cell BK108.out 1).trans rfl; have hcz25_2 : w23.cell? ⟨gb108, 2, none⟩ = some (.int .u64 0) := (blk_cell BK108.out 2).trans rfl; have hcz25_3 : w23.cell? ⟨gb108, 3, none⟩ = some (.int .u64 0) := (blk_cell BK108.out 3).trans rfl; have hcz25_4 : w23.cell? ⟨gb108, 4, none⟩ = some (.string (⟨#[]⟩ : ByteArray)) := (blk_cell BK108.out 4).trans rfl; have hcz25_5 : w23.cell? ⟨gb108, 5, none⟩ = some (.string (⟨#[]⟩ : ByteArray)) := (blk_cell BK108.out 5).trans rfl; have hfz25_0 := blk_frozen BK108.out 0; have hfz25_1 := blk_frozen BK108.out 1; have hfz25_2 := blk_frozen BK108.out 2; have hfz25_3 := blk_frozen BK108.out 3; have hfz25_4 := blk_frozen BK108.out 4; have hfz25_5 := blk_frozen BK108.out 5) | ((with_reducible refine gate_dst (N := 8) rfl ?_); refine box_event ?hg (N := 8) ?hd (cs := #[.int .u64 0, .int .u64 0, .int .u64 0, .string (⟨#[]⟩ : ByteArray), .string (⟨#[]⟩ : ByteArray)]) (t := 97) ?hr ?_; (case hd => rfl); (case hg => rfl); (case hr => first | (go_simp; done) | (go_simp; rfl)); intro gb109 hg w26 hbox hb; have n0_ := Aside0.mk (blk_below (g := gb101) (o := .cells #[.int .u64 a0_0, .int .u64 a0_1, .int .u64 a0_2, .slice (some ad107) l0_3.length c0_3, .slice A0_4 l0_4.length c0_4] 26 (0, 0)) (by (with_reducible repeat (first | refine blk_drewN ?_ _ | refine blk_drew ?_ | refine blk_alloc ?_ _)); refine blk_far ?_ NB101_108.out _; (with_reducible repeat (first | refine blk_drewN ?_ _ | refine blk_drew ?_ | refine blk_alloc ?_ _)); refine blk_far ?_ NB101_108.out _; (with_reducible repeat (first | refine blk_drewN ?_ _ | refine blk_drew ?_ | refine blk_alloc ?_ _)); refine blk_far ?_ NB101_108.out _; (with_reducible repeat (first | refine blk_drewN ?_ _ | refine blk_drew ?_ | refine blk_alloc ?_ _)); refine blk_far ?_ NB101_108.out _; (with_reducible repeat (first | refine blk_drewN ?_ _ | refine blk_drew ?_ | refine blk_alloc ?_ _)); refine blk_far ?_ NB101_108.out _; (with_reducible repeat (first | refine blk_drewN ?_ _ | refine blk_drew ?_ | refine blk_alloc ?_ _)); refine blk_far ?_ NB101_108.out _; (with_reducible repeat (first | refine blk_drewN ?_ _ | refine blk_drew ?_ | refine blk_alloc ?_ _)); exact BK101.out) hb); have n1_ := Aside0.mk (blk_below (g := gb108) (o := .cells #[.int .i64 ((rd_T107 l0_3 x31_1).f0), .int .u64 ((rd_T107 l0_3 x31_1).f1.f0), .int .u64 ((rd_T107 l0_3 x31_1).f1.f1), .int .u64 ((rd_T107 l0_3 x31_1).f1.f2), .string ((rd_T107 l0_3 x31_1).f1.f3), .string ((rd_T107 l0_3 x31_1).f1.f4)] 107 (0, 0)) (by (with_reducible repeat (first | refine blk_drewN ?_ _ | refine blk_drew ?_ | refine blk_alloc ?_ _)); refine blk_put (cs := #[.int .i64 ((rd_T107 l0_3 x31_1).f0), .int .u64 ((rd_T107 l0_3 x31_1).f1.f0), .int .u64 ((rd_T107 l0_3 x31_1).f1.f1), .int .u64 ((rd_T107 l0_3 x31_1).f1.f2), .string ((rd_T107 l0_3 x31_1).f1.f3), .string (⟨#[]⟩ : ByteArray)]) ?_ 5 _ rfl; (with_reducible repeat (first | refine blk_drewN ?_ _ | refine blk_drew ?_ | refine blk_alloc ?_ _)); refine blk_put (cs := #[.int .i64 ((rd_T107 l0_3 x31_1).f0), .int .u64 ((rd_T107 l0_3 x31_1).f1.f0), .int .u64 ((rd_T107 l0_3 x31_1).f1.f1), .int .u64 ((rd_T107 l0_3 x31_1).f1.f2), .string (⟨#[]⟩ : ByteArray), .string (⟨#[]⟩ : ByteArray)]) ?_ 4 _ rfl; (with_reducible repeat (first | refine blk_drewN ?_ _ | refine blk_drew ?_ | refine blk_alloc ?_ _)); refine blk_put (cs := #[.int .i64 ((rd_T107 l0_3 x31_1).f0), .int .u64 ((rd_T107 l0_3 x31_1).f1.f0), .int .u64 ((rd_T107 l0_3 x31_1).f1.f1), .int .u64 0, .string (⟨#[]⟩ : ByteArray), .string (⟨#[]⟩ : ByteArray)]) ?_ 3 _ rfl; (with_reducible repeat (first | refine blk_drewN ?_ _ | refine blk_drew ?_ | refine blk_alloc ?_ _)); refine blk_put (cs := #[.int .i64 ((rd_T107 l0_3 x31_1).f0), .int .u64 ((rd_T107 l0_3 x31_1).f1.f0), .int .u64 0, .int .u64 0, .string (⟨#[]⟩ : ByteArray), .string (⟨#[]⟩ : ByteArray)]) ?_ 2 _ rfl; (with_reducible repeat (first | refine blk_drewN ?_ _ | refine blk_drew ?_ | refine blk_alloc ?_ _)); refine blk_put (cs := #[.int .i64 ((rd_T107 l0_3 x31_1).f0), .int .u64 0, .int .u64 0, .int .u64 0, .string (⟨#[]⟩ : ByteArray), .string (⟨#[]⟩ : ByteArray)]) ?_ 1 _ rfl; (with_reducible repeat (first | refine blk_drewN ?_ _ | refine blk_drew ?_ | refine blk_alloc ?_ _)); refine blk_put (cs := #[.int .i64 0, .int .u64 0, .int .u64 0, .int .u64 0, .string (⟨#[]⟩ : ByteArray), .string (⟨#[]⟩ : ByteArray)]) ?_ 0 _ rfl; (with_reducible repeat (first | refine blk_drewN ?_ _ | refine blk_drew ?_ | refine blk_alloc ?_ _)); exact BK108.out) hb); have n2_ := Aside0.mk (below_step (by repeat (first | (with_reducible first | exact HB.out | apply below_alloc | apply pw_below_drewN | apply below_drew1 | refine below_set ?_ GE101.out | refine below_set ?_ GE108.out) | exact HB.out)) hb); have n3_ := Aside0.mk (hbox); have n4_ := Aside0.mk ((by rw [hg]; exact (below_size (by repeat (first | (with_reducible first | exact HB.out | apply below_alloc | apply pw_below_drewN | apply below_drew1 | refine below_set ?_ GE101.out | refine below_set ?_ GE108.out) | exact HB.out))) : w.heap.size ≤ gb109)); have n5_ := Aside0.mk ((by rw [hg]; exact (below_size (by repeat (first | (with_reducible first | exact HB.out | apply below_alloc | apply pw_below_drewN | apply below_drew1 | refine below_set ?_ GE101.out | refine below_set ?_ GE108.out) | exact HB.out))) : w.heap.size ≤ gb109)); have n6_ := Aside0.mk ((by rw [hg]; exact Nat.ne_of_lt (blk_lt (g := gb101) (o := .cells #[.int .u64 a0_0, .int .u64 a0_1, .int .u64 a0_2, .slice (some ad107) l0_3.length c0_3, .slice A0_4 l0_4.length c0_4] 26 (0, 0)) (by (with_reducible repeat (first | refine blk_drewN ?_ _ | refine blk_drew ?_ | refine blk_alloc ?_ _)); refine blk_far ?_ NB101_108.out _; (with_reducible repeat (first | refine blk_drewN ?_ _ | refine blk_drew ?_ | refine blk_alloc ?_ _)); refine blk_far ?_ NB101_108.out _; (with_reducible repeat (first | refine blk_drewN ?_ _ | refine blk_drew ?_ | refine blk_alloc ?_ _)); refine blk_far ?_ NB101_108.out _; (with_reducible repeat (first | refine blk_drewN ?_ _ | refine blk_drew ?_ | refine blk_alloc ?_ _)); refine blk_far ?_ NB101_108.out _; (with_reducible repeat (first | refine blk_drewN ?_ _ | refine blk_drew ?_ | refine blk_alloc ?_ _)); refine blk_far ?_ NB101_108.out _; (with_reducible repeat (first | refine blk_drewN ?_ _ | refine blk_drew ?_ | refine blk_alloc ?_ _)); refine blk_far ?_ NB101_108.out _; (with_reducible repeat (first | refine blk_drewN ?_ _ | refine blk_drew ?_ | refine blk_alloc ?_ _)); exact BK101.out)) : gb101 ≠ gb109)); have n7_ := Aside0.mk ((by rw [hg]; exact Nat.ne_of_gt (blk_lt (g := gb101) (o := .cells #[.int .u64 a0_0, .int .u64 a0_1, .int .u64 a0_2, .slice (some ad107) l0_3.length c0_3, .slice A0_4 l0_4.length c0_4] 26 (0, 0)) (by (with_reducible repeat (first | refine blk_drewN ?_ _ | refine blk_drew ?_ | refine blk_alloc ?_ _)); refine blk_far ?_ NB101_108.out _; (with_reducible repeat (first | refine blk_drewN ?_ _ | refine blk_drew ?_ | refine blk_alloc ?_ _)); refine blk_far ?_ NB101_108.out _; (with_reducible repeat (first | refine blk_drewN ?_ _ | refine blk_drew ?_ | refine blk_alloc ?_ _)); refine blk_far ?_ NB101_108.out _; (with_reducible repeat (first | refine blk_drewN ?_ _ | refine blk_drew ?_ | refine blk_alloc ?_ _)); refine blk_far ?_ NB101_108.out _; (with_reducible repeat (first | refine blk_drewN ?_ _ | refine blk_drew ?_ | refine blk_alloc ?_ _)); refine blk_far ?_ NB101_108.out _; (with_reducible repeat (first | refine blk_drewN ?_ _ | refine blk_drew ?_ | refine blk_alloc ?_ _)); refine blk_far ?_ NB101_108.out _; (with_reducible repeat (first | refine blk_drewN ?_ _ | refine blk_drew ?_ | refine blk_alloc ?_ _)); exact BK101.out)) : gb109 ≠ gb101)); have n8_ := Aside0.mk ((by rw [hg]; exact Nat.ne_of_lt (blk_lt (g := gb108) (o := .cells #[.int .i64 ((rd_T107 l0_3 x31_1).f0), .int .u64 ((rd_T107 l0_3 x31_1).f1.f0), .int .u64 ((rd_T107 l0_3 x31_1).f1.f1), .int .u64 ((rd_T107 l0_3 x31_1).f1.f2), .string ((rd_T107 l0_3 x31_1).f1.f3), .string ((rd_T107 l0_3 x31_1).f1.f4)] 107 (0, 0)) (by (with_reducible repeat (first | refine blk_drewN ?_ _ | refine blk_drew ?_ | refine blk_alloc ?_ _)); refine blk_put (cs := #[.int .i64 ((rd_T107 l0_3 x31_1).f0), .int .u64 ((rd_T107 l0_3 x31_1).f1.f0), .int .u64 ((rd_T107 l0_3 x31_1).f1.f1), .int .u64 ((rd_T107 l0_3 x31_1).f1.f2), .string ((rd_T107 l0_3 x31_1).f1.f3), .string (⟨#[]⟩ : ByteArray)]) ?_ 5 _ rfl; (with_reducible repeat (first | refine blk_drewN ?_ _ | refine blk_drew ?_ | refine blk_alloc ?_ _)); refine blk_put (cs := #[.int .i64 ((rd_T107 l0_3 x31_1).f0), .int .u64 ((rd_T107 l0_3 x31_1).f1.f0), .int .u64 ((rd_T107 l0_3 x31_1).f1.f1), .int .u64 ((rd_T107 l0_3 x31_1).f1.f2), .string (⟨#[]⟩ : ByteArray), .string (⟨#[]⟩ : ByteArray)]) ?_ 4 _ rfl; (with_reducible repeat (first | refine blk_drewN ?_ _ | refine blk_drew ?_ | refine blk_alloc ?_ _)); refine blk_put (cs := #[.int .i64 ((rd_T107 l0_3 x31_1).f0), .int .u64 ((rd_T107 l0_3 x31_1).f1.f0), .int .u64 ((rd_T107 l0_3 x31_1).f1.f1), .int .u64 0, .string (⟨#[]⟩ : ByteArray), .string (⟨#[]⟩ : ByteArray)]) ?_ 3 _ rfl; (with_reducible repeat (first | refine blk_drewN ?_ _ | refine blk_drew ?_ | refine blk_alloc ?_ _)); refine blk_put (cs := #[.int .i64 ((rd_T107 l0_3 x31_1).f0), .int .u64 ((rd_T107 l0_3 x31_1).f1.f0), .int .u64 0, .int .u64 0, .string (⟨#[]⟩ : ByteArray), .string (⟨#[]⟩ : ByteArray)]) ?_ 2 _ rfl; (with_reducible repeat (first | refine blk_drewN ?_ _ | refine blk_drew ?_ | refine blk_alloc ?_ _)); refine blk_put (cs := #[.int .i64 ((rd_T107 l0_3 x31_1).f0), .int .u64 0, .int .u64 0, .int .u64 0, .string (⟨#[]⟩ : ByteArray), .string (⟨#[]⟩ : ByteArray)]) ?_ 1 _ rfl; (with_reducible repeat (first | refine blk_drewN ?_ _ | refine blk_drew ?_ | refine blk_alloc ?_ _)); refine blk_put (cs := #[.int .i64 0, .int .u64 0, .int .u64 0, .int .u64 0, .string (⟨#[]⟩ : ByteArray), .string (⟨#[]⟩ : ByteArray)]) ?_ 0 _ rfl; (with_reducible repeat (first | refine blk_drewN ?_ _ | refine blk_drew ?_ | refine blk_alloc ?_ _)); exact BK108.out)) : gb108 ≠ gb109)); have n9_ := Aside0.mk ((by rw [hg]; exact Nat.ne_of_gt (blk_lt (g := gb108) (o := .cells #[.int .i64 ((rd_T107 l0_3 x31_1).f0), .int .u64 ((rd_T107 l0_3 x31_1).f1.f0), .int .u64 ((rd_T107 l0_3 x31_1).f1.f1), .int .u64 ((rd_T107 l0_3 x31_1).f1.f2), .string ((rd_T107 l0_3 x31_1).f1.f3), .string ((rd_T107 l0_3 x31_1).f1.f4)] 107 (0, 0)) (by (with_reducible repeat (first | refine blk_drewN ?_ _ | refine blk_drew ?_ | refine blk_alloc ?_ _)); refine blk_put (cs := #[.int .i64 ((rd_T107 l0_3 x31_1).f0), .int .u64 ((rd_T107 l0_3 x31_1).f1.f0), .int .u64 ((rd_T107 l0_3 x31_1).f1.f1), .int .u64 ((rd_T107 l0_3 x31_1).f1.f2), .string ((rd_T107 l0_3 x31_1).f1.f3), .string (⟨#[]⟩ : ByteArray)]) ?_ 5 _ rfl; (with_reducible repeat (first | refine blk_drewN ?_ _ | refine blk_drew ?_ | refine blk_alloc ?_ _)); refine blk_put (cs := #[.int .i64 ((rd_T107 l0_3 x31_1).f0), .int .u64 ((rd_T107 l0_3 x31_1).f1.f0), .int .u64 ((rd_T107 l0_3 x31_1).f1.f1), .int .u64 ((rd_T107 l0_3 x31_1).f1.f2), .string (⟨#[]⟩ : ByteArray), .string (⟨#[]⟩ : ByteArray)]) ?_ 4 _ rfl; (with_reducible repeat (first | refine blk_drewN ?_ _ | refine blk_drew ?_ | refine blk_alloc ?_ _)); refine blk_put (cs := #[.int .i64 ((rd_T107 l0_3 x31_1).f0), .int .u64 ((rd_T107 l0_3 x31_1).f1.f0), .int .u64 ((rd_T107 l0_3 x31_1).f1.f1), .int .u64 0, .string (⟨#[]⟩ : ByteArray), .string (⟨#[]⟩ : ByteArray)]) ?_ 3 _ rfl; (with_reducible repeat (first | refine blk_drewN ?_ _ | refine blk_drew ?_ | refine blk_alloc ?_ _)); refine blk_put (cs := #[.int .i64 ((rd_T107 l0_3 x31_1).f0), .int .u64 ((rd_T107 l0_3 x31_1).f1.f0), .int .u64 0, .int .u64 0, .string (⟨#[]⟩ : ByteArray), .string (⟨#[]⟩ : ByteArray)]) ?_ 2 _ rfl; (with_reducible repeat (first | refine blk_drewN ?_ _ | refine blk_drew ?_ | refine blk_alloc ?_ _)); refine blk_put (cs := #[.int .i64 ((rd_T107 l0_3 x31_1).f0), .int .u64 0, .int .u64 0, .int .u64 0, .string (⟨#[]⟩ : ByteArray), .string (⟨#[]⟩ : ByteArray)]) ?_ 1 _ rfl; (with_reducible repeat (first | refine blk_drewN ?_ _ | refine blk_drew ?_ | refine blk_alloc ?_ _)); refine blk_put (cs := #[.int .i64 0, .int .u64 0, .int .u64 0, .int .u64 0, .string (⟨#[]⟩ : ByteArray), .string (⟨#[]⟩ : ByteArray)]) ?_ 0 _ rfl; (with_reducible repeat (first | refine blk_drewN ?_ _ | refine blk_drew ?_ | refine blk_alloc ?_ _)); exact BK108.out)) : gb109 ≠ gb108)); clear BK101; clear BK108; clear HB; have BK101 := n0_; have BK108 := n1_; have HB := n2_; have BK109 := n3_; have GW109 := n4_; have GE109 := n5_; have NB101_109 := n6_; have NB109_101 := n7_; have NB108_109 := n8_; have NB109_108 := n9_; clear n0_ n1_ n2_ n3_ n4_ n5_ n6_ n7_ n8_ n9_; clear hb hbox hg; have hnb27 := NB109_101.out; have hnc27 := NB101_109.out; have hnb28 := NB109_108.out; have hnc28 := NB108_109.out; have hcz29_0 : w26.cell? ⟨gb109, 0, none⟩ = some (.int .u64 0) := (blk_cell BK109.out 0).trans rfl; have hcz29_1 : w26.cell? ⟨gb109, 1, none⟩ = some (.int .u64 0) := (blk_cell BK109.out 1).trans rfl; have hcz29_2 : w26.cell? ⟨gb109, 2, none⟩ = some (.int .u64 0) := (blk_cell BK109.out 2).trans rfl; have hcz29_3 : w26.cell? ⟨gb109, 3, none⟩ = some (.string (⟨#[]⟩ : ByteArray)) := (blk_cell BK109.out 3).trans rfl; have hcz29_4 : w26.cell? ⟨gb109, 4, none⟩ = some (.string (⟨#[]⟩ : ByteArray)) := (blk_cell BK109.out 4).trans rfl; have hfz29_0 := blk_frozen BK109.out 0; have hfz29_1 := blk_frozen BK109.out 1; have hfz29_2 := blk_frozen BK109.out 2; have hfz29_3 := blk_frozen BK109.out 3; have hfz29_4 := blk_frozen BK109.out 4))
                    have n0_ : Aside0 ((((((w26.setCell ⟨gb109, 0, none⟩ (.int .u64 ((rd_T107 l0_3 x31_1).f1.f0))).setCell ⟨gb109, 1, none⟩ (.int .u64 ((rd_T107 l0_3 x31_1).f1.f1))).setCell ⟨gb109, 2, none⟩ (.int .u64 ((rd_T107 l0_3 x31_1).f1.f2))).setCell ⟨gb109, 3, none⟩ (.string ((rd_T107 l0_3 x31_1).f1.f3))).setCell ⟨gb109, 4, none⟩ (.string ((rd_T107 l0_3 x31_1).f1.f4))).heap[gb101]? = some (.cells #[.int .u64 a0_0, .int .u64 a0_1, .int .u64 a0_2, .slice (some ad107) l0_3.length c0_3, .slice A0_4 l0_4.length c0_4] 26 (0, 0))) := ⟨by (with_reducible repeat (first | refine blk_drewN ?_ _ | refine blk_drew ?_ | refine blk_alloc ?_ _)); refine blk_far ?_ NB101_109.out _; (with_reducible repeat (first | refine blk_drewN ?_ _ | refine blk_drew ?_ | refine blk_alloc ?_ _)); refine blk_far ?_ NB101_109.out _; (with_reducible repeat (first | refine blk_drewN ?_ _ | refine blk_drew ?_ | refine blk_alloc ?_ _)); refine blk_far ?_ NB101_109.out _; (with_reducible repeat (first | refine blk_drewN ?_ _ | refine blk_drew ?_ | refine blk_alloc ?_ _)); refine blk_far ?_ NB101_109.out _; (with_reducible repeat (first | refine blk_drewN ?_ _ | refine blk_drew ?_ | refine blk_alloc ?_ _)); refine blk_far ?_ NB101_109.out _; (with_reducible repeat (first | refine blk_drewN ?_ _ | refine blk_drew ?_ | refine blk_alloc ?_ _)); exact BK101.out⟩
                    have n1_ : Aside0 ((((((w26.setCell ⟨gb109, 0, none⟩ (.int .u64 ((rd_T107 l0_3 x31_1).f1.f0))).setCell ⟨gb109, 1, none⟩ (.int .u64 ((rd_T107 l0_3 x31_1).f1.f1))).setCell ⟨gb109, 2, none⟩ (.int .u64 ((rd_T107 l0_3 x31_1).f1.f2))).setCell ⟨gb109, 3, none⟩ (.string ((rd_T107 l0_3 x31_1).f1.f3))).setCell ⟨gb109, 4, none⟩ (.string ((rd_T107 l0_3 x31_1).f1.f4))).heap[gb108]? = some (.cells #[.int .i64 ((rd_T107 l0_3 x31_1).f0), .int .u64 ((rd_T107 l0_3 x31_1).f1.f0), .int .u64 ((rd_T107 l0_3 x31_1).f1.f1), .int .u64 ((rd_T107 l0_3 x31_1).f1.f2), .string ((rd_T107 l0_3 x31_1).f1.f3), .string ((rd_T107 l0_3 x31_1).f1.f4)] 107 (0, 0))) := ⟨by (with_reducible repeat (first | refine blk_drewN ?_ _ | refine blk_drew ?_ | refine blk_alloc ?_ _)); refine blk_far ?_ NB108_109.out _; (with_reducible repeat (first | refine blk_drewN ?_ _ | refine blk_drew ?_ | refine blk_alloc ?_ _)); refine blk_far ?_ NB108_109.out _; (with_reducible repeat (first | refine blk_drewN ?_ _ | refine blk_drew ?_ | refine blk_alloc ?_ _)); refine blk_far ?_ NB108_109.out _; (with_reducible repeat (first | refine blk_drewN ?_ _ | refine blk_drew ?_ | refine blk_alloc ?_ _)); refine blk_far ?_ NB108_109.out _; (with_reducible repeat (first | refine blk_drewN ?_ _ | refine blk_drew ?_ | refine blk_alloc ?_ _)); refine blk_far ?_ NB108_109.out _; (with_reducible repeat (first | refine blk_drewN ?_ _ | refine blk_drew ?_ | refine blk_alloc ?_ _)); exact BK108.out⟩
                    have n2_ : Aside0 ((((((w26.setCell ⟨gb109, 0, none⟩ (.int .u64 ((rd_T107 l0_3 x31_1).f1.f0))).setCell ⟨gb109, 1, none⟩ (.int .u64 ((rd_T107 l0_3 x31_1).f1.f1))).setCell ⟨gb109, 2, none⟩ (.int .u64 ((rd_T107 l0_3 x31_1).f1.f2))).setCell ⟨gb109, 3, none⟩ (.string ((rd_T107 l0_3 x31_1).f1.f3))).setCell ⟨gb109, 4, none⟩ (.string ((rd_T107 l0_3 x31_1).f1.f4))).heap[gb109]? = some (.cells #[.int .u64 ((rd_T107 l0_3 x31_1).f1.f0), .int .u64 ((rd_T107 l0_3 x31_1).f1.f1), .int .u64 ((rd_T107 l0_3 x31_1).f1.f2), .string ((rd_T107 l0_3 x31_1).f1.f3), .string ((rd_T107 l0_3 x31_1).f1.f4)] 97 (0, 0))) := ⟨by (with_reducible repeat (first | refine blk_drewN ?_ _ | refine blk_drew ?_ | refine blk_alloc ?_ _)); refine blk_put (cs := #[.int .u64 ((rd_T107 l0_3 x31_1).f1.f0), .int .u64 ((rd_T107 l0_3 x31_1).f1.f1), .int .u64 ((rd_T107 l0_3 x31_1).f1.f2), .string ((rd_T107 l0_3 x31_1).f1.f3), .string (⟨#[]⟩ : ByteArray)]) ?_ 4 _ rfl; (with_reducible repeat (first | refine blk_drewN ?_ _ | refine blk_drew ?_ | refine blk_alloc ?_ _)); refine blk_put (cs := #[.int .u64 ((rd_T107 l0_3 x31_1).f1.f0), .int .u64 ((rd_T107 l0_3 x31_1).f1.f1), .int .u64 ((rd_T107 l0_3 x31_1).f1.f2), .string (⟨#[]⟩ : ByteArray), .string (⟨#[]⟩ : ByteArray)]) ?_ 3 _ rfl; (with_reducible repeat (first | refine blk_drewN ?_ _ | refine blk_drew ?_ | refine blk_alloc ?_ _)); refine blk_put (cs := #[.int .u64 ((rd_T107 l0_3 x31_1).f1.f0), .int .u64 ((rd_T107 l0_3 x31_1).f1.f1), .int .u64 0, .string (⟨#[]⟩ : ByteArray), .string (⟨#[]⟩ : ByteArray)]) ?_ 2 _ rfl; (with_reducible repeat (first | refine blk_drewN ?_ _ | refine blk_drew ?_ | refine blk_alloc ?_ _)); refine blk_put (cs := #[.int .u64 ((rd_T107 l0_3 x31_1).f1.f0), .int .u64 0, .int .u64 0, .string (⟨#[]⟩ : ByteArray), .string (⟨#[]⟩ : ByteArray)]) ?_ 1 _ rfl; (with_reducible repeat (first | refine blk_drewN ?_ _ | refine blk_drew ?_ | refine blk_alloc ?_ _)); refine blk_put (cs := #[.int .u64 0, .int .u64 0, .int .u64 0, .string (⟨#[]⟩ : ByteArray), .string (⟨#[]⟩ : ByteArray)]) ?_ 0 _ rfl; (with_reducible repeat (first | refine blk_drewN ?_ _ | refine blk_drew ?_ | refine blk_alloc ?_ _)); exact BK109.out⟩
                    have n3_ : Aside0 (Below w.heap.size w (((((w26.setCell ⟨gb109, 0, none⟩ (.int .u64 ((rd_T107 l0_3 x31_1).f1.f0))).setCell ⟨gb109, 1, none⟩ (.int .u64 ((rd_T107 l0_3 x31_1).f1.f1))).setCell ⟨gb109, 2, none⟩ (.int .u64 ((rd_T107 l0_3 x31_1).f1.f2))).setCell ⟨gb109, 3, none⟩ (.string ((rd_T107 l0_3 x31_1).f1.f3))).setCell ⟨gb109, 4, none⟩ (.string ((rd_T107 l0_3 x31_1).f1.f4)))) := ⟨by repeat (first | (with_reducible first | exact HB.out | apply below_alloc | apply pw_below_drewN | apply below_drew1 | refine below_set ?_ GE101.out | refine below_set ?_ GE108.out | refine below_set ?_ GE109.out) | exact HB.out)⟩
                    (try clear BK101)
                    (try clear BK108)
                    (try clear BK109)
                    (try clear HB)
                    generalize (((((w26.setCell ⟨gb109, 0, none⟩ (.int .u64 ((rd_T107 l0_3 x31_1).f1.f0))).setCell ⟨gb109, 1, none⟩ (.int .u64 ((rd_T107 l0_3 x31_1).f1.f1))).setCell ⟨gb109, 2, none⟩ (.int .u64 ((rd_T107 l0_3 x31_1).f1.f2))).setCell ⟨gb109, 3, none⟩ (.string ((rd_T107 l0_3 x31_1).f1.f3))).setCell ⟨gb109, 4, none⟩ (.string ((rd_T107 l0_3 x31_1).f1.f4))) = w30 at n0_ n1_ n2_ n3_ ⊢
                    have BK101 := n0_
                    have BK108 := n1_
                    have BK109 := n2_
                    have HB := n3_
                    clear n0_ n1_ n2_ n3_
                    have n0_ := Aside0.mk (blk_drew BK101.out)
                    have n1_ := Aside0.mk (blk_drew BK108.out)
                    have n2_ := Aside0.mk (blk_drew BK109.out)
                    have n3_ := Aside0.mk (below_drew1 HB.out)
                    clear BK101
                    clear BK108
                    clear BK109
                    clear HB
                    have BK101 := n0_
                    have BK108 := n1_
                    have BK109 := n2_
                    have HB := n3_
                    clear n0_ n1_ n2_ n3_
                    refine start_ (n := 22) (S := fun w' => w'.cell? ⟨gb108, 0, none⟩ = some (.int .i64 ((rd_T107 l0_3 x31_1).f0)) ∧ w'.cell? ⟨gb108, 1, none⟩ = some (.int .u64 ((rd_T107 l0_3 x31_1).f1.f0)) ∧ w'.cell? ⟨gb108, 2, none⟩ = some (.int .u64 ((rd_T107 l0_3 x31_1).f1.f1)) ∧ w'.cell? ⟨gb108, 3, none⟩ = some (.int .u64 ((rd_T107 l0_3 x31_1).f1.f2)) ∧ w'.cell? ⟨gb108, 4, none⟩ = some (.string ((rd_T107 l0_3 x31_1).f1.f3)) ∧ w'.cell? ⟨gb108, 5, none⟩ = some (.string ((rd_T107 l0_3 x31_1).f1.f4)) ∧ w'.cell? ⟨gb109, 0, none⟩ = some (.int .u64 ((rd_T107 l0_3 x31_1).f1.f0)) ∧ w'.cell? ⟨gb109, 1, none⟩ = some (.int .u64 ((rd_T107 l0_3 x31_1).f1.f1)) ∧ w'.cell? ⟨gb109, 2, none⟩ = some (.int .u64 ((rd_T107 l0_3 x31_1).f1.f2)) ∧ w'.cell? ⟨gb109, 3, none⟩ = some (.string ((rd_T107 l0_3 x31_1).f1.f3)) ∧ w'.cell? ⟨gb109, 4, none⟩ = some (.string ((rd_T107 l0_3 x31_1).f1.f4))) (ds := []) #[false, false, false, false, false, false, false, false, false, false, false, false, false, false, false, false, false, false, false, false, false, false] (by kernel_rfl) rfl rfl ⟨(blk_cell BK108.out 0).trans rfl, (blk_cell BK108.out 1).trans rfl, (blk_cell BK108.out 2).trans rfl, (blk_cell BK108.out 3).trans rfl, (blk_cell BK108.out 4).trans rfl, (blk_cell BK108.out 5).trans rfl, (blk_cell BK109.out 0).trans rfl, (blk_cell BK109.out 1).trans rfl, (blk_cell BK109.out 2).trans rfl, (blk_cell BK109.out 3).trans rfl, (blk_cell BK109.out 4).trans rfl⟩ (fun hHeld => ?_); refine with_tabW edit_Edit_Bytes.tab9 edit_Edit_Bytes.bits9 (fun HT_ HW_ => ?_)
                    generalize w30.drew = w31 at BK101 BK108 BK109 HB hHeld ⊢
                    refine pure_ (i := 0) (N := some 37) (v := ?_) (a' := ?_) #[true, false, false, false, false, false, false, false, false, false, false, false, false, false, false, false, false, false, false, false, false, false] rfl rfl (any_of HT_.out (by kernel_rfl)) (fun _ _ _ h => h) (Or.inl ⟨by rfl, ?_⟩) ?_ ?_
                    rotate_left
                    · intro w'
                      go_simp
                      with_reducible rfl
                    rotate_left
                    · simp only [Act.put, List.setIfInBounds_toArray, List.set_cons_zero, List.set_cons_succ, i64_w, i32_w]
                      rfl
                    refine pure_ (i := 1) (N := some 38) (v := ?_) (a' := ?_) #[true, true, false, false, false, false, false, false, false, false, false, false, false, false, false, false, false, false, false, false, false, false] rfl rfl (any_of HT_.out (by kernel_rfl)) (fun _ _ _ h => h) (Or.inl ⟨by rfl, ?_⟩) ?_ ?_
                    rotate_left
                    · intro w'
                      go_simp
                      with_reducible rfl
                    rotate_left
                    · simp only [Act.put, List.setIfInBounds_toArray, List.set_cons_zero, List.set_cons_succ, i64_w, i32_w]
                      rfl
                    refine pure_ (i := 4) (N := some 41) (v := ?_) (a' := ?_) #[true, true, false, false, true, false, false, false, false, false, false, false, false, false, false, false, false, false, false, false, false, false] rfl rfl (any_of HT_.out (by kernel_rfl)) (fun _ _ _ h => h) (Or.inl ⟨by rfl, ?_⟩) ?_ ?_
                    rotate_left
                    · intro w'
                      go_simp
                      with_reducible rfl
                    rotate_left
                    · simp only [Act.put, List.setIfInBounds_toArray, List.set_cons_zero, List.set_cons_succ, i64_w, i32_w]
                      rfl
                    refine pure_ (i := 6) (N := some 43) (v := ?_) (a' := ?_) #[true, true, false, false, true, false, true, false, false, false, false, false, false, false, false, false, false, false, false, false, false, false] rfl rfl (any_of HT_.out (by kernel_rfl)) (fun _ _ _ h => h) (Or.inl ⟨by rfl, ?_⟩) ?_ ?_
                    rotate_left
                    · intro w'
                      go_simp
                      with_reducible rfl
                    rotate_left
                    · simp only [Act.put, List.setIfInBounds_toArray, List.set_cons_zero, List.set_cons_succ, i64_w, i32_w]
                      rfl
                    refine pure_ (i := 8) (N := some 45) (v := ?_) (a' := ?_) #[true, true, false, false, true, false, true, false, true, false, false, false, false, false, false, false, false, false, false, false, false, false] rfl rfl (any_of HT_.out (by kernel_rfl)) (fun _ _ _ h => h) (Or.inl ⟨by rfl, ?_⟩) ?_ ?_
                    rotate_left
                    · intro w'
                      go_simp
                      with_reducible rfl
                    rotate_left
                    · simp only [Act.put, List.setIfInBounds_toArray, List.set_cons_zero, List.set_cons_succ, i64_w, i32_w]
                      rfl
                    refine pure_ (i := 12) (N := some 49) (v := ?_) (a' := ?_) #[true, true, false, false, true, false, true, false, true, false, false, false, true, false, false, false, false, false, false, false, false, false] rfl rfl (any_of HT_.out (by kernel_rfl)) (fun _ _ _ h => h) (Or.inl ⟨by rfl, ?_⟩) ?_ ?_
                    rotate_left
                    · intro w'
                      go_simp
                      with_reducible rfl
                    rotate_left
                    · simp only [Act.put, List.setIfInBounds_toArray, List.set_cons_zero, List.set_cons_succ, i64_w, i32_w]
                      rfl
                    refine pure_ (i := 16) (N := some 53) (v := ?_) (a' := ?_) #[true, true, false, false, true, false, true, false, true, false, false, false, true, false, false, false, true, false, false, false, false, false] rfl rfl (any_of HT_.out (by kernel_rfl)) (fun _ _ _ h => h) (Or.inl ⟨by rfl, ?_⟩) ?_ ?_
                    rotate_left
                    · intro w'
                      go_simp
                      with_reducible rfl
                    rotate_left
                    · simp only [Act.put, List.setIfInBounds_toArray, List.set_cons_zero, List.set_cons_succ, i64_w, i32_w]
                      rfl
                    refine take_ (i := 2) (N := some 39) (v := ?_) (a' := ?_) #[true, true, true, false, true, false, true, false, true, false, false, false, true, false, false, false, true, false, false, false, false, false] rfl rfl (take_ofW HT_.out HW_.out (by kernel_rfl)) (fun _ _ _ h => h) (Or.inl ⟨by rfl, ?_⟩) hHeld ?_ ?_
                    rotate_left
                    · rintro w' ⟨s0, s1, s2, s3, s4, s5, s6, s7, s8, s9, s10⟩
                      go_simp
                      with_reducible rfl
                    rotate_left
                    · simp only [Act.put, List.setIfInBounds_toArray, List.set_cons_zero, List.set_cons_succ, i64_w, i32_w]
                      rfl
                    refine pure_ (i := 3) (N := some 40) (v := ?_) (a' := ?_) #[true, true, true, true, true, false, true, false, true, false, false, false, true, false, false, false, true, false, false, false, false, false] rfl rfl (any_of HT_.out (by kernel_rfl)) (fun _ _ _ h => h) (Or.inl ⟨by rfl, ?_⟩) ?_ ?_
                    rotate_left
                    · intro w'
                      go_simp
                      with_reducible rfl
                    rotate_left
                    · simp only [Act.put, List.setIfInBounds_toArray, List.set_cons_zero, List.set_cons_succ, i64_w, i32_w]
                      rfl
                    refine take_ (i := 5) (N := some 42) (v := ?_) (a' := ?_) #[true, true, true, true, true, true, true, false, true, false, false, false, true, false, false, false, true, false, false, false, false, false] rfl rfl (take_ofW HT_.out HW_.out (by kernel_rfl)) (fun _ _ _ h => h) (Or.inl ⟨by rfl, ?_⟩) hHeld ?_ ?_
                    rotate_left
                    · rintro w' ⟨s0, s1, s2, s3, s4, s5, s6, s7, s8, s9, s10⟩
                      go_simp
                      with_reducible rfl
                    rotate_left
                    · simp only [Act.put, List.setIfInBounds_toArray, List.set_cons_zero, List.set_cons_succ, i64_w, i32_w]
                      rfl
                    refine take_ (i := 7) (N := some 44) (v := ?_) (a' := ?_) #[true, true, true, true, true, true, true, true, true, false, false, false, true, false, false, false, true, false, false, false, false, false] rfl rfl (take_ofW HT_.out HW_.out (by kernel_rfl)) (fun _ _ _ h => h) (Or.inl ⟨by rfl, ?_⟩) hHeld ?_ ?_
                    rotate_left
                    · rintro w' ⟨s0, s1, s2, s3, s4, s5, s6, s7, s8, s9, s10⟩
                      go_simp
                      with_reducible rfl
                    rotate_left
                    · simp only [Act.put, List.setIfInBounds_toArray, List.set_cons_zero, List.set_cons_succ, i64_w, i32_w]
                      rfl
                    refine take_ (i := 9) (N := some 46) (v := ?_) (a' := ?_) #[true, true, true, true, true, true, true, true, true, true, false, false, true, false, false, false, true, false, false, false, false, false] rfl rfl (take_ofW HT_.out HW_.out (by kernel_rfl)) (fun _ _ _ h => h) (Or.inl ⟨by rfl, ?_⟩) hHeld ?_ ?_
                    rotate_left
                    · rintro w' ⟨s0, s1, s2, s3, s4, s5, s6, s7, s8, s9, s10⟩
                      go_simp
                      with_reducible rfl
                    rotate_left
                    · simp only [Act.put, List.setIfInBounds_toArray, List.set_cons_zero, List.set_cons_succ, i64_w, i32_w]
                      rfl
                    refine take_ (i := 13) (N := some 50) (v := ?_) (a' := ?_) #[true, true, true, true, true, true, true, true, true, true, false, false, true, true, false, false, true, false, false, false, false, false] rfl rfl (take_ofW HT_.out HW_.out (by kernel_rfl)) (fun _ _ _ h => h) (Or.inl ⟨by rfl, ?_⟩) hHeld ?_ ?_
                    rotate_left
                    · rintro w' ⟨s0, s1, s2, s3, s4, s5, s6, s7, s8, s9, s10⟩
                      go_simp
                      with_reducible rfl
                    rotate_left
                    · simp only [Act.put, List.setIfInBounds_toArray, List.set_cons_zero, List.set_cons_succ, i64_w, i32_w]
                      rfl
                    refine take_ (i := 17) (N := some 54) (v := ?_) (a' := ?_) #[true, true, true, true, true, true, true, true, true, true, false, false, true, true, false, false, true, true, false, false, false, false] rfl rfl (take_ofW HT_.out HW_.out (by kernel_rfl)) (fun _ _ _ h => h) (Or.inl ⟨by rfl, ?_⟩) hHeld ?_ ?_
                    rotate_left
                    · rintro w' ⟨s0, s1, s2, s3, s4, s5, s6, s7, s8, s9, s10⟩
                      go_simp
                      with_reducible rfl
                    rotate_left
                    · simp only [Act.put, List.setIfInBounds_toArray, List.set_cons_zero, List.set_cons_succ, i64_w, i32_w]
                      rfl
                    refine one_ (i := 10) (N := some 47) #[true, true, true, true, true, true, true, true, true, true, true, false, true, true, false, false, true, true, false, false, false, false] rfl rfl (one_of HT_.out (by kernel_rfl)) (by decide) (fun K hK => ?_)
                    refine Kd.R_lit_step (Kd.int .u64) _ 22 ?hg (N := 47) ?hd (xs := ([IntKind.u64.wrap ((rd_T107 l0_3 x31_1).f0), (rd_T107 l0_3 x31_1).f1.f0, (rd_T107 l0_3 x31_1).f1.f1, (rd_T107 l0_3 x31_1).f1.f2] : List Int)) (inner := [.int .u64 (IntKind.u64.wrap ((rd_T107 l0_3 x31_1).f0)), .int .u64 ((rd_T107 l0_3 x31_1).f1.f0), .int .u64 ((rd_T107 l0_3 x31_1).f1.f1), .int .u64 ((rd_T107 l0_3 x31_1).f1.f2)]) (ok := fun _ => True) (okp := fun _ => True) ?hr ?hp (fun _ hk => hk) trivial (Below.refl _ _) (Nat.le_refl _) (by simp) ?_; (case hd => rfl); (case hg => rfl); (case hr => first | (go_simp; done) | (go_simp; rfl)); (case hp => exact (Reps.one (show Kd.M (Kd.int .u64) _ _ _ (IntKind.u64.wrap ((rd_T107 l0_3 x31_1).f0)) [.int .u64 (IntKind.u64.wrap ((rd_T107 l0_3 x31_1).f0))] from rfl) (Reps.one (show Kd.M (Kd.int .u64) _ _ _ ((rd_T107 l0_3 x31_1).f1.f0) [.int .u64 ((rd_T107 l0_3 x31_1).f1.f0)] from rfl) (Reps.one (show Kd.M (Kd.int .u64) _ _ _ ((rd_T107 l0_3 x31_1).f1.f1) [.int .u64 ((rd_T107 l0_3 x31_1).f1.f1)] from rfl) (Reps.one (show Kd.M (Kd.int .u64) _ _ _ ((rd_T107 l0_3 x31_1).f1.f2) [.int .u64 ((rd_T107 l0_3 x31_1).f1.f2)] from rfl) (Reps.none _ _))))))
                    intro v111 w32 ho33 hb hg_ hnew_
                    clear hg_ hnew_
                    (first | rw [← Ny110.out] at ho33 | (simp only [Int.reduceToNat] at ho33; rw [← Ny110.out] at ho33))
                    have n0_ := Aside0.mk (Kd.R_lower ho33 (below_size (by repeat (first | (with_reducible first | exact HB.out | apply below_alloc | apply pw_below_drewN | apply below_drew1 | refine below_set ?_ GE101.out | refine below_set ?_ GE108.out | refine below_set ?_ GE109.out) | exact HB.out))))
                    have n1_ := Aside0.mk (blk_below (g := gb101) (o := .cells #[.int .u64 a0_0, .int .u64 a0_1, .int .u64 a0_2, .slice (some ad107) l0_3.length c0_3, .slice A0_4 l0_4.length c0_4] 26 (0, 0)) (by (with_reducible repeat (first | refine blk_drewN ?_ _ | refine blk_drew ?_ | refine blk_alloc ?_ _)); exact BK101.out) hb)
                    have n2_ := Aside0.mk (blk_below (g := gb108) (o := .cells #[.int .i64 ((rd_T107 l0_3 x31_1).f0), .int .u64 ((rd_T107 l0_3 x31_1).f1.f0), .int .u64 ((rd_T107 l0_3 x31_1).f1.f1), .int .u64 ((rd_T107 l0_3 x31_1).f1.f2), .string ((rd_T107 l0_3 x31_1).f1.f3), .string ((rd_T107 l0_3 x31_1).f1.f4)] 107 (0, 0)) (by (with_reducible repeat (first | refine blk_drewN ?_ _ | refine blk_drew ?_ | refine blk_alloc ?_ _)); exact BK108.out) hb)
                    have n3_ := Aside0.mk (blk_below (g := gb109) (o := .cells #[.int .u64 ((rd_T107 l0_3 x31_1).f1.f0), .int .u64 ((rd_T107 l0_3 x31_1).f1.f1), .int .u64 ((rd_T107 l0_3 x31_1).f1.f2), .string ((rd_T107 l0_3 x31_1).f1.f3), .string ((rd_T107 l0_3 x31_1).f1.f4)] 97 (0, 0)) (by (with_reducible repeat (first | refine blk_drewN ?_ _ | refine blk_drew ?_ | refine blk_alloc ?_ _)); exact BK109.out) hb)
                    have n4_ := Aside0.mk (below_step (by repeat (first | (with_reducible first | exact HB.out | apply below_alloc | apply pw_below_drewN | apply below_drew1 | refine below_set ?_ GE101.out | refine below_set ?_ GE108.out | refine below_set ?_ GE109.out) | exact HB.out)) hb)
                    clear BK101
                    clear BK108
                    clear BK109
                    clear HB
                    have HO112 := n0_
                    have BK101 := n1_
                    have BK108 := n2_
                    have BK109 := n3_
                    have HB := n4_
                    clear n0_ n1_ n2_ n3_ n4_
                    clear hb ho33
                    obtain ⟨Ao34, co34, eo34⟩ := Kd.R_slice HO112.out
                    (first | subst eo34 | (injection eo34 with f1_ f2_ f3_; have f4_ := f1_.symm; have f5_ := f3_.symm; clear f1_ f2_ f3_; subst f4_; subst f5_))
                    refine hK.out _ _ ⟨(blk_cell BK108.out 0).trans rfl, (blk_cell BK108.out 1).trans rfl, (blk_cell BK108.out 2).trans rfl, (blk_cell BK108.out 3).trans rfl, (blk_cell BK108.out 4).trans rfl, (blk_cell BK108.out 5).trans rfl, (blk_cell BK109.out 0).trans rfl, (blk_cell BK109.out 1).trans rfl, (blk_cell BK109.out 2).trans rfl, (blk_cell BK109.out 3).trans rfl, (blk_cell BK109.out 4).trans rfl⟩ (fun hHeld => ?_)
                    clear hK K
                    refine norm_ (a' := ?_) ?_ ?_
                    rotate_left
                    · show Act.put _ (some 47) _ = _
                      simp only [Act.put, List.setIfInBounds_toArray, List.set_cons_zero, List.set_cons_succ, i64_w, i32_w]
                      rfl
                    refine one_ (i := 11) (N := some 48) #[true, true, true, true, true, true, true, true, true, true, true, true, true, true, false, false, true, true, false, false, false, false] rfl rfl (one_of HT_.out (by kernel_rfl)) (by decide) (fun K hK => ?_)
                    refine goes_ Tryd.func51 (by kernel_rfl) rfl #[.slice Ao34 y110.length co34] (by rfl) rfl rfl (by (try simp only [List.map_toArray, List.map_cons, List.map_nil]); first | done | rfl | (simp only [List.length_drop, List.length_take]; rfl)) ?_
                    with_reducible refine (edit_nums.calls k1 _ _ y110 t113 _ ?side1 ?side2 A17.out).mono ?_
                    (case side1 => repeat (first | exact (Kd.R_reads' HO112.out).2.2 | (with_reducible refine Kd.C_alloc ?_ _) | (with_reducible refine Kd.C_drewN ?_ _) | (with_reducible refine Kd.C_drew ?_)))
                    (case side2 => exact (Kd.R_reads' HO112.out).2.1)
                    rintro e w35 ⟨rfl, hb⟩
                    refine ⟨_, rfl, ?_⟩
                    have n0_ := Aside0.mk (Kd.R_below (by (with_reducible repeat (first | apply Kd.R_alloc | apply Kd.R_drewN | apply Kd.R_drew)); exact HO112.out) hb)
                    have n1_ := Aside0.mk (blk_below (g := gb101) (o := .cells #[.int .u64 a0_0, .int .u64 a0_1, .int .u64 a0_2, .slice (some ad107) l0_3.length c0_3, .slice A0_4 l0_4.length c0_4] 26 (0, 0)) (by (with_reducible repeat (first | refine blk_drewN ?_ _ | refine blk_drew ?_ | refine blk_alloc ?_ _)); exact BK101.out) hb)
                    have n2_ := Aside0.mk (blk_below (g := gb108) (o := .cells #[.int .i64 ((rd_T107 l0_3 x31_1).f0), .int .u64 ((rd_T107 l0_3 x31_1).f1.f0), .int .u64 ((rd_T107 l0_3 x31_1).f1.f1), .int .u64 ((rd_T107 l0_3 x31_1).f1.f2), .string ((rd_T107 l0_3 x31_1).f1.f3), .string ((rd_T107 l0_3 x31_1).f1.f4)] 107 (0, 0)) (by (with_reducible repeat (first | refine blk_drewN ?_ _ | refine blk_drew ?_ | refine blk_alloc ?_ _)); exact BK108.out) hb)
                    have n3_ := Aside0.mk (blk_below (g := gb109) (o := .cells #[.int .u64 ((rd_T107 l0_3 x31_1).f1.f0), .int .u64 ((rd_T107 l0_3 x31_1).f1.f1), .int .u64 ((rd_T107 l0_3 x31_1).f1.f2), .string ((rd_T107 l0_3 x31_1).f1.f3), .string ((rd_T107 l0_3 x31_1).f1.f4)] 97 (0, 0)) (by (with_reducible repeat (first | refine blk_drewN ?_ _ | refine blk_drew ?_ | refine blk_alloc ?_ _)); exact BK109.out) hb)
                    have n4_ := Aside0.mk (below_step (by repeat (first | (with_reducible first | exact HB.out | apply below_alloc | apply pw_below_drewN | apply below_drew1 | refine below_set ?_ GE101.out | refine below_set ?_ GE108.out | refine below_set ?_ GE109.out) | exact HB.out)) hb)
                    clear HO112
                    clear BK101
                    clear BK108
                    clear BK109
                    clear HB
                    have HO112 := n0_
                    have BK101 := n1_
                    have BK108 := n2_
                    have BK109 := n3_
                    have HB := n4_
                    clear n0_ n1_ n2_ n3_ n4_
                    (try clear hb)
                    (try clear hb2)
                    (try clear hk)
                    (try clear hi)
                    refine hK.out _ _ ⟨(blk_cell BK108.out 0).trans rfl, (blk_cell BK108.out 1).trans rfl, (blk_cell BK108.out 2).trans rfl, (blk_cell BK108.out 3).trans rfl, (blk_cell BK108.out 4).trans rfl, (blk_cell BK108.out 5).trans rfl, (blk_cell BK109.out 0).trans rfl, (blk_cell BK109.out 1).trans rfl, (blk_cell BK109.out 2).trans rfl, (blk_cell BK109.out 3).trans rfl, (blk_cell BK109.out 4).trans rfl⟩ (fun hHeld => ?_)
                    clear hK K
                    refine norm_ (a' := ?_) ?_ ?_
                    rotate_left
                    · show Act.put _ (some 48) _ = _
                      simp only [Act.put, List.setIfInBounds_toArray, List.set_cons_zero, List.set_cons_succ, i64_w, i32_w]
                      rfl
                    refine one_ (i := 14) (N := some 51) #[true, true, true, true, true, true, true, true, true, true, true, true, true, true, true, false, true, true, false, false, false, false] rfl rfl (one_of HT_.out (by kernel_rfl)) (by decide) (fun K hK => ?_)
                    refine goes_ Tryd.func52 (by kernel_rfl) rfl #[.string ((rd_T107 l0_3 x31_1).f1.f3)] (by rfl) rfl rfl (by (try simp only [List.map_toArray, List.map_cons, List.map_nil]); first | done | rfl | (simp only [List.length_drop, List.length_take]; rfl)) ?_
                    with_reducible refine (varint_Text.calls k1 ((rd_T107 l0_3 x31_1).f1.f3) t114 _ A18.out).mono ?_
                    rintro e w36 ⟨rfl, hb⟩
                    refine ⟨_, rfl, ?_⟩
                    have n0_ := Aside0.mk (Kd.R_below (by (with_reducible repeat (first | apply Kd.R_alloc | apply Kd.R_drewN | apply Kd.R_drew)); exact HO112.out) hb)
                    have n1_ := Aside0.mk (blk_below (g := gb101) (o := .cells #[.int .u64 a0_0, .int .u64 a0_1, .int .u64 a0_2, .slice (some ad107) l0_3.length c0_3, .slice A0_4 l0_4.length c0_4] 26 (0, 0)) (by (with_reducible repeat (first | refine blk_drewN ?_ _ | refine blk_drew ?_ | refine blk_alloc ?_ _)); exact BK101.out) hb)
                    have n2_ := Aside0.mk (blk_below (g := gb108) (o := .cells #[.int .i64 ((rd_T107 l0_3 x31_1).f0), .int .u64 ((rd_T107 l0_3 x31_1).f1.f0), .int .u64 ((rd_T107 l0_3 x31_1).f1.f1), .int .u64 ((rd_T107 l0_3 x31_1).f1.f2), .string ((rd_T107 l0_3 x31_1).f1.f3), .string ((rd_T107 l0_3 x31_1).f1.f4)] 107 (0, 0)) (by (with_reducible repeat (first | refine blk_drewN ?_ _ | refine blk_drew ?_ | refine blk_alloc ?_ _)); exact BK108.out) hb)
                    have n3_ := Aside0.mk (blk_below (g := gb109) (o := .cells #[.int .u64 ((rd_T107 l0_3 x31_1).f1.f0), .int .u64 ((rd_T107 l0_3 x31_1).f1.f1), .int .u64 ((rd_T107 l0_3 x31_1).f1.f2), .string ((rd_T107 l0_3 x31_1).f1.f3), .string ((rd_T107 l0_3 x31_1).f1.f4)] 97 (0, 0)) (by (with_reducible repeat (first | refine blk_drewN ?_ _ | refine blk_drew ?_ | refine blk_alloc ?_ _)); exact BK109.out) hb)
                    have n4_ := Aside0.mk (below_step (by repeat (first | (with_reducible first | exact HB.out | apply below_alloc | apply pw_below_drewN | apply below_drew1 | refine below_set ?_ GE101.out | refine below_set ?_ GE108.out | refine below_set ?_ GE109.out) | exact HB.out)) hb)
                    clear HO112
                    clear BK101
                    clear BK108
                    clear BK109
                    clear HB
                    have HO112 := n0_
                    have BK101 := n1_
                    have BK108 := n2_
                    have BK109 := n3_
                    have HB := n4_
                    clear n0_ n1_ n2_ n3_ n4_
                    (try clear hb)
                    (try clear hb2)
                    (try clear hk)
                    (try clear hi)
                    refine hK.out _ _ ⟨(blk_cell BK108.out 0).trans rfl, (blk_cell BK108.out 1).trans rfl, (blk_cell BK108.out 2).trans rfl, (blk_cell BK108.out 3).trans rfl, (blk_cell BK108.out 4).trans rfl, (blk_cell BK108.out 5).trans rfl, (blk_cell BK109.out 0).trans rfl, (blk_cell BK109.out 1).trans rfl, (blk_cell BK109.out 2).trans rfl, (blk_cell BK109.out 3).trans rfl, (blk_cell BK109.out 4).trans rfl⟩ (fun hHeld => ?_)
                    clear hK K
                    refine norm_ (a' := ?_) ?_ ?_
                    rotate_left
                    · show Act.put _ (some 51) _ = _
                      simp only [Act.put, List.setIfInBounds_toArray, List.set_cons_zero, List.set_cons_succ, i64_w, i32_w]
                      rfl
                    refine pure_ (i := 15) (N := some 52) (v := ?_) (a' := ?_) #[true, true, true, true, true, true, true, true, true, true, true, true, true, true, true, true, true, true, false, false, false, false] rfl rfl (any_of HT_.out (by kernel_rfl)) (fun _ _ _ h => h) (Or.inl ⟨by rfl, ?_⟩) ?_ ?_
                    rotate_left
                    · intro w'
                      go_simp
                      with_reducible rfl
                    rotate_left
                    · simp only [Act.put, List.setIfInBounds_toArray, List.set_cons_zero, List.set_cons_succ, i64_w, i32_w]
                      rfl
                    refine one_ (i := 18) (N := some 55) #[true, true, true, true, true, true, true, true, true, true, true, true, true, true, true, true, true, true, true, false, false, false] rfl rfl (one_of HT_.out (by kernel_rfl)) (by decide) (fun K hK => ?_)
                    refine goes_ Tryd.func52 (by kernel_rfl) rfl #[.string ((rd_T107 l0_3 x31_1).f1.f4)] (by rfl) rfl rfl (by (try simp only [List.map_toArray, List.map_cons, List.map_nil]); first | done | rfl | (simp only [List.length_drop, List.length_take]; rfl)) ?_
                    with_reducible refine (varint_Text.calls k1 ((rd_T107 l0_3 x31_1).f1.f4) t115 _ A20.out).mono ?_
                    rintro e w37 ⟨rfl, hb⟩
                    refine ⟨_, rfl, ?_⟩
                    have n0_ := Aside0.mk (Kd.R_below (by (with_reducible repeat (first | apply Kd.R_alloc | apply Kd.R_drewN | apply Kd.R_drew)); exact HO112.out) hb)
                    have n1_ := Aside0.mk (blk_below (g := gb101) (o := .cells #[.int .u64 a0_0, .int .u64 a0_1, .int .u64 a0_2, .slice (some ad107) l0_3.length c0_3, .slice A0_4 l0_4.length c0_4] 26 (0, 0)) (by (with_reducible repeat (first | refine blk_drewN ?_ _ | refine blk_drew ?_ | refine blk_alloc ?_ _)); exact BK101.out) hb)
                    have n2_ := Aside0.mk (blk_below (g := gb108) (o := .cells #[.int .i64 ((rd_T107 l0_3 x31_1).f0), .int .u64 ((rd_T107 l0_3 x31_1).f1.f0), .int .u64 ((rd_T107 l0_3 x31_1).f1.f1), .int .u64 ((rd_T107 l0_3 x31_1).f1.f2), .string ((rd_T107 l0_3 x31_1).f1.f3), .string ((rd_T107 l0_3 x31_1).f1.f4)] 107 (0, 0)) (by (with_reducible repeat (first | refine blk_drewN ?_ _ | refine blk_drew ?_ | refine blk_alloc ?_ _)); exact BK108.out) hb)
                    have n3_ := Aside0.mk (blk_below (g := gb109) (o := .cells #[.int .u64 ((rd_T107 l0_3 x31_1).f1.f0), .int .u64 ((rd_T107 l0_3 x31_1).f1.f1), .int .u64 ((rd_T107 l0_3 x31_1).f1.f2), .string ((rd_T107 l0_3 x31_1).f1.f3), .string ((rd_T107 l0_3 x31_1).f1.f4)] 97 (0, 0)) (by (with_reducible repeat (first | refine blk_drewN ?_ _ | refine blk_drew ?_ | refine blk_alloc ?_ _)); exact BK109.out) hb)
                    have n4_ := Aside0.mk (below_step (by repeat (first | (with_reducible first | exact HB.out | apply below_alloc | apply pw_below_drewN | apply below_drew1 | refine below_set ?_ GE101.out | refine below_set ?_ GE108.out | refine below_set ?_ GE109.out) | exact HB.out)) hb)
                    clear HO112
                    clear BK101
                    clear BK108
                    clear BK109
                    clear HB
                    have HO112 := n0_
                    have BK101 := n1_
                    have BK108 := n2_
                    have BK109 := n3_
                    have HB := n4_
                    clear n0_ n1_ n2_ n3_ n4_
                    (try clear hb)
                    (try clear hb2)
                    (try clear hk)
                    (try clear hi)
                    refine hK.out _ _ ⟨(blk_cell BK108.out 0).trans rfl, (blk_cell BK108.out 1).trans rfl, (blk_cell BK108.out 2).trans rfl, (blk_cell BK108.out 3).trans rfl, (blk_cell BK108.out 4).trans rfl, (blk_cell BK108.out 5).trans rfl, (blk_cell BK109.out 0).trans rfl, (blk_cell BK109.out 1).trans rfl, (blk_cell BK109.out 2).trans rfl, (blk_cell BK109.out 3).trans rfl, (blk_cell BK109.out 4).trans rfl⟩ (fun hHeld => ?_)
                    clear hK K
                    refine norm_ (a' := ?_) ?_ ?_
                    rotate_left
                    · show Act.put _ (some 55) _ = _
                      simp only [Act.put, List.setIfInBounds_toArray, List.set_cons_zero, List.set_cons_succ, i64_w, i32_w]
                      rfl
                    refine pure_ (i := 19) (N := some 56) (v := ?_) (a' := ?_) #[true, true, true, true, true, true, true, true, true, true, true, true, true, true, true, true, true, true, true, true, false, false] rfl rfl (any_of HT_.out (by kernel_rfl)) (fun _ _ _ h => h) (Or.inl ⟨by rfl, ?_⟩) ?_ ?_
                    rotate_left
                    · intro w'
                      go_simp
                      with_reducible rfl
                    rotate_left
                    · simp only [Act.put, List.setIfInBounds_toArray, List.set_cons_zero, List.set_cons_succ, i64_w, i32_w]
                      rfl
                    refine pure_ (i := 20) (N := some 57) (v := ?_) (a' := ?_) #[true, true, true, true, true, true, true, true, true, true, true, true, true, true, true, true, true, true, true, true, true, false] rfl rfl (any_of HT_.out (by kernel_rfl)) (fun _ _ _ h => h) (Or.inl ⟨by rfl, ?_⟩) ?_ ?_
                    rotate_left
                    · intro w'
                      go_simp
                      with_reducible rfl
                    rotate_left
                    · simp only [Act.put, List.setIfInBounds_toArray, List.set_cons_zero, List.set_cons_succ, i64_w, i32_w]
                      rfl
                    refine pure_ (i := 21) (N := some 5) (v := ?_) (a' := ?_) #[true, true, true, true, true, true, true, true, true, true, true, true, true, true, true, true, true, true, true, true, true, true] rfl rfl (any_of HT_.out (by kernel_rfl)) (fun _ _ _ h => h) (Or.inl ⟨by rfl, ?_⟩) ?_ ?_
                    rotate_left
                    · intro w'
                      go_simp
                      with_reducible rfl
                    rotate_left
                    · simp only [Act.put, List.setIfInBounds_toArray, List.set_cons_zero, List.set_cons_succ, i64_w, i32_w]
                      rfl
                    refine done_ (done_of HT_.out (by kernel_rfl)) ?_
                    try go_wp2
                    go_roundg k1
                    case measure => have := HK1.out; omega
                    case rel => exact ⟨(x5_1 ++ ((t113 ++ t114) ++ t115)), (wrap64 (x31_1 + 1)), (by first | rfl | (simp; done) | (simp [*]; done)), (by first | rfl | (simp; done) | (simp [*]; done)), H', ⟨by have := HK1.out; omega⟩, ⟨by (with_reducible repeat (first | refine blk_drewN ?_ _ | refine blk_drew ?_ | refine blk_alloc ?_ _)); exact BK101.out⟩, ⟨by repeat (first | (with_reducible first | exact HB.out | apply below_alloc | apply pw_below_drewN | apply below_drew1 | refine below_set ?_ GE101.out | refine below_set ?_ GE108.out | refine below_set ?_ GE109.out) | exact HB.out)⟩⟩
                  · rw [if_neg c22] at H
                    exact absurd H (by simp)
                · rw [if_neg c21] at H
                  exact absurd H (by simp)
              · rw [if_neg c19] at H
                exact absurd H (by simp)
            · rw [if_neg c16] at H
              exact absurd H (by simp)
          · rw [if_neg c15] at H
            exact absurd H (by simp)
        · rw [if_neg c14] at H
          have c14b0 : decide (x31_1 < (l0_3.length : Int)) = false := decide_eq_false c14
          clear c14
          obtain ⟨y116, hy116⟩ : ∃ y_ : List Int, y_ = (([IntKind.u64.wrap ((l0_4.length : Int))] : List Int)) := ⟨_, rfl⟩
          replace H : ((edit_nums.f k1 y116).bind fun t119 => (if x5_1.size + t119.size ≤ 9223372036854775807 then (edit_Edit_Bytes.l1 k1 (x5_1 ++ t119) l0_4 (l0_4.length : Int) 0) else (none))) = some (r1, r2) := by first | (rw [hy116]; with_reducible exact H) | (have H2_ := (Option.bind_some _ _).symm.trans H; rw [hy116]; with_reducible exact H2_) | (have H2_ := (Option.bind_some _ _).symm.trans H; with_reducible exact H2_) | with_reducible exact H | (rw [hy116]; exact H) | exact H
          have Ny116 := Aside0.mk hy116
          clear hy116
          replace H := Option.bind_eq_some_iff.mp H
          obtain ⟨t119, A380, H⟩ := H
          replace H : (if x5_1.size + t119.size ≤ 9223372036854775807 then (edit_Edit_Bytes.l1 k1 (x5_1 ++ t119) l0_4 (l0_4.length : Int) 0) else (none)) = some (r1, r2) := H
          have A38 := Aside0.mk A380
          clear A380
          by_cases c39 : x5_1.size + t119.size ≤ 9223372036854775807
          · rw [if_pos c39] at H
            have c39b0 := eq_true c39
            have c39b1 : decide (x5_1.size + t119.size ≤ 9223372036854775807) = true := decide_eq_true c39
            try have c39b2 : (9223372036854775807 < x5_1.size + t119.size) = False := eq_false (Nat.not_lt.2 c39)
            have H' := Aside0.mk H
            clear H
            have hcz40_0 : wr.cell? ⟨gb101, 0, none⟩ = some (.int .u64 a0_0) := (blk_cell BK101.out 0).trans rfl
            have hcz40_1 : wr.cell? ⟨gb101, 1, none⟩ = some (.int .u64 a0_1) := (blk_cell BK101.out 1).trans rfl
            have hcz40_2 : wr.cell? ⟨gb101, 2, none⟩ = some (.int .u64 a0_2) := (blk_cell BK101.out 2).trans rfl
            have hcz40_3 : wr.cell? ⟨gb101, 3, none⟩ = some (.slice A0_3 l0_3.length c0_3) := (blk_cell BK101.out 3).trans rfl
            have hcz40_4 : wr.cell? ⟨gb101, 4, none⟩ = some (.slice A0_4 l0_4.length c0_4) := (blk_cell BK101.out 4).trans rfl
            have hfz40_0 := blk_frozen BK101.out 0
            have hfz40_1 := blk_frozen BK101.out 1
            have hfz40_2 := blk_frozen BK101.out 2
            have hfz40_3 := blk_frozen BK101.out 3
            have hfz40_4 := blk_frozen BK101.out 4
            go_wp2_with (first | ((with_reducible refine gate_dst (N := 64) rfl ?_); refine Kd.R_lit (Kd.int .u64) _ 22 ?hg (N := 64) ?hd (xs := ([IntKind.u64.wrap ((l0_4.length : Int))] : List Int)) (inner := [.int .u64 (IntKind.u64.wrap ((l0_4.length : Int)))]) (ok := fun _ => True) (okp := fun _ => True) ?hr ?hp (fun _ hk => hk) trivial (Below.refl _ _) (Nat.le_refl _) (by simp) ?_; (case hd => rfl); (case hg => rfl); (case hr => first | (go_simp; done) | (go_simp; rfl)); (case hp => exact (Reps.one (show Kd.M (Kd.int .u64) _ _ _ (IntKind.u64.wrap ((l0_4.length : Int))) [.int .u64 (IntKind.u64.wrap ((l0_4.length : Int)))] from rfl) (Reps.none _ _))); intro v117 w41 ho42 hb hg_ hnew_; clear hg_ hnew_; (first | rw [← Ny116.out] at ho42 | (simp only [Int.reduceToNat] at ho42; rw [← Ny116.out] at ho42)); have n0_ := Aside0.mk (Kd.R_lower ho42 (below_size (by repeat (first | (with_reducible first | exact HB.out | apply below_alloc | apply pw_below_drewN | apply below_drew1 | refine below_set ?_ GE101.out) | exact HB.out)))); have n1_ := Aside0.mk (blk_below (g := gb101) (o := .cells #[.int .u64 a0_0, .int .u64 a0_1, .int .u64 a0_2, .slice A0_3 l0_3.length c0_3, .slice A0_4 l0_4.length c0_4] 26 (0, 0)) (by (with_reducible repeat (first | refine blk_drewN ?_ _ | refine blk_drew ?_ | refine blk_alloc ?_ _)); exact BK101.out) hb); have n2_ := Aside0.mk (below_step (by repeat (first | (with_reducible first | exact HB.out | apply below_alloc | apply pw_below_drewN | apply below_drew1 | refine below_set ?_ GE101.out) | exact HB.out)) hb); clear BK101; clear HB; have HO118 := n0_; have BK101 := n1_; have HB := n2_; clear n0_ n1_ n2_; clear hb ho42; obtain ⟨Ao43, co43, eo43⟩ := Kd.R_slice HO118.out; subst eo43) | ((with_reducible refine gate_callee (f := 51) rfl ?_); refine goesL_ (some 65) rfl rfl Tryd.func51 (by kernel_rfl) rfl #[.slice Ao43 y116.length co43] rfl (by (try simp only [List.map_toArray, List.map_cons, List.map_nil]); first | done | rfl | (simp only [List.length_drop, List.length_take]; rfl)) ?_; (with_reducible refine (edit_nums.calls k1 _ _ y116 t119 _ ?side1 ?side2 A38.out).mono ?_); (case side1 => repeat (first | exact (Kd.R_reads' HO118.out).2.2 | (with_reducible refine Kd.C_alloc ?_ _) | (with_reducible refine Kd.C_drewN ?_ _) | (with_reducible refine Kd.C_drew ?_))); (case side2 => exact (Kd.R_reads' HO118.out).2.1); rintro e w44 ⟨rfl, hb⟩; refine ⟨_, rfl, ?_⟩; have n0_ := Aside0.mk (Kd.R_below (by (with_reducible repeat (first | apply Kd.R_alloc | apply Kd.R_drewN | apply Kd.R_drew)); exact HO118.out) hb); have n1_ := Aside0.mk (blk_below (g := gb101) (o := .cells #[.int .u64 a0_0, .int .u64 a0_1, .int .u64 a0_2, .slice A0_3 l0_3.length c0_3, .slice A0_4 l0_4.length c0_4] 26 (0, 0)) (by (with_reducible repeat (first | refine blk_drewN ?_ _ | refine blk_drew ?_ | refine blk_alloc ?_ _)); exact BK101.out) hb); have n2_ := Aside0.mk (below_step (by repeat (first | (with_reducible first | exact HB.out | apply below_alloc | apply pw_below_drewN | apply below_drew1 | refine below_set ?_ GE101.out) | exact HB.out)) hb); clear HO118; clear BK101; clear HB; have HO118 := n0_; have BK101 := n1_; have HB := n2_; clear n0_ n1_ n2_; (try clear hb); (try clear hb2); (try clear hk); (try clear hi); have hcz45_0 : w44.cell? ⟨gb101, 0, none⟩ = some (.int .u64 a0_0) := (blk_cell BK101.out 0).trans rfl; have hcz45_1 : w44.cell? ⟨gb101, 1, none⟩ = some (.int .u64 a0_1) := (blk_cell BK101.out 1).trans rfl; have hcz45_2 : w44.cell? ⟨gb101, 2, none⟩ = some (.int .u64 a0_2) := (blk_cell BK101.out 2).trans rfl; have hcz45_3 : w44.cell? ⟨gb101, 3, none⟩ = some (.slice A0_3 l0_3.length c0_3) := (blk_cell BK101.out 3).trans rfl; have hcz45_4 : w44.cell? ⟨gb101, 4, none⟩ = some (.slice A0_4 l0_4.length c0_4) := (blk_cell BK101.out 4).trans rfl; have hfz45_0 := blk_frozen BK101.out 0; have hfz45_1 := blk_frozen BK101.out 1; have hfz45_2 := blk_frozen BK101.out 2; have hfz45_3 := blk_frozen BK101.out 3; have hfz45_4 := blk_frozen BK101.out 4))
            go_loopg [5, 70] k1 (fun kq v5 v70 w' => ∃ (x5_2 : ByteArray) (x70_2 : Int), v5 = .string x5_2 ∧ v70 = .int .i64 x70_2 ∧ Aside0 (edit_Edit_Bytes.l1 kq x5_2 l0_4 (l0_4.length : Int) x70_2 = some (r1, r2)) ∧ Aside0 (kq ≤ k1) ∧ Aside0 (w'.heap[gb101]? = some (.cells #[.int .u64 a0_0, .int .u64 a0_1, .int .u64 a0_2, (.slice A0_3 l0_3.length c0_3), (.slice A0_4 l0_4.length c0_4)] 26 (0, 0))) ∧ Aside0 (Below w.heap.size w w'))
            case atStart => exact ⟨(x5_1 ++ t119), (0), (by first | rfl | (simp; done) | (simp [*]; done)), (by first | rfl | (simp; done) | (simp [*]; done)), H', ⟨Nat.le_refl _⟩, ⟨by (with_reducible repeat (first | refine blk_drewN ?_ _ | refine blk_drew ?_ | refine blk_alloc ?_ _)); exact BK101.out⟩, ⟨by repeat (first | (with_reducible first | exact HB.out | apply below_alloc | apply pw_below_drewN | apply below_drew1 | refine below_set ?_ GE101.out) | exact HB.out)⟩⟩
            case round =>
              clear H'
              try clear c1
              try clear p1
              try clear q1
              try clear hx1
              try clear c2
              try clear p2
              try clear c3
              try clear c3b0
              try clear c3b1
              try clear c5
              try clear p6
              try clear p10
              try clear q10
              try clear hx10
              try clear c14
              try clear c14b0
              try clear c15
              try clear c15b0
              try clear c16
              try clear c16b0
              try clear c19
              try clear c19b0
              try clear c19b1
              try clear c19b2
              try clear c20
              try clear c21
              try clear c21b0
              try clear c21b1
              try clear c21b2
              try clear c22
              try clear c22b0
              try clear c22b1
              try clear c22b2
              try clear c24
              try clear c27
              try clear c28
              try clear c39
              try clear c39b0
              try clear c39b1
              try clear c39b2
              try clear hcz13_0
              try clear hcz13_1
              try clear hcz13_2
              try clear hcz13_3
              try clear hcz13_4
              try clear hcz25_0
              try clear hcz25_1
              try clear hcz25_2
              try clear hcz25_3
              try clear hcz25_4
              try clear hcz25_5
              try clear hcz29_0
              try clear hcz29_1
              try clear hcz29_2
              try clear hcz29_3
              try clear hcz29_4
              try clear hcz40_0
              try clear hcz40_1
              try clear hcz40_2
              try clear hcz40_3
              try clear hcz40_4
              try clear hcz45_0
              try clear hcz45_1
              try clear hcz45_2
              try clear hcz45_3
              try clear hcz45_4
              try clear hcz6_0
              try clear hcz6_1
              try clear hcz6_2
              try clear hcz6_3
              try clear hcz6_4
              try clear hcz8_0
              try clear hcz8_1
              try clear hcz8_2
              try clear hcz8_3
              try clear hcz8_4
              try clear hfz13_0
              try clear hfz13_1
              try clear hfz13_2
              try clear hfz13_3
              try clear hfz13_4
              try clear hfz25_0
              try clear hfz25_1
              try clear hfz25_2
              try clear hfz25_3
              try clear hfz25_4
              try clear hfz25_5
              try clear hfz29_0
              try clear hfz29_1
              try clear hfz29_2
              try clear hfz29_3
              try clear hfz29_4
              try clear hfz40_0
              try clear hfz40_1
              try clear hfz40_2
              try clear hfz40_3
              try clear hfz40_4
              try clear hfz45_0
              try clear hfz45_1
              try clear hfz45_2
              try clear hfz45_3
              try clear hfz45_4
              try clear hfz6_0
              try clear hfz6_1
              try clear hfz6_2
              try clear hfz6_3
              try clear hfz6_4
              try clear hfz8_0
              try clear hfz8_1
              try clear hfz8_2
              try clear hfz8_3
              try clear hfz8_4
              try clear hx107_0
              try clear hx107_1
              try clear hx107_2
              try clear hx107_3
              try clear hx107_4
              try clear hx107_5
              try clear p107
              try clear p2
              try clear q107
              obtain ⟨x5_2, x70_2, rfl, rfl, HA, HK2, BK101, HB⟩ := hrel
              cases gk with
              | zero => exact absurd HA.out (by simp [edit_Edit_Bytes.l1])
              | succ k2 =>
                have H := HA.out
                clear HA
                simp only [edit_Edit_Bytes.l1] at H
                by_cases c46 : x70_2 < (l0_4.length : Int)
                · rw [if_pos c46] at H
                  have c46b0 : decide (x70_2 < (l0_4.length : Int)) = true := decide_eq_true c46
                  clear c46
                  by_cases c47 : 0 ≤ x70_2
                  · rw [if_pos c47] at H
                    have c47b0 : decide (0 ≤ x70_2) = true := decide_eq_true c47
                    clear c47
                    by_cases c48 : x70_2 < (l0_4.length : Int)
                    · rw [if_pos c48] at H
                      have c48b0 : decide (x70_2 < (l0_4.length : Int)) = true := decide_eq_true c48
                      clear c48
                      obtain ⟨y122, hy122⟩ : ∃ y_ : List Int, y_ = (([IntKind.u64.wrap ((rd_T111 l0_4 x70_2).f0), (rd_T111 l0_4 x70_2).f1] : List Int)) := ⟨_, rfl⟩
                      replace H : ((edit_nums.f k2 y122).bind fun t125 => (if x5_2.size + t125.size ≤ 9223372036854775807 then (edit_Edit_Bytes.l1 k2 (x5_2 ++ t125) l0_4 (l0_4.length : Int) (wrap64 (x70_2 + 1))) else (none))) = some (r1, r2) := by first | (rw [hy122]; with_reducible exact H) | (have H2_ := (Option.bind_some _ _).symm.trans H; rw [hy122]; with_reducible exact H2_) | (have H2_ := (Option.bind_some _ _).symm.trans H; with_reducible exact H2_) | with_reducible exact H | (rw [hy122]; exact H) | exact H
                      have Ny122 := Aside0.mk hy122
                      clear hy122
                      replace H := Option.bind_eq_some_iff.mp H
                      obtain ⟨t125, A490, H⟩ := H
                      replace H : (if x5_2.size + t125.size ≤ 9223372036854775807 then (edit_Edit_Bytes.l1 k2 (x5_2 ++ t125) l0_4 (l0_4.length : Int) (wrap64 (x70_2 + 1))) else (none)) = some (r1, r2) := H
                      have A49 := Aside0.mk A490
                      clear A490
                      by_cases c50 : x5_2.size + t125.size ≤ 9223372036854775807
                      · rw [if_pos c50] at H
                        have c50b0 := eq_true c50
                        have c50b1 : decide (x5_2.size + t125.size ≤ 9223372036854775807) = true := decide_eq_true c50
                        try have c50b2 : (9223372036854775807 < x5_2.size + t125.size) = False := eq_false (Nat.not_lt.2 c50)
                        have H' := Aside0.mk H
                        clear H
                        have p120 : 0 ≤ (x70_2 : Int) := of_decide_eq_true (by first | (with_reducible assumption) | assumption)
                        have q120 : x70_2 < (l0_4.length : Int) := of_decide_eq_true (by first | (with_reducible assumption) | assumption)
                        obtain ⟨ad120, e120, hx120_0, hx120_1⟩ := at_T111 HR0_4.out x70_2 p120 q120
                        cases e120
                        replace hx120_0 := (HB.out.cell (World.block_lt_of_cell? w _ hx120_0)).trans hx120_0
                        replace hx120_1 := (HB.out.cell (World.block_lt_of_cell? w _ hx120_1)).trans hx120_1
                        replace p120 := eq_true p120
                        replace q120 := eq_true q120
                        go_wp2_with (first | ((with_reducible refine gate_dst (N := 10) rfl ?_); refine box_event ?hg (N := 10) ?hd (cs := #[.int .i64 0, .int .u64 0]) (t := 111) ?hr ?_; (case hd => rfl); (case hg => rfl); (case hr => first | (go_simp; done) | (go_simp; rfl)); intro gb121 hg w51 hbox hb; have n0_ := Aside0.mk (blk_below (g := gb101) (o := .cells #[.int .u64 a0_0, .int .u64 a0_1, .int .u64 a0_2, .slice A0_3 l0_3.length c0_3, .slice (some ad120) l0_4.length c0_4] 26 (0, 0)) (by (with_reducible repeat (first | refine blk_drewN ?_ _ | refine blk_drew ?_ | refine blk_alloc ?_ _)); exact BK101.out) hb); have n1_ := Aside0.mk (below_step (by repeat (first | (with_reducible first | exact HB.out | apply below_alloc | apply pw_below_drewN | apply below_drew1 | refine below_set ?_ GE101.out) | exact HB.out)) hb); have n2_ := Aside0.mk (hbox); have n3_ := Aside0.mk ((by rw [hg]; exact (below_size (by repeat (first | (with_reducible first | exact HB.out | apply below_alloc | apply pw_below_drewN | apply below_drew1 | refine below_set ?_ GE101.out) | exact HB.out))) : w.heap.size ≤ gb121)); have n4_ := Aside0.mk ((by rw [hg]; exact (below_size (by repeat (first | (with_reducible first | exact HB.out | apply below_alloc | apply pw_below_drewN | apply below_drew1 | refine below_set ?_ GE101.out) | exact HB.out))) : w.heap.size ≤ gb121)); have n5_ := Aside0.mk ((by rw [hg]; exact Nat.ne_of_lt (blk_lt (g := gb101) (o := .cells #[.int .u64 a0_0, .int .u64 a0_1, .int .u64 a0_2, .slice A0_3 l0_3.length c0_3, .slice (some ad120) l0_4.length c0_4] 26 (0, 0)) (by (with_reducible repeat (first | refine blk_drewN ?_ _ | refine blk_drew ?_ | refine blk_alloc ?_ _)); exact BK101.out)) : gb101 ≠ gb121)); have n6_ := Aside0.mk ((by rw [hg]; exact Nat.ne_of_gt (blk_lt (g := gb101) (o := .cells #[.int .u64 a0_0, .int .u64 a0_1, .int .u64 a0_2, .slice A0_3 l0_3.length c0_3, .slice (some ad120) l0_4.length c0_4] 26 (0, 0)) (by (with_reducible repeat (first | refine blk_drewN ?_ _ | refine blk_drew ?_ | refine blk_alloc ?_ _)); exact BK101.out)) : gb121 ≠ gb101)); clear BK101; clear HB; have BK101 := n0_; have HB := n1_; have BK121 := n2_; have GW121 := n3_; have GE121 := n4_; have NB101_121 := n5_; have NB121_101 := n6_; clear n0_ n1_ n2_ n3_ n4_ n5_ n6_; clear hb hbox hg; have hnb52 := NB121_101.out; have hnc52 := NB101_121.out; have hcz53_0 : w51.cell? ⟨gb121, 0, none⟩ = some (.int .i64 0) := (blk_cell BK121.out 0).trans rfl; have hcz53_1 : w51.cell? ⟨gb121, 1, none⟩ = some (.int .u64 0) := (blk_cell BK121.out 1).trans rfl; have hfz53_0 := blk_frozen BK121.out 0; have hfz53_1 := blk_frozen BK121.out 1) | ((with_reducible refine gate_dst (N := 80) rfl ?_); refine Kd.R_lit (Kd.int .u64) _ 22 ?hg (N := 80) ?hd (xs := ([IntKind.u64.wrap ((rd_T111 l0_4 x70_2).f0), (rd_T111 l0_4 x70_2).f1] : List Int)) (inner := [.int .u64 (IntKind.u64.wrap ((rd_T111 l0_4 x70_2).f0)), .int .u64 ((rd_T111 l0_4 x70_2).f1)]) (ok := fun _ => True) (okp := fun _ => True) ?hr ?hp (fun _ hk => hk) trivial (Below.refl _ _) (Nat.le_refl _) (by simp) ?_; (case hd => rfl); (case hg => rfl); (case hr => first | (go_simp; done) | (go_simp; rfl)); (case hp => exact (Reps.one (show Kd.M (Kd.int .u64) _ _ _ (IntKind.u64.wrap ((rd_T111 l0_4 x70_2).f0)) [.int .u64 (IntKind.u64.wrap ((rd_T111 l0_4 x70_2).f0))] from rfl) (Reps.one (show Kd.M (Kd.int .u64) _ _ _ ((rd_T111 l0_4 x70_2).f1) [.int .u64 ((rd_T111 l0_4 x70_2).f1)] from rfl) (Reps.none _ _)))); intro v123 w54 ho55 hb hg_ hnew_; clear hg_ hnew_; (first | rw [← Ny122.out] at ho55 | (simp only [Int.reduceToNat] at ho55; rw [← Ny122.out] at ho55)); have n0_ := Aside0.mk (Kd.R_lower ho55 (below_size (by repeat (first | (with_reducible first | exact HB.out | apply below_alloc | apply pw_below_drewN | apply below_drew1 | refine below_set ?_ GE101.out | refine below_set ?_ GE121.out) | exact HB.out)))); have n1_ := Aside0.mk (blk_below (g := gb101) (o := .cells #[.int .u64 a0_0, .int .u64 a0_1, .int .u64 a0_2, .slice A0_3 l0_3.length c0_3, .slice (some ad120) l0_4.length c0_4] 26 (0, 0)) (by (with_reducible repeat (first | refine blk_drewN ?_ _ | refine blk_drew ?_ | refine blk_alloc ?_ _)); refine blk_far ?_ NB101_121.out _; (with_reducible repeat (first | refine blk_drewN ?_ _ | refine blk_drew ?_ | refine blk_alloc ?_ _)); refine blk_far ?_ NB101_121.out _; (with_reducible repeat (first | refine blk_drewN ?_ _ | refine blk_drew ?_ | refine blk_alloc ?_ _)); exact BK101.out) hb); have n2_ := Aside0.mk (blk_below (g := gb121) (o := .cells #[.int .i64 ((rd_T111 l0_4 x70_2).f0), .int .u64 ((rd_T111 l0_4 x70_2).f1)] 111 (0, 0)) (by (with_reducible repeat (first | refine blk_drewN ?_ _ | refine blk_drew ?_ | refine blk_alloc ?_ _)); refine blk_put (cs := #[.int .i64 ((rd_T111 l0_4 x70_2).f0), .int .u64 0]) ?_ 1 _ rfl; (with_reducible repeat (first | refine blk_drewN ?_ _ | refine blk_drew ?_ | refine blk_alloc ?_ _)); refine blk_put (cs := #[.int .i64 0, .int .u64 0]) ?_ 0 _ rfl; (with_reducible repeat (first | refine blk_drewN ?_ _ | refine blk_drew ?_ | refine blk_alloc ?_ _)); exact BK121.out) hb); have n3_ := Aside0.mk (below_step (by repeat (first | (with_reducible first | exact HB.out | apply below_alloc | apply pw_below_drewN | apply below_drew1 | refine below_set ?_ GE101.out | refine below_set ?_ GE121.out) | exact HB.out)) hb); clear BK101; clear BK121; clear HB; have HO124 := n0_; have BK101 := n1_; have BK121 := n2_; have HB := n3_; clear n0_ n1_ n2_ n3_; clear hb ho55; obtain ⟨Ao56, co56, eo56⟩ := Kd.R_slice HO124.out; subst eo56) | ((with_reducible refine gate_callee (f := 51) rfl ?_); refine goesL_ (some 81) rfl rfl Tryd.func51 (by kernel_rfl) rfl #[.slice Ao56 y122.length co56] rfl (by (try simp only [List.map_toArray, List.map_cons, List.map_nil]); first | done | rfl | (simp only [List.length_drop, List.length_take]; rfl)) ?_; (with_reducible refine (edit_nums.calls k2 _ _ y122 t125 _ ?side1 ?side2 A49.out).mono ?_); (case side1 => repeat (first | exact (Kd.R_reads' HO124.out).2.2 | (with_reducible refine Kd.C_alloc ?_ _) | (with_reducible refine Kd.C_drewN ?_ _) | (with_reducible refine Kd.C_drew ?_))); (case side2 => exact (Kd.R_reads' HO124.out).2.1); rintro e w57 ⟨rfl, hb⟩; refine ⟨_, rfl, ?_⟩; have n0_ := Aside0.mk (Kd.R_below (by (with_reducible repeat (first | apply Kd.R_alloc | apply Kd.R_drewN | apply Kd.R_drew)); exact HO124.out) hb); have n1_ := Aside0.mk (blk_below (g := gb101) (o := .cells #[.int .u64 a0_0, .int .u64 a0_1, .int .u64 a0_2, .slice A0_3 l0_3.length c0_3, .slice (some ad120) l0_4.length c0_4] 26 (0, 0)) (by (with_reducible repeat (first | refine blk_drewN ?_ _ | refine blk_drew ?_ | refine blk_alloc ?_ _)); exact BK101.out) hb); have n2_ := Aside0.mk (blk_below (g := gb121) (o := .cells #[.int .i64 ((rd_T111 l0_4 x70_2).f0), .int .u64 ((rd_T111 l0_4 x70_2).f1)] 111 (0, 0)) (by (with_reducible repeat (first | refine blk_drewN ?_ _ | refine blk_drew ?_ | refine blk_alloc ?_ _)); exact BK121.out) hb); have n3_ := Aside0.mk (below_step (by repeat (first | (with_reducible first | exact HB.out | apply below_alloc | apply pw_below_drewN | apply below_drew1 | refine below_set ?_ GE101.out | refine below_set ?_ GE121.out) | exact HB.out)) hb); clear HO124; clear BK101; clear BK121; clear HB; have HO124 := n0_; have BK101 := n1_; have BK121 := n2_; have HB := n3_; clear n0_ n1_ n2_ n3_; (try clear hb); (try clear hb2); (try clear hk); (try clear hi)))
                        go_roundg k2
                        case measure => have := HK1.out; have := HK2.out; omega
                        case rel => exact ⟨(x5_2 ++ t125), (wrap64 (x70_2 + 1)), (by first | rfl | (simp; done) | (simp [*]; done)), (by first | rfl | (simp; done) | (simp [*]; done)), H', ⟨by have := HK1.out; have := HK2.out; omega⟩, ⟨by (with_reducible repeat (first | refine blk_drewN ?_ _ | refine blk_drew ?_ | refine blk_alloc ?_ _)); exact BK101.out⟩, ⟨by repeat (first | (with_reducible first | exact HB.out | apply below_alloc | apply pw_below_drewN | apply below_drew1 | refine below_set ?_ GE101.out | refine below_set ?_ GE121.out) | exact HB.out)⟩⟩
                      · rw [if_neg c50] at H
                        exact absurd H (by simp)
                    · rw [if_neg c48] at H
                      exact absurd H (by simp)
                  · rw [if_neg c47] at H
                    exact absurd H (by simp)
                · rw [if_neg c46] at H
                  have c46b0 : decide (x70_2 < (l0_4.length : Int)) = false := decide_eq_false c46
                  clear c46
                  simp only [Option.some.injEq, Prod.mk.injEq] at H
                  obtain ⟨rfl, rfl⟩ := H
                  go_wp2
                  go_ret2
                  exact ⟨by first | rfl | (simp [errW_none, errW_some] <;> rfl) | (simp [*, errW_none, errW_some] <;> rfl), by repeat (first | (with_reducible first | exact HB.out | apply below_alloc | apply pw_below_drewN | apply below_drew1 | refine below_set ?_ GE101.out) | exact HB.out)⟩
          · rw [if_neg c39] at H
            exact absurd H (by simp)
  · rw [if_neg c3] at H
    have c3b0 : (t102 == 0) = false := beq_eq_false_iff_ne.mpr c3
    have c3b1 : (t102 != 0) = true := bne_iff_ne.mpr c3
    simp only [Option.some.injEq, Prod.mk.injEq] at H
    obtain ⟨rfl, rfl⟩ := H
    go_enter Tryd.func15, Tryd.ntmps15
    go_wp2_with (first | ((with_reducible refine gate_dst (N := 1) rfl ?_); refine box_event ?hg (N := 1) ?hd (cs := #[.int .u64 a0_0, .int .u64 a0_1, .int .u64 a0_2, .slice A0_3 l0_3.length c0_3, .slice A0_4 l0_4.length c0_4]) (t := 26) ?hr ?_; (case hd => rfl); (case hg => rfl); (case hr => first | (go_simp; done) | (go_simp; rfl)); intro gb101 hg w58 hbox hb; have n0_ := Aside0.mk (below_step (by repeat (first | (with_reducible first | exact HB.out | apply below_alloc | apply pw_below_drewN | apply below_drew1) | exact HB.out)) hb); have n1_ := Aside0.mk (hbox); have n2_ := Aside0.mk ((by rw [hg]; exact (below_size (by repeat (first | (with_reducible first | exact HB.out | apply below_alloc | apply pw_below_drewN | apply below_drew1) | exact HB.out))) : w.heap.size ≤ gb101)); have n3_ := Aside0.mk ((by rw [hg]; exact (below_size (by repeat (first | (with_reducible first | exact HB.out | apply below_alloc | apply pw_below_drewN | apply below_drew1) | exact HB.out))) : w.heap.size ≤ gb101)); clear HB; have HB := n0_; have BK101 := n1_; have GW101 := n2_; have GE101 := n3_; clear n0_ n1_ n2_ n3_; clear hb hbox hg; have hcz59_0 : w58.cell? ⟨gb101, 0, none⟩ = some (.int .u64 a0_0) := (blk_cell BK101.out 0).trans rfl; have hcz59_1 : w58.cell? ⟨gb101, 1, none⟩ = some (.int .u64 a0_1) := (blk_cell BK101.out 1).trans rfl; have hcz59_2 : w58.cell? ⟨gb101, 2, none⟩ = some (.int .u64 a0_2) := (blk_cell BK101.out 2).trans rfl; have hcz59_3 : w58.cell? ⟨gb101, 3, none⟩ = some (.slice A0_3 l0_3.length c0_3) := (blk_cell BK101.out 3).trans rfl; have hcz59_4 : w58.cell? ⟨gb101, 4, none⟩ = some (.slice A0_4 l0_4.length c0_4) := (blk_cell BK101.out 4).trans rfl; have hfz59_0 := blk_frozen BK101.out 0; have hfz59_1 := blk_frozen BK101.out 1; have hfz59_2 := blk_frozen BK101.out 2; have hfz59_3 := blk_frozen BK101.out 3; have hfz59_4 := blk_frozen BK101.out 4) | ((with_reducible refine gate_callee (f := 20) rfl ?_); refine goesL_ (some 12) rfl rfl Tryd.func20 (by kernel_rfl) rfl #[.agg #[.int .u64 a0_0, .int .u64 a0_1, .int .u64 a0_2, .slice A0_3 l0_3.length c0_3, .slice A0_4 l0_4.length c0_4]] rfl (by (try simp only [List.map_toArray, List.map_cons, List.map_nil]); first | done | rfl | (simp only [List.length_drop, List.length_take]; rfl)) ?_; (with_reducible refine (edit_Edit_Check.calls a0_0 a0_1 a0_2 _ _ l0_3 _ _ l0_4 t102 _ ?side1 ?side2 ?side3 ?side4 A2.out).mono ?_); (case side1 => repeat (first | exact (Kd.C_below HR0_3.out HB.out) | (with_reducible refine Kd.C_alloc ?_ _) | (with_reducible refine Kd.C_drewN ?_ _) | (with_reducible refine Kd.C_drew ?_))); (case side2 => exact HC0_3.out); (case side3 => repeat (first | exact (Kd.C_below HR0_4.out HB.out) | (with_reducible refine Kd.C_alloc ?_ _) | (with_reducible refine Kd.C_drewN ?_ _) | (with_reducible refine Kd.C_drew ?_))); (case side4 => exact HC0_4.out); rintro e w60 ⟨rfl, hb⟩; refine ⟨_, rfl, ?_⟩; have n0_ := Aside0.mk (blk_below (g := gb101) (o := .cells #[.int .u64 a0_0, .int .u64 a0_1, .int .u64 a0_2, .slice A0_3 l0_3.length c0_3, .slice A0_4 l0_4.length c0_4] 26 (0, 0)) (by (with_reducible repeat (first | refine blk_drewN ?_ _ | refine blk_drew ?_ | refine blk_alloc ?_ _)); exact BK101.out) hb); have n1_ := Aside0.mk (below_step (by repeat (first | (with_reducible first | exact HB.out | apply below_alloc | apply pw_below_drewN | apply below_drew1 | refine below_set ?_ GE101.out) | exact HB.out)) hb); clear BK101; clear HB; have BK101 := n0_; have HB := n1_; clear n0_ n1_; (try clear hb); (try clear hb2); (try clear hk); (try clear hi)))
    go_ret2
    exact ⟨by first | rfl | (simp [errW_none, errW_some] <;> rfl) | (simp [*, errW_none, errW_some] <;> rfl), by repeat (first | (with_reducible first | exact HB.out | apply below_alloc | apply pw_below_drewN | apply below_drew1 | refine below_set ?_ GE101.out) | exact HB.out)⟩
end Go.Proofs.YteilnbnnhocciaaDoor.K
