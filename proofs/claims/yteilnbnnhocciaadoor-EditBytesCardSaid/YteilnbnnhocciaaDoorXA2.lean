/- EditBytes is true for every input: the card, tied (part 2 of 7; packed by program out of the texts named below) -/
import Derived.Test.YteilnbnnhocciaaDoorXA1
import Derived.Below
import Derived.WalkKit
import Derived.ScopeJumps
import Derived.RowKit
import Derived.Laws.BytesArg
import Derived.Laws.Strings
import Derived.Laws.OwnMore
import Derived.Test.YteilnbnnhocciaaDoorProg
import Derived.Shelf.Strings.Builder1
import Derived.KernelRfl
import Derived.Laws.Externs
import Derived.Shelf.Strconv.Itoa1
import Derived.Lib.ItoaNum
import Derived.Deep.Draws
import Derived.Deep.AppendLies
import Derived.Maps.AppendAt
import Derived.OwnWalk
import Derived.Laws.MakeOwn
import Derived.Deep.OwnRows
import Derived.Tactics
import Derived.Lib.ConvBytes
import Derived.Laws.Slices
import Derived.RowKit3
import Derived.Deep.LoopGhost
import Derived.Deep.QuietTactic
import Derived.BigQuiet
import Derived.WideLaws
import Derived.Deep.DeepCutAuto
import Derived.Deep.CutBlock
import Derived.Deep.RegionHeld3
import Derived.Laws.Rows
import Derived.Lib.AppendStr
import Derived.ArgAppend
import Derived.Laws.IdiomCopy
import Derived.OrdersHeld
import Derived.Laws.BitsLemmas
import Derived.Laws.Bits64b
import Derived.Laws.BitsAllLaws

/-! M0 -/
set_option linter.unusedVariables false
namespace Go.Proofs.YteilnbnnhocciaaDoorM
open Go.RowKit
structure Hush (p : Prop) : Prop where mk :: (out : p)
theorem Exit.jump_mono {l : Nat} {J J' : Act → World → Prop} {Q : Exit → Act → World → Prop} (h : ∀ a w, J a w → J' a w) : ∀ e a w, Exit.jump l J Q e a w → Exit.jump l J' Q e a w := by
  intro e a w hq
  cases e with
  | goto l' => exact ⟨hq.1, h _ _ hq.2⟩
  | _ => exact hq
theorem wp_scope_first {P : Program} {a : Act} {w : World} {Q : Exit → Act → World → Prop} {c R : Code} (l : Nat) (J : Act → World → Prop) (μ : Act → World → Nat) (hf : findLabel c l = some (Code.skip.seq R))
    (pass : ∀ a w, J a w → R.wp P (Exit.jump l (fun a' w' => J a' w' ∧ μ a' w' < μ a w) Q) a w)
    (first : Hush (∀ a w, J a w → R.wp P (Exit.jump l J Q) a w) → c.wp P (Exit.jump l J Q) a w) : (Code.scope c).wp P Q a w :=
  wp_scope_jumps l J μ hf (first ⟨fun a w hj => wp_mono (pass a w hj) (Exit.jump_mono fun _ _ h => h.1)⟩) fun a w hj => wp_seq (wp_skip (pass a w hj))
theorem bytesLess_flip : ∀ x y : List UInt8, (!(Op.bytesLess x y || x == y)) = Op.bytesLess y x
  | [], [] => rfl
  | [], _ :: _ => rfl
  | _ :: _, [] => rfl
  | a :: x, b :: y => by
    have ih := bytesLess_flip x y
    simp only [Op.bytesLess]
    rcases Nat.lt_trichotomy a.toNat b.toNat with h | h | h
    · have h1 : a < b := UInt8.lt_iff_toNat_lt.2 h
      have h2 : ¬ b < a := fun h' => by have := UInt8.lt_iff_toNat_lt.1 h'; omega
      have h3 : ¬ b = a := fun h' => by subst h'; omega
      simp [h1, h2, h3]
    · have h1 : a = b := UInt8.toNat_inj.1 h
      subst h1
      have h2 : ¬ a < a := fun h' => by have := UInt8.lt_iff_toNat_lt.1 h'; omega
      rw [← ih]
      simp [h2]
    · have h1 : b < a := UInt8.lt_iff_toNat_lt.2 h
      have h2 : ¬ a < b := fun h' => by have := UInt8.lt_iff_toNat_lt.1 h'; omega
      have h3 : ¬ a = b := fun h' => by subst h'; omega
      simp [h1, h2, h3]
theorem gtr_run (t : TypeId) (a b : ByteArray) : binOp .gtr t (.string a) (.string b) = pure (.bool (Op.bytesLess b.toList a.toList)) := by
  rw [← bytesLess_flip]
  simp [binOp, Op.stringOp]
theorem leq_run (t : TypeId) (a b : ByteArray) : binOp .leq t (.string a) (.string b) = pure (.bool (!Op.bytesLess b.toList a.toList)) := by
  rw [← bytesLess_flip]
  simp [binOp, Op.stringOp]
theorem geq_run (t : TypeId) (a b : ByteArray) : binOp .geq t (.string a) (.string b) = pure (.bool (!Op.bytesLess a.toList b.toList)) := by
  simp [binOp, Op.stringOp]
theorem toList_nil_iff (s : ByteArray) : s.toList = [] ↔ s.size = 0 := by
  rw [ByteArray.toList_eq]
  constructor
  · intro h
    have := congrArg List.length h
    simpa using this
  · intro h
    exact List.eq_nil_of_length_eq_zero (by simpa using h)
theorem run_convert_own {P : Program} {w : World} {src dst e base : Nat} {v : Value} {n : Nat} {xs : List Int} (hs : P.underlying src = some (.slice e)) (he : P.underlying e = some (.int .u8)) (hd : P.underlying dst = some .string)
    (hn : n = xs.length) (h : w.ownsRow base e 1 v n (xs.map (Value.int .u8))) : (convert src dst v).run P w = .ok (.string (strOfNums xs)) w := by
  subst hn
  rcases h.2 with ⟨rfl, hx⟩ | ⟨g, cap, cur, rfl, hb, hg, hl, hm, hc, htake⟩
  · have : xs = [] := by simpa using hx
    subst this
    exact run_convert_bytes_nil w src e hs he 0 0 dst hd
  · refine run_convert_bytes_arg w src e hs he g 0 xs.length cap xs rfl ?_ dst hd
    intro i hi
    have := h.cellAt i (by simpa using hi)
    rw [Nat.zero_add, this]
    simp [List.getElem?_eq_getElem hi, List.getD]
end Go.Proofs.YteilnbnnhocciaaDoorM

/-! M1 -/
set_option linter.unusedVariables false
namespace Go.Proofs
open Go.Shelf
def Tryd.lays169_ren : Go.Shelf.Ren := ⟨fun | 169 => 83 | n => n, fun | 70 => 138 | 9 => 9 | 0 => 0 | 72 => 140 | 37 => 64 | 127 => 188 | 3 => 3 | 5 => 5 | n => n, fun | n => n⟩
theorem Tryd.lays169 : Go.Proofs.Lays.n169 Tryd.prog Tryd.lays169_ren := {
  mixed := by kernel_rfl
  f169 := Tryd.func83.trans (congrArg some (by kernel_rfl))
  t0 := Tryd.underlying0
  a0 := Tryd.isAgg0
  z0 := Tryd.sizeOf0
  v0 := Tryd.zeroValue0
  t3 := Tryd.underlying3
  a3 := Tryd.isAgg3
  z3 := Tryd.sizeOf3
  v3 := Tryd.zeroValue3
  t9 := Tryd.underlying9
  a9 := Tryd.isAgg9
  z9 := Tryd.sizeOf9
  v9 := Tryd.zeroValue9
  t37 := Tryd.underlying64
  a37 := Tryd.isAgg64
  z37 := Tryd.sizeOf64
  v37 := Tryd.zeroValue64
  t70 := Tryd.underlying138
  a70 := Tryd.isAgg138
  z70 := Tryd.sizeOf138
  v70 := Tryd.zeroValue138
  t72 := Tryd.underlying140
  a72 := Tryd.isAgg140
  z72 := Tryd.sizeOf140
  v72 := Tryd.zeroValue140
  t127 := Tryd.underlying188
  a127 := Tryd.isAgg188
  z127 := Tryd.sizeOf188
  v127 := Tryd.zeroValue188 }
theorem Tryd.Builder_Extra_169 : Builder.Extra Tryd.prog Tryd.lays169_ren := {
  sizeBuilder := by kernel_rfl
  liesBuilder := by kernel_rfl
  t5 := Tryd.underlying5
  a5 := Tryd.isAgg5
  z5 := Tryd.sizeOf5
  v5 := Tryd.zeroValue5
  infoByte := by kernel_rfl
  cellsByte := by kernel_rfl
  sizeByte := by kernel_rfl
  neB5 := by decide }
open Go.RowKit in
open Go.RowKit in
open Go.RowKit in
theorem Tryd.Builder_String_any (B b : Nat) (l : List UInt8) (w : World) (h : Lib.IsBuilder 140 5 B b (Lib.byteCells l) w) (hBw : B ≤ w.heap.size) :
    Calls Tryd.prog 83 #[.pointer (some ⟨b, 0, none⟩)] w fun e w' => e = .returned (.string ⟨l.toArray⟩) ∧ Below B w w' := Any.Builder_String_any Tryd.lays169 Tryd.Builder_Extra_169 B b l w h hBw
end Go.Proofs
namespace Go.Proofs.YteilnbnnhocciaaDoorM
open Go.RowKit
theorem infoB : (Tryd.prog.info? 140).map (fun i => i.size) = some 2 := by kernel_rfl
theorem info5 : (Tryd.prog.info? 5).map (fun i => (i.zero, i.size, i.bytes)) = some (some (.int .u8 0), 1, 1) := by kernel_rfl
theorem liesB : liesAt Tryd.prog Tryd.prog.depth 140 (2 / Tryd.prog.cellsOf 140) 0 140 1 = true := by kernel_rfl
set_option maxHeartbeats 1000000 in
set_option maxRecDepth 100000 in
theorem copyCheck_used (b : Nat) (w : World) (h0 : w.cell? ⟨b, 0, none⟩ = some (.pointer (some ⟨b, 0, none⟩))) :
    Calls Tryd.prog 118 #[.pointer (some ⟨b, 0, none⟩)] w fun e w' => e = .returned (.tuple #[]) ∧ w' = w := by
  obtain ⟨j, hj, _⟩ := Option.map_eq_some_iff.1 infoB
  go_enter Tryd.func118, Tryd.ntmps118
  go_wp2
  rw [Lib.run_neq_ptr_same w _ Tryd.underlying138 hj]
  go_wp2
  go_end0
  exact ⟨rfl, rfl⟩
set_option maxHeartbeats 1000000 in
set_option maxRecDepth 100000 in
theorem copyCheck_fresh (b : Nat) (w : World) (h0 : w.cell? ⟨b, 0, none⟩ = some (.pointer none)) (hsh : w.shape? b = some (140, 2)) (hfz : w.frozen? ⟨b, 0, none⟩ = false) :
    Calls Tryd.prog 118 #[.pointer (some ⟨b, 0, none⟩)] w fun e w' => e = .returned (.tuple #[]) ∧ w' = w.setCell ⟨b, 0, none⟩ (.pointer (some ⟨b, 0, none⟩)) := by
  obtain ⟨j, hj, hjs⟩ := Option.map_eq_some_iff.1 infoB
  go_enter Tryd.func118, Tryd.ntmps118
  go_wp2
  rw [Lib.run_to_unsafe w ⟨b, 0, none⟩ Tryd.underlying138 Tryd.underlying203 hj (by rw [hjs]; decide) hsh (Nat.zero_lt_succ 1)]
  simp only [Result.andThen]
  rw [Oper.upon_value]
  go_wp2
  rw [run_callFunc_extern Tryd.func143 (by kernel_rfl) (by kernel_rfl) (by kernel_rfl) (e := Extern.AbiNoEscape.same) (by kernel_rfl)]
  rw [Lib.run_noEscape]
  simp only [Result.andThen]
  rw [Oper.upon_value]
  go_wp2
  rw [Lib.run_from_unsafe w ⟨b, 0, none⟩ Tryd.underlying203 Tryd.underlying138 hj hsh liesB]
  simp only [Result.andThen]
  rw [Oper.upon_value]
  go_wp2
  go_end0
  exact ⟨rfl, rfl⟩
theorem copyCheck (B b : Nat) (bs : List Value) (w : World) (h : Lib.IsBuilder 140 5 B b bs w) :
    Calls Tryd.prog 118 #[.pointer (some ⟨b, 0, none⟩)] w fun e w' => e = .returned (.tuple #[]) ∧ (Lib.BuilderAt 140 5 B b (.pointer (some ⟨b, 0, none⟩)) bs w' ∧ Below B w w') := by
  rcases h with h | h
  · refine (copyCheck_fresh b w h.cell0 h.shape h.frozen0).mono ?_
    rintro e w' ⟨rfl, rfl⟩
    exact ⟨rfl, h.used _, (Below.refl B w).setCell (p := ⟨b, 0, none⟩) h.1 _⟩
  · refine (copyCheck_used b w h.cell0).mono ?_
    rintro e w' ⟨rfl, rfl⟩
    exact ⟨rfl, h, Below.refl B _⟩
set_option maxHeartbeats 2000000 in
set_option maxRecDepth 100000 in
theorem writeString (B b : Nat) (bs : List Value) (s : ByteArray) (w : World) (h : Lib.IsBuilder 140 5 B b bs w) (hlen : bs.length + s.size ≤ 140737488355328) (hBw : B ≤ w.heap.size) :
    Calls Tryd.prog 78 #[.pointer (some ⟨b, 0, none⟩), .string s] w fun e w' => e = .returned (.tuple #[.int .i64 s.size, .nilIface]) ∧ (Lib.BuilderAt 140 5 B b (.pointer (some ⟨b, 0, none⟩)) (bs ++ Lib.strCells s) w' ∧ Below B w w') := by
  obtain ⟨i0, hi, hz0, hz1, hz2⟩ := info_parts info5
  go_enter Tryd.func78, Tryd.ntmps78
  go_wp2_with (go_at_call 118; refine (copyCheck B b bs _ h).mono ?_)
  rintro e w1 ⟨rfl, h1, hb1⟩
  obtain ⟨hB, v, hbk, hown, hne⟩ := h1
  have c0 : w1.cell? ⟨b, 0, none⟩ = some (.pointer (some ⟨b, 0, none⟩)) := by rw [Lib.cell_of_heap hbk]; rfl
  have c1 : w1.cell? ⟨b, 1, none⟩ = some v := by rw [Lib.cell_of_heap hbk]; rfl
  go_wp2_with (at_builtin; refine Lib.wpList_append_own_string _ rfl _ _ 64 9 rfl B 5 i0 Tryd.underlying64 Tryd.underlying9 hi hz0 hz1 hz2 _ _ _ rfl hown s rfl ?c3 ?c4 ?c5 ?_)
  case c3 => unfold maxLen; omega
  case c4 => omega
  case c5 => have := hb1.size; omega
  intro v' w2 hown' hgrow _
  have hlt : b < w1.heap.size := by
    rcases Nat.lt_or_ge b w1.heap.size with h' | h'
    · exact h'
    · simp [Array.getElem?_eq_none h'] at hbk
  have hb2 : w2.heap[b]? = some (.cells #[.pointer (some ⟨b, 0, none⟩), v] 140 (0, 0)) := by
    rw [hgrow.block b hlt (fun e => hne e.symm)]
    exact hbk
  have d0 : w2.cell? ⟨b, 0, none⟩ = some (.pointer (some ⟨b, 0, none⟩)) := by rw [Lib.cell_of_heap hb2]; rfl
  have d1 : w2.cell? ⟨b, 1, none⟩ = some v := by rw [Lib.cell_of_heap hb2]; rfl
  have f1 : w2.frozen? ⟨b, 1, none⟩ = false := Lib.frozen_of_heap hb2 1
  obtain ⟨ao, n', cap, rfl⟩ : ∃ ao n' cap, v' = .slice ao n' cap := by
    rcases hown'.2 with ⟨hv, _⟩ | ⟨g, cap, cur, hv, _⟩
    · exact ⟨_, _, _, hv⟩
    · exact ⟨_, _, _, hv⟩
  go_wp2
  go_ret2
  refine ⟨rfl, ?_, ?_⟩
  · exact Lib.BuilderAt.put (T := 140) (e := 5) hB hb2 (bs' := bs ++ Lib.strCells s) (by simpa [Lib.strCells_length] using hown') (by decide)
  · exact (hb1.grown hgrow (by have := hb1.size; omega) (fun k hk => (hown.lt k hk).1)).setCell (p := ⟨b, 1, none⟩) hB _
theorem builderAt_below {T e : TypeId} {B b : Nat} {p : Value} {bs : List Value} {w w1 : World} (h : Lib.BuilderAt T e B b p bs w) (hb : Below w.heap.size w w1) : Lib.BuilderAt T e B b p bs w1 := by
  obtain ⟨hB, v, hbk, hown, hne⟩ := h
  have hlt : b < w.heap.size := Lib.BuilderAt.lt ⟨hB, v, hbk, hown, hne⟩
  exact ⟨hB, v, (hb.block b hlt).trans hbk, hown.kept (row := none) ⟨hb.os, hb.tape, hb.output, hb.size, fun i hi _ => hb.block i hi⟩ (by cases v.ownBlock <;> simp), hne⟩
theorem builder_below {T e : TypeId} {B b : Nat} {bs : List Value} {w w1 : World} (h : Lib.IsBuilder T e B b bs w) (hb : Below w.heap.size w w1) : Lib.IsBuilder T e B b bs w1 :=
  h.elim (fun h => .inl (builderAt_below h hb)) (fun h => .inr (builderAt_below h hb))
end Go.Proofs.YteilnbnnhocciaaDoorM

/-! M2 -/
set_option linter.unusedVariables false
namespace Go.Proofs
open Go.Shelf Go.Lib
def Tryd.lays283_ren : Go.Shelf.Ren := ⟨fun | 283 => 157 | n => n, fun | 3 => 3 | 9 => 9 | 4 => 4 | n => n, fun | n => n⟩
theorem Tryd.lays283 : Go.Proofs.Lays.n283 Tryd.prog Tryd.lays283_ren := {
  mixed := by kernel_rfl
  f283 := Tryd.func157.trans (congrArg some (by kernel_rfl))
  t3 := Tryd.underlying3
  a3 := Tryd.isAgg3
  z3 := Tryd.sizeOf3
  v3 := Tryd.zeroValue3
  t4 := Tryd.underlying4
  a4 := Tryd.isAgg4
  z4 := Tryd.sizeOf4
  v4 := Tryd.zeroValue4
  t9 := Tryd.underlying9
  a9 := Tryd.isAgg9
  z9 := Tryd.sizeOf9
  v9 := Tryd.zeroValue9 }
theorem Tryd.internal_strconv_small (i : Nat) (h : i < 100) (w : World) :
    Calls Tryd.prog 157 #[.int .i64 i] w fun e w' => e = .returned (.string ⟨(Lib.decDigits i).toArray⟩) ∧ w' = w := Any.internal_strconv_small Tryd.lays283 i h w
end Go.Proofs
namespace Go.Proofs.YteilnbnnhocciaaDoorM
open Go.RowKit
set_option maxHeartbeats 1000000 in
theorem fmt_small (i : Nat) (h : i < 100) (w : World) :
    Calls Tryd.prog 128 #[.int .u64 i, .int .i64 10] w fun e w' => e = .returned (.string ⟨(Lib.decDigits i).toArray⟩) ∧ w = w' := by
  go_enter Tryd.func128, Tryd.ntmps128
  go_wp2_with fail
  refine (Tryd.internal_strconv_small i h _).mono ?_
  rintro e w1 ⟨rfl, hw⟩
  subst hw
  go_wp2
  go_ret
  exact ⟨rfl, rfl⟩
set_option maxHeartbeats 1000000 in
theorem formatUint_small (i : Nat) (h : i < 100) (w : World) :
    Calls Tryd.prog 87 #[.int .u64 i, .int .i64 10] w fun e w' => e = .returned (.string ⟨(Lib.decDigits i).toArray⟩) ∧ w = w' := by
  go_enter Tryd.func87, Tryd.ntmps87
  go_wp2_with fail
  refine (fmt_small i h _).mono ?_
  rintro e w1 ⟨rfl, rfl⟩
  go_wp2
  go_ret
  exact ⟨rfl, rfl⟩
set_option maxHeartbeats 1000000 in
theorem name_t7 (w : World) :
    Calls Tryd.prog 35 #[.string ⟨#[116]⟩, .int .u64 7] w fun e w' => e = .returned (.string ⟨#[116, 45, 55]⟩) ∧ w = w' := by
  have hd : Lib.decDigits 7 = [55] := by first | (simp [Lib.decDigits]; done) | (rw [Lib.decDigits]; rfl) | decide +kernel
  have H := Hush.mk hd
  clear hd
  go_enter Tryd.func35, Tryd.ntmps35
  go_wp2_with fail
  refine (formatUint_small 7 (by decide) _).mono ?_
  rintro e w1 ⟨rfl, rfl⟩
  rw [H.out]
  go_wp2
  go_ret
  exact ⟨rfl, rfl⟩
end Go.Proofs.YteilnbnnhocciaaDoorM

/-! K0 -/
namespace Go.Proofs.YteilnbnnhocciaaDoor.K
open Go.RowKit Go.Proofs.YteilnbnnhocciaaDoorW.PrintWords Go.Proofs.YteilnbnnhocciaaDoorW.PrintLast Go.Proofs.YteilnbnnhocciaaDoorW.PrintMore Go.Proofs.YteilnbnnhocciaaDoorM
attribute [local go_sem] max2_int min2_int max_two min_two max_three min_three max_four min_four
set_option linter.unusedVariables false
set_option linter.unusedSimpArgs false
def errW : Option Int → Value
  | none => .nilIface
  | some c => .iface 0 (.int .i64 c)
theorem errW_none : errW none = .nilIface := rfl
theorem errW_some (c : Int) : errW (some c) = .iface 0 (.int .i64 c) := rfl
theorem info5 : (Tryd.prog.info? 5).map (fun i => (i.zero, i.size, i.bytes)) = some (some (.int .u8 0), 1, 1) := by kernel_rfl
theorem info114 : (Tryd.prog.info? 114).map (fun i => (i.zero, i.size, i.bytes)) = some (some (.agg #[(.int .i64 0), (.int .u64 0), (.int .u64 0), (.int .u64 0), (.string ⟨#[]⟩), (.string ⟨#[]⟩)]), 6, 64) := by kernel_rfl
theorem info115 : (Tryd.prog.info? 115).map (fun i => (i.zero, i.size, i.bytes)) = some (some (.agg #[(.int .i64 0), (.int .u64 0)]), 2, 16) := by kernel_rfl
structure S97 where
  f0 : Int
  f1 : Int
  f2 : Int
  f3 : ByteArray
  f4 : ByteArray
def z97 : S97 := ⟨(0 : Int), (0 : Int), (0 : Int), (⟨#[]⟩ : ByteArray), (⟨#[]⟩ : ByteArray)⟩
def k97 : Kd S97 := Kd.iso (Kd.pair (Kd.int .u64) (Kd.pair (Kd.int .u64) (Kd.pair (Kd.int .u64) (Kd.pair Kd.string Kd.string)))) (fun x : S97 => (x.f0, x.f1, x.f2, x.f3, x.f4))
theorem k97_open {w : World} {x : S97} {cs : List Value} (h : k97.K w x cs) : cs = [.int .u64 x.f0, .int .u64 x.f1, .int .u64 x.f2, .string x.f3, .string x.f4] := by
  obtain ⟨_, _, rfl, rfl, ⟨_, _, rfl, rfl, ⟨_, _, rfl, rfl, ⟨_, _, rfl, rfl, rfl⟩⟩⟩⟩ := h
  exact rfl
theorem k97_mkM (w : World) (base : Nat) (ok : Nat → Prop) (x : S97)  : k97.M w base ok x [.int .u64 x.f0, .int .u64 x.f1, .int .u64 x.f2, .string x.f3, .string x.f4] := ⟨[.int .u64 x.f0], [.int .u64 x.f1, .int .u64 x.f2, .string x.f3, .string x.f4], rfl, rfl, ⟨[.int .u64 x.f1], [.int .u64 x.f2, .string x.f3, .string x.f4], rfl, rfl, ⟨[.int .u64 x.f2], [.string x.f3, .string x.f4], rfl, rfl, ⟨[.string x.f3], [.string x.f4], rfl, rfl, rfl⟩⟩⟩⟩
structure S107 where
  f0 : Int
  f1 : S97
def z107 : S107 := ⟨(0 : Int), z97⟩
def k107 : Kd S107 := Kd.iso (Kd.pair (Kd.int .i64) k97) (fun x : S107 => (x.f0, x.f1))
theorem k107_open {w : World} {x : S107} {cs : List Value} (h : k107.K w x cs) : cs = [.int .i64 x.f0, .int .u64 x.f1.f0, .int .u64 x.f1.f1, .int .u64 x.f1.f2, .string x.f1.f3, .string x.f1.f4] := by
  obtain ⟨_, _, rfl, rfl, s1⟩ := h
  obtain rfl := k97_open s1
  exact rfl
theorem k107_mkM (w : World) (base : Nat) (ok : Nat → Prop) (x : S107)  : k107.M w base ok x [.int .i64 x.f0, .int .u64 x.f1.f0, .int .u64 x.f1.f1, .int .u64 x.f1.f2, .string x.f1.f3, .string x.f1.f4] := ⟨[.int .i64 x.f0], [.int .u64 x.f1.f0, .int .u64 x.f1.f1, .int .u64 x.f1.f2, .string x.f1.f3, .string x.f1.f4], rfl, rfl, (k97_mkM w base ok x.f1 )⟩
def rd_T107 (xs : List S107) (i : Int) : S107 := xs.getD i.toNat z107
theorem at_T107 {w : World} {A : Option Addr} {n : Nat} {xs : List S107} (h : Kd.C k107 w A n xs) (i : Int) (h0 : 0 ≤ i) (h1 : i < n) : ∃ ad , A = some ad ∧ w.cell? (ad.add (i.toNat * 6)) = some (.int .i64 (rd_T107 xs i).f0) ∧ w.cell? ⟨(ad.add (i.toNat * 6)).block, (ad.add (i.toNat * 6)).off + 1, none⟩ = some (.int .u64 (rd_T107 xs i).f1.f0) ∧ w.cell? ⟨(ad.add (i.toNat * 6)).block, (ad.add (i.toNat * 6)).off + 2, none⟩ = some (.int .u64 (rd_T107 xs i).f1.f1) ∧ w.cell? ⟨(ad.add (i.toNat * 6)).block, (ad.add (i.toNat * 6)).off + 3, none⟩ = some (.int .u64 (rd_T107 xs i).f1.f2) ∧ w.cell? ⟨(ad.add (i.toNat * 6)).block, (ad.add (i.toNat * 6)).off + 4, none⟩ = some (.string (rd_T107 xs i).f1.f3) ∧ w.cell? ⟨(ad.add (i.toNat * 6)).block, (ad.add (i.toNat * 6)).off + 5, none⟩ = some (.string (rd_T107 xs i).f1.f4) := by
  obtain ⟨ad, c, e, _, hK, hc0⟩ := Kd.C_get h z107 i h0 h1
  have hc : ∀ j u, c[j]? = some u → w.cell? (ad.add (i.toNat * 6 + j)) = some u := hc0
  obtain rfl := k107_open hK
  exact ⟨ad, e, hc 0 _ rfl, by rw [← add_field _ _ 1 (by omega)]; exact hc 1 _ rfl, by rw [← add_field _ _ 2 (by omega)]; exact hc 2 _ rfl, by rw [← add_field _ _ 3 (by omega)]; exact hc 3 _ rfl, by rw [← add_field _ _ 4 (by omega)]; exact hc 4 _ rfl, by rw [← add_field _ _ 5 (by omega)]; exact hc 5 _ rfl⟩
structure S111 where
  f0 : Int
  f1 : Int
def z111 : S111 := ⟨(0 : Int), (0 : Int)⟩
def k111 : Kd S111 := Kd.iso (Kd.pair (Kd.int .i64) (Kd.int .u64)) (fun x : S111 => (x.f0, x.f1))
theorem k111_open {w : World} {x : S111} {cs : List Value} (h : k111.K w x cs) : cs = [.int .i64 x.f0, .int .u64 x.f1] := by
  obtain ⟨_, _, rfl, rfl, rfl⟩ := h
  exact rfl
theorem k111_mkM (w : World) (base : Nat) (ok : Nat → Prop) (x : S111)  : k111.M w base ok x [.int .i64 x.f0, .int .u64 x.f1] := ⟨[.int .i64 x.f0], [.int .u64 x.f1], rfl, rfl, rfl⟩
def rd_T111 (xs : List S111) (i : Int) : S111 := xs.getD i.toNat z111
theorem at_T111 {w : World} {A : Option Addr} {n : Nat} {xs : List S111} (h : Kd.C k111 w A n xs) (i : Int) (h0 : 0 ≤ i) (h1 : i < n) : ∃ ad , A = some ad ∧ w.cell? (ad.add (i.toNat * 2)) = some (.int .i64 (rd_T111 xs i).f0) ∧ w.cell? ⟨(ad.add (i.toNat * 2)).block, (ad.add (i.toNat * 2)).off + 1, none⟩ = some (.int .u64 (rd_T111 xs i).f1) := by
  obtain ⟨ad, c, e, _, hK, hc0⟩ := Kd.C_get h z111 i h0 h1
  have hc : ∀ j u, c[j]? = some u → w.cell? (ad.add (i.toNat * 2 + j)) = some u := hc0
  obtain rfl := k111_open hK
  exact ⟨ad, e, hc 0 _ rfl, by rw [← add_field _ _ 1 (by omega)]; exact hc 1 _ rfl⟩
structure S26 where
  f0 : Int
  f1 : Int
  f2 : Int
  f3 : (List S107)
  f4 : (List S111)
def k26 : Kd S26 := Kd.iso (Kd.pair (Kd.int .u64) (Kd.pair (Kd.int .u64) (Kd.pair (Kd.int .u64) (Kd.pair (Kd.slice 107 k107) (Kd.slice 111 k111))))) (fun x : S26 => (x.f0, x.f1, x.f2, x.f3, x.f4))
structure S112 where
  f0 : Int
  f1 : Int
  f2 : Int
  f3 : ByteArray
  f4 : ByteArray
def z112 : S112 := ⟨(0 : Int), (0 : Int), (0 : Int), (⟨#[]⟩ : ByteArray), (⟨#[]⟩ : ByteArray)⟩
def k112 : Kd S112 := Kd.iso (Kd.pair (Kd.int .u64) (Kd.pair (Kd.int .u64) (Kd.pair (Kd.int .u64) (Kd.pair Kd.string Kd.string)))) (fun x : S112 => (x.f0, x.f1, x.f2, x.f3, x.f4))
theorem k112_open {w : World} {x : S112} {cs : List Value} (h : k112.K w x cs) : cs = [.int .u64 x.f0, .int .u64 x.f1, .int .u64 x.f2, .string x.f3, .string x.f4] := by
  obtain ⟨_, _, rfl, rfl, ⟨_, _, rfl, rfl, ⟨_, _, rfl, rfl, ⟨_, _, rfl, rfl, rfl⟩⟩⟩⟩ := h
  exact rfl
theorem k112_mkM (w : World) (base : Nat) (ok : Nat → Prop) (x : S112)  : k112.M w base ok x [.int .u64 x.f0, .int .u64 x.f1, .int .u64 x.f2, .string x.f3, .string x.f4] := ⟨[.int .u64 x.f0], [.int .u64 x.f1, .int .u64 x.f2, .string x.f3, .string x.f4], rfl, rfl, ⟨[.int .u64 x.f1], [.int .u64 x.f2, .string x.f3, .string x.f4], rfl, rfl, ⟨[.int .u64 x.f2], [.string x.f3, .string x.f4], rfl, rfl, ⟨[.string x.f3], [.string x.f4], rfl, rfl, rfl⟩⟩⟩⟩
structure S114 where
  f0 : Int
  f1 : S112
def z114 : S114 := ⟨(0 : Int), z112⟩
def k114 : Kd S114 := Kd.iso (Kd.pair (Kd.int .i64) k112) (fun x : S114 => (x.f0, x.f1))
theorem k114_open {w : World} {x : S114} {cs : List Value} (h : k114.K w x cs) : cs = [.int .i64 x.f0, .int .u64 x.f1.f0, .int .u64 x.f1.f1, .int .u64 x.f1.f2, .string x.f1.f3, .string x.f1.f4] := by
  obtain ⟨_, _, rfl, rfl, s1⟩ := h
  obtain rfl := k112_open s1
  exact rfl
theorem k114_mkM (w : World) (base : Nat) (ok : Nat → Prop) (x : S114)  : k114.M w base ok x [.int .i64 x.f0, .int .u64 x.f1.f0, .int .u64 x.f1.f1, .int .u64 x.f1.f2, .string x.f1.f3, .string x.f1.f4] := ⟨[.int .i64 x.f0], [.int .u64 x.f1.f0, .int .u64 x.f1.f1, .int .u64 x.f1.f2, .string x.f1.f3, .string x.f1.f4], rfl, rfl, (k112_mkM w base ok x.f1 )⟩
def rd_T114 (xs : List S114) (i : Int) : S114 := xs.getD i.toNat z114
theorem at_T114 {w : World} {A : Option Addr} {n : Nat} {xs : List S114} (h : Kd.C k114 w A n xs) (i : Int) (h0 : 0 ≤ i) (h1 : i < n) : ∃ ad , A = some ad ∧ w.cell? (ad.add (i.toNat * 6)) = some (.int .i64 (rd_T114 xs i).f0) ∧ w.cell? ⟨(ad.add (i.toNat * 6)).block, (ad.add (i.toNat * 6)).off + 1, none⟩ = some (.int .u64 (rd_T114 xs i).f1.f0) ∧ w.cell? ⟨(ad.add (i.toNat * 6)).block, (ad.add (i.toNat * 6)).off + 2, none⟩ = some (.int .u64 (rd_T114 xs i).f1.f1) ∧ w.cell? ⟨(ad.add (i.toNat * 6)).block, (ad.add (i.toNat * 6)).off + 3, none⟩ = some (.int .u64 (rd_T114 xs i).f1.f2) ∧ w.cell? ⟨(ad.add (i.toNat * 6)).block, (ad.add (i.toNat * 6)).off + 4, none⟩ = some (.string (rd_T114 xs i).f1.f3) ∧ w.cell? ⟨(ad.add (i.toNat * 6)).block, (ad.add (i.toNat * 6)).off + 5, none⟩ = some (.string (rd_T114 xs i).f1.f4) := by
  obtain ⟨ad, c, e, _, hK, hc0⟩ := Kd.C_get h z114 i h0 h1
  have hc : ∀ j u, c[j]? = some u → w.cell? (ad.add (i.toNat * 6 + j)) = some u := hc0
  obtain rfl := k114_open hK
  exact ⟨ad, e, hc 0 _ rfl, by rw [← add_field _ _ 1 (by omega)]; exact hc 1 _ rfl, by rw [← add_field _ _ 2 (by omega)]; exact hc 2 _ rfl, by rw [← add_field _ _ 3 (by omega)]; exact hc 3 _ rfl, by rw [← add_field _ _ 4 (by omega)]; exact hc 4 _ rfl, by rw [← add_field _ _ 5 (by omega)]; exact hc 5 _ rfl⟩
structure S115 where
  f0 : Int
  f1 : Int
def z115 : S115 := ⟨(0 : Int), (0 : Int)⟩
def k115 : Kd S115 := Kd.iso (Kd.pair (Kd.int .i64) (Kd.int .u64)) (fun x : S115 => (x.f0, x.f1))
theorem k115_open {w : World} {x : S115} {cs : List Value} (h : k115.K w x cs) : cs = [.int .i64 x.f0, .int .u64 x.f1] := by
  obtain ⟨_, _, rfl, rfl, rfl⟩ := h
  exact rfl
theorem k115_mkM (w : World) (base : Nat) (ok : Nat → Prop) (x : S115)  : k115.M w base ok x [.int .i64 x.f0, .int .u64 x.f1] := ⟨[.int .i64 x.f0], [.int .u64 x.f1], rfl, rfl, rfl⟩
def rd_T115 (xs : List S115) (i : Int) : S115 := xs.getD i.toNat z115
theorem at_T115 {w : World} {A : Option Addr} {n : Nat} {xs : List S115} (h : Kd.C k115 w A n xs) (i : Int) (h0 : 0 ≤ i) (h1 : i < n) : ∃ ad , A = some ad ∧ w.cell? (ad.add (i.toNat * 2)) = some (.int .i64 (rd_T115 xs i).f0) ∧ w.cell? ⟨(ad.add (i.toNat * 2)).block, (ad.add (i.toNat * 2)).off + 1, none⟩ = some (.int .u64 (rd_T115 xs i).f1) := by
  obtain ⟨ad, c, e, _, hK, hc0⟩ := Kd.C_get h z115 i h0 h1
  have hc : ∀ j u, c[j]? = some u → w.cell? (ad.add (i.toNat * 2 + j)) = some u := hc0
  obtain rfl := k115_open hK
  exact ⟨ad, e, hc 0 _ rfl, by rw [← add_field _ _ 1 (by omega)]; exact hc 1 _ rfl⟩
end Go.Proofs.YteilnbnnhocciaaDoor.K

/-! K11 -/
namespace Go.Proofs.YteilnbnnhocciaaDoor.K
open Go.RowKit Go.Proofs.YteilnbnnhocciaaDoorW.PrintWords Go.Proofs.YteilnbnnhocciaaDoorW.PrintLast Go.Proofs.YteilnbnnhocciaaDoorW.PrintMore Go.Proofs.YteilnbnnhocciaaDoorM
attribute [local go_sem] max2_int min2_int max_two min_two max_three min_three max_four min_four
set_option linter.unusedVariables false
set_option linter.unusedSimpArgs false
def IsS171 (w0 W : World) (g : Nat) (f0 : ByteArray) (f1 : Int) (f2 : Int) : Prop := W.heap[g]? = some (.cells #[.string f0, .int .i64 f1, .int .i64 f2] 171 (0, 0)) ∧ w0.heap.size ≤ g
theorem IsS171.grown {w0 W : World} {g : Nat} {f0 : ByteArray} {f1 : Int} {f2 : Int} {W1 : World} {row : Option Nat} (h : IsS171 w0 W g f0 f1 f2) (hw : W.grownBy W1 row) (hne : some g ≠ row) : IsS171 w0 W1 g f0 f1 f2 := by
  obtain ⟨hb, hg⟩ := h
  exact ⟨blk_grown hb hw hne, hg⟩
theorem IsS171.kept {w0 W : World} {g : Nat} {f0 : ByteArray} {f1 : Int} {f2 : Int} {W1 : World} {S : Nat → Prop} (h : IsS171 w0 W g f0 f1 f2) (hk : Kept W W1 S) (hne : ¬ S g) : IsS171 w0 W1 g f0 f1 f2 := by
  obtain ⟨hb, hg⟩ := h
  exact ⟨blk_kept hb hk hne, hg⟩
theorem IsS171.below {w0 W : World} {g : Nat} {f0 : ByteArray} {f1 : Int} {f2 : Int} {W1 : World} (h : IsS171 w0 W g f0 f1 f2) (hw : Below W.heap.size W W1) : IsS171 w0 W1 g f0 f1 f2 := h.grown (grown_of_below hw none) (by simp)
theorem IsS171.alloc {w0 W : World} {g : Nat} {f0 : ByteArray} {f1 : Int} {f2 : Int} (h : IsS171 w0 W g f0 f1 f2) (o : Obj) : IsS171 w0 (W.alloc o) g f0 f1 f2 := h.below (below_alloc (Below.refl _ _) o)
theorem IsS171.drewN {w0 W : World} {g : Nat} {f0 : ByteArray} {f1 : Int} {f2 : Int} (h : IsS171 w0 W g f0 f1 f2) (m : Nat) : IsS171 w0 (W.drewN m) g f0 f1 f2 := h
theorem IsS171.drew {w0 W : World} {g : Nat} {f0 : ByteArray} {f1 : Int} {f2 : Int} (h : IsS171 w0 W g f0 f1 f2) : IsS171 w0 W.drew g f0 f1 f2 := h
theorem IsS171.at_ {w0 W : World} {g : Nat} {f0 : ByteArray} {f1 : Int} {f2 : Int} {w' : World} {m : Nat} (hq : W.drewN m = w') (h : IsS171 w0 W g f0 f1 f2) : IsS171 w0 w' g f0 f1 f2 := by subst hq; exact IsS171.drewN h m
theorem IsS171.apart {w0 W : World} {g : Nat} {f0 : ByteArray} {f1 : Int} {f2 : Int} {α : Type} {d : Kd α} {e : Nat} {base : Nat} {ok : Nat → Prop} {v : Value} {xs : List α} (h : IsS171 w0 W g f0 f1 f2) (ho : d.R e W base ok v xs) (ht : ∀ q, q ∈ e :: d.E → q ≠ 171) : d.R e W base (fun k => ok k ∧ k ≠ g) v xs := by
  obtain ⟨hb, hg⟩ := h
  exact Kd.R_types ho hb ht
theorem IsS171.own_ne {w0 W : World} {g : Nat} {f0 : ByteArray} {f1 : Int} {f2 : Int} {α : Type} {d : Kd α} {e : Nat} {base : Nat} {ok : Nat → Prop} {v : Value} {xs : List α} (h : IsS171 w0 W g f0 f1 f2) (ho : d.R e W base ok v xs) (ht : e ≠ 171) : some g ≠ v.ownBlock := by
  obtain ⟨hb, hg⟩ := h
  exact Kd.R_ne ho hb ht
theorem IsS171.lt {w0 W : World} {g : Nat} {f0 : ByteArray} {f1 : Int} {f2 : Int} (h : IsS171 w0 W g f0 f1 f2) : g < W.heap.size := by
  obtain ⟨hb, hg⟩ := h
  exact blk_lt hb
theorem IsS171.ge {w0 W : World} {g : Nat} {f0 : ByteArray} {f1 : Int} {f2 : Int} (h : IsS171 w0 W g f0 f1 f2) : w0.heap.size ≤ g := by
  obtain ⟨hb, hg⟩ := h
  exact hg
theorem IsS171.far {w0 W : World} {g : Nat} {f0 : ByteArray} {f1 : Int} {f2 : Int} {p : Addr} (h : IsS171 w0 W g f0 f1 f2) (hne : g ≠ p.block) (u : Value) : IsS171 w0 (W.setCell p u) g f0 f1 f2 := by
  obtain ⟨hb, hg⟩ := h
  exact ⟨blk_far hb hne u, hg⟩
theorem cellS171_0 {W : World} {g : Nat} {f0 : ByteArray} {f1 : Int} {f2 : Int} (h : W.heap[g]? = some (.cells #[.string f0, .int .i64 f1, .int .i64 f2] 171 (0, 0))) : W.cell? ⟨g, 0, none⟩ = some (.string f0) := (blk_cell h 0).trans rfl
theorem IsS171.set_0 {w0 W : World} {g : Nat} {f0 : ByteArray} {f1 : Int} {f2 : Int} (h : IsS171 w0 W g f0 f1 f2) (x : ByteArray) : IsS171 w0 (W.setCell ⟨g, 0, none⟩ (.string x)) g x f1 f2 := by
  obtain ⟨hb, hg⟩ := h
  exact ⟨by simpa using blk_set hb 0 (.string x), hg⟩
theorem cellS171_1 {W : World} {g : Nat} {f0 : ByteArray} {f1 : Int} {f2 : Int} (h : W.heap[g]? = some (.cells #[.string f0, .int .i64 f1, .int .i64 f2] 171 (0, 0))) : W.cell? ⟨g, 1, none⟩ = some (.int .i64 f1) := (blk_cell h 1).trans rfl
theorem IsS171.set_1 {w0 W : World} {g : Nat} {f0 : ByteArray} {f1 : Int} {f2 : Int} (h : IsS171 w0 W g f0 f1 f2) (x : Int) : IsS171 w0 (W.setCell ⟨g, 1, none⟩ (.int .i64 x)) g f0 x f2 := by
  obtain ⟨hb, hg⟩ := h
  exact ⟨by simpa using blk_set hb 1 (.int .i64 x), hg⟩
theorem cellS171_2 {W : World} {g : Nat} {f0 : ByteArray} {f1 : Int} {f2 : Int} (h : W.heap[g]? = some (.cells #[.string f0, .int .i64 f1, .int .i64 f2] 171 (0, 0))) : W.cell? ⟨g, 2, none⟩ = some (.int .i64 f2) := (blk_cell h 2).trans rfl
theorem IsS171.set_2 {w0 W : World} {g : Nat} {f0 : ByteArray} {f1 : Int} {f2 : Int} (h : IsS171 w0 W g f0 f1 f2) (x : Int) : IsS171 w0 (W.setCell ⟨g, 2, none⟩ (.int .i64 x)) g f0 f1 x := by
  obtain ⟨hb, hg⟩ := h
  exact ⟨by simpa using blk_set hb 2 (.int .i64 x), hg⟩
theorem IsS171.new (w0 W : World) (f0 : ByteArray) (f1 : Int) (f2 : Int) (hB : Below w0.heap.size w0 W) : IsS171 w0 (W.alloc (.cells #[.string f0, .int .i64 f1, .int .i64 f2] 171)) W.heap.size f0 f1 f2 := ⟨by simpa using heap_alloc_new W _, hB.size⟩
def varint_Over.f (a0 : ByteArray) : Option (ByteArray × Int × Int) := some (a0, 0, 0)
set_option maxHeartbeats 8000000 in
set_option maxRecDepth 100000 in
theorem varint_Over.calls (a0 : ByteArray) (r1 : ByteArray) (r2 : Int) (r3 : Int) (w0 w : World) (hB : Below w0.heap.size w0 w) (h : varint_Over.f a0 = some (r1, r2, r3)) :
    Calls Tryd.prog 55 #[.string a0] w fun e w' => ∃ g_ : Nat, e = .returned (.pointer (some ⟨g_, 0, none⟩)) ∧ IsS171 w0 w' g_ r1 r2 r3 ∧ Below w0.heap.size w0 w' ∧ Below w.heap.size w w' := by
  have hu171 := Tryd.underlying171
  have HBW := Aside0.mk (Below.refl w.heap.size w)
  have HW0 := Aside0.mk hB.size
  have HB := Aside0.mk hB
  clear hB
  have H : (some (a0, 0, 0)) = some (r1, r2, r3) := h
  clear h
  simp only [Option.some.injEq, Prod.mk.injEq] at H
  obtain ⟨rfl, rfl, rfl⟩ := H
  go_enter Tryd.func55, Tryd.ntmps55
  go_wp2_with (first | ((with_reducible refine gate_dst (N := 5) rfl ?_); refine box_event ?hg (N := 5) ?hd (cs := #[.string a0, .int .i64 0, .int .i64 0]) (t := 171) ?hr ?_; (case hd => rfl); (case hg => rfl); (case hr => first | (go_simp; done) | (go_simp; rfl)); intro gb126 hg w2 hbox hb; have n0_ := Aside0.mk (below_step HBW.out hb); have n1_ := Aside0.mk (below_step (by repeat (first | (with_reducible first | exact HB.out | apply below_alloc | apply pw_below_drewN | apply below_drew1) | exact HB.out)) hb); have n2_ := Aside0.mk (hbox); have n3_ := Aside0.mk ((by rw [hg]; exact (below_size (by repeat (first | (with_reducible first | exact HBW.out | apply below_alloc | apply pw_below_drewN | apply below_drew1) | exact HBW.out))) : w.heap.size ≤ gb126)); have n4_ := Aside0.mk ((Nat.le_trans HW0.out (by rw [hg]; exact (below_size (by repeat (first | (with_reducible first | exact HBW.out | apply below_alloc | apply pw_below_drewN | apply below_drew1) | exact HBW.out))) : w.heap.size ≤ gb126) : w0.heap.size ≤ gb126)); clear HBW; clear HB; have HBW := n0_; have HB := n1_; have BK126 := n2_; have GW126 := n3_; have GE126 := n4_; clear n0_ n1_ n2_ n3_ n4_; clear hb hbox hg))
  go_ret
  exact ⟨_, rfl, (show IsS171 w0 _ gb126 a0 0 0 from ⟨by (with_reducible repeat (first | refine blk_drewN ?_ _ | refine blk_drew ?_ | refine blk_alloc ?_ _)); exact BK126.out, GE126.out⟩), by repeat (first | (with_reducible first | exact HB.out | apply below_alloc | apply pw_below_drewN | apply below_drew1 | refine below_set ?_ GE126.out) | exact HB.out), by repeat (first | (with_reducible first | exact HBW.out | apply below_alloc | apply pw_below_drewN | apply below_drew1 | refine below_set ?_ GW126.out) | exact HBW.out)⟩
end Go.Proofs.YteilnbnnhocciaaDoor.K

/-! K12 -/
namespace Go.Proofs.YteilnbnnhocciaaDoor.K
open Go.RowKit Go.Proofs.YteilnbnnhocciaaDoorW.PrintWords Go.Proofs.YteilnbnnhocciaaDoorW.PrintLast Go.Proofs.YteilnbnnhocciaaDoorW.PrintMore Go.Proofs.YteilnbnnhocciaaDoorM
attribute [local go_sem] max2_int min2_int max_two min_two max_three min_three max_four min_four
set_option linter.unusedVariables false
set_option linter.unusedSimpArgs false
def varint_Reader_ok.f (s0_0 : ByteArray) (s0_1 : Int) (s0_2 : Int) : Option (Bool × ByteArray × Int × Int) := some ((s0_2 == 0), s0_0, s0_1, s0_2)
set_option maxHeartbeats 8000000 in
set_option maxRecDepth 100000 in
theorem varint_Reader_ok.calls (g : Nat) (s0_0 : ByteArray) (s0_1 : Int) (s0_2 : Int) (r1 : Bool) (r2 : ByteArray) (r3 : Int) (r4 : Int) (w0 w : World) (hI : IsS171 w0 w g s0_0 s0_1 s0_2) (hB : Below w0.heap.size w0 w) (h : varint_Reader_ok.f s0_0 s0_1 s0_2 = some (r1, r2, r3, r4)) :
    Calls Tryd.prog 106 #[.pointer (some ⟨g, 0, none⟩)] w fun e w' => e = .returned (.bool r1) ∧ IsS171 w0 w' g r2 r3 r4 ∧ Below w0.heap.size w0 w' ∧ KeepBut w w' g none := by
  have HI0 := Aside0.mk hI
  have HK := Aside0.mk (KeepBut.refl w g none)
  have HL := Aside0.mk hB.size
  clear hI
  have HW0 := Aside0.mk hB.size
  have HB := Aside0.mk hB
  clear hB
  have H : (some ((s0_2 == 0), s0_0, s0_1, s0_2)) = some (r1, r2, r3, r4) := h
  clear h
  simp only [Option.some.injEq, Prod.mk.injEq] at H
  obtain ⟨rfl, rfl, rfl, rfl⟩ := H
  obtain ⟨HGz2, hgz2⟩ := HI0.out
  have hcz2_0 := cellS171_0 HGz2
  have hcz2_1 := cellS171_1 HGz2
  have hcz2_2 := cellS171_2 HGz2
  have hfz2_0 := blk_frozen HGz2 0
  have hfz2_1 := blk_frozen HGz2 1
  have hfz2_2 := blk_frozen HGz2 2
  clear HGz2 hgz2
  go_enter Tryd.func106, Tryd.ntmps106
  go_wp2
  go_ret
  exact ⟨by first | rfl | (simp [errW_none, errW_some] <;> rfl) | (simp [*, errW_none, errW_some] <;> rfl), by repeat (first | (with_reducible first | exact HI0.out | apply IsS171.alloc | apply IsS171.drewN | apply IsS171.drew | apply IsS171.set_0 | apply IsS171.set_1 | apply IsS171.set_2) | exact HI0.out), by repeat (first | (with_reducible first | exact HB.out | apply below_alloc | apply pw_below_drewN | apply below_drew1 | refine below_set ?_ (IsS171.ge HI0.out)) | exact HB.out), by repeat (first | (with_reducible first | exact HK.out | apply KeepBut.set_ | apply keep_drewN | apply keep_drew | apply keep_alloc) | exact HK.out)⟩
end Go.Proofs.YteilnbnnhocciaaDoor.K

/-! K13 -/
namespace Go.Proofs.YteilnbnnhocciaaDoor.K
open Go.RowKit Go.Proofs.YteilnbnnhocciaaDoorW.PrintWords Go.Proofs.YteilnbnnhocciaaDoorW.PrintLast Go.Proofs.YteilnbnnhocciaaDoorW.PrintMore Go.Proofs.YteilnbnnhocciaaDoorM
attribute [local go_sem] max2_int min2_int max_two min_two max_three min_three max_four min_four
set_option linter.unusedVariables false
set_option linter.unusedSimpArgs false
def varint_Reader_scan.sh (c : Int) (i : Nat) : Int := IntKind.u64.wrap (IntKind.u64.wrap (Go.bits .and .u8 c 127) * 2 ^ (7 * i))
def varint_Reader_scan.l : Nat → ByteArray → Nat → Int → Nat → Option (Int × Int × Int)
  | 0, _, _, _, _ => none
  | k + 1, s, at_, n, i =>
    if s.size ≤ at_ + i then some (0, 0, 3) else
    if i = 9 ∧ 1 < bt s (at_ + i : Nat) then some (0, 0, 8) else
    if 128 ≤ bt s (at_ + i : Nat) then varint_Reader_scan.l k s at_ (Go.bits .or .u64 n (varint_Reader_scan.sh (bt s (at_ + i : Nat)) i)) (i + 1) else
    if bt s (at_ + i : Nat) = 0 ∧ 0 < i then some (0, 0, 4) else
    some (Go.bits .or .u64 n (varint_Reader_scan.sh (bt s (at_ + i : Nat)) i), ((at_ + (i + 1) : Nat) : Int), 0)
def varint_Reader_scan.f (s0_0 : ByteArray) (s0_1 : Int) (s0_2 : Int) : Option (Int × Int × Int × ByteArray × Int × Int) :=
  if 0 ≤ s0_1 ∧ s0_1 ≤ s0_0.size ∧ s0_0.size ≤ 140737488351232 then (varint_Reader_scan.l 11 s0_0 s0_1.toNat 0 0).bind fun t => some (t.1, t.2.1, t.2.2, s0_0, s0_1, s0_2) else none
def varint_Reader_scan.Post (w0 w : World) (g : Nat) (s0 : ByteArray) (s1 s2 : Int) (t : Int × Int × Int) (e : Ending) (w' : World) : Prop :=
  e = .returned (.tuple #[.int .u64 t.1, .int .i64 t.2.1, .int .i64 t.2.2]) ∧ Drawn0 w w'
def varint_Reader_scan.J (w : World) (g : Nat) (s0 : ByteArray) (p : Nat) (t : Int × Int × Int) (a' : Act) (w' : World) : Prop := Drawn0 w w' ∧ ∃ (k : Nat) (n : Int) (i : Nat) (u7 u8 u9 u10 u11 u12 u13 u14 u15 u16 u17 u18 u19 u20 u21 u22 u23 u24 u25 u26 u27 u28 u29 u30 u31 u32 u33 u34 u35 u36 u37 u38 u39 u40 u41 u42 u43 u44 u45 u46 u47 u48 u49 u50 u51 u52 u53 u54 u55 u56 u57 u58 u59 u60 u61 : Value),
  a' = { tmps := #[.pointer (some ⟨g, 0, none⟩), undef, .int .u64 0, .int .i64 0, .int .i64 0, .int .u64 n, .int .i64 (i : Nat), u7, u8, u9, u10, u11, u12, u13, u14, u15, u16, u17, u18, u19, u20, u21, u22, u23, u24, u25, u26, u27, u28, u29, u30, u31, u32, u33, u34, u35, u36, u37, u38, u39, u40, u41, u42, u43, u44, u45, u46, u47, u48, u49, u50, u51, u52, u53, u54, u55, u56, u57, u58, u59, u60, u61], defers := [] } ∧ i ≤ 9 ∧ varint_Reader_scan.l k s0 p n i = some t ∧ k + i = 11
set_option maxHeartbeats 2000000 in
set_option maxRecDepth 100000 in
theorem varint_Reader_scan.walk (g : Nat) (s0 : ByteArray) (p : Nat) (s2 : Int) (t : Int × Int × Int) (w0 w : World) (hI : IsS171 w0 w g s0 p s2) (h : varint_Reader_scan.l 11 s0 p 0 0 = some t) (hp : p ≤ s0.size) (hs : s0.size ≤ 140737488351232) :
    Calls Tryd.prog 107 #[.pointer (some ⟨g, 0, none⟩)] w (varint_Reader_scan.Post w0 w g s0 p s2 t) := by
  have H := Hush.mk h
  clear h
  have c0 := cellS171_0 hI.1
  have c1 := cellS171_1 hI.1
  have hI' := Hush.mk hI
  clear hI
  go_enter Tryd.func107, Tryd.ntmps107
  go_wp2
  refine wp_scope_first 0 (varint_Reader_scan.J w g s0 p t) (fun a' _ => 10 - (intOf (a'.tmps.getD 6 undef)).toNat) rfl ?pass ?first
  case first =>
    intro hq
    go_wp2
    go_step3
    have hj : varint_Reader_scan.J w g s0 p t { tmps := #[.pointer (some ⟨g, 0, none⟩), undef, .int .u64 0, .int .i64 0, .int .i64 0, .int .u64 0, .int .i64 0, undef, undef, undef, undef, undef, undef, undef, undef, undef, undef, undef, undef, undef, undef, undef, undef, undef, undef, undef, undef, undef, undef, undef, undef, undef, undef, undef, undef, undef, undef, undef, undef, undef, undef, undef, undef, undef, undef, undef, undef, undef, undef, undef, undef, undef, undef, undef, undef, undef, undef, undef, undef, undef, undef, undef], defers := [] } w :=
      ⟨Drawn0.refl _, 11, 0, 0, _, _, _, _, _, _, _, _, _, _, _, _, _, _, _, _, _, _, _, _, _, _, _, _, _, _, _, _, _, _, _, _, _, _, _, _, _, _, _, _, _, _, _, _, _, _, _, _, _, _, _, _, _, _, _, rfl, by omega, H.out, rfl⟩
    exact (by assumption : ∀ a w, Code.wp _ _ _ a w → _) _ _ (hq.out _ _ hj)
  case pass =>
    rintro a' w' ⟨hd, k, n, i, u7, u8, u9, u10, u11, u12, u13, u14, u15, u16, u17, u18, u19, u20, u21, u22, u23, u24, u25, u26, u27, u28, u29, u30, u31, u32, u33, u34, u35, u36, u37, u38, u39, u40, u41, u42, u43, u44, u45, u46, u47, u48, u49, u50, u51, u52, u53, u54, u55, u56, u57, u58, u59, u60, u61, rfl, hi9, hl, hk⟩
    obtain ⟨k, rfl⟩ : ∃ k', k = k' + 1 := ⟨k - 1, by omega⟩
    rw [varint_Reader_scan.l] at hl
    obtain ⟨nd, rfl⟩ := hd.out
    by_cases hlt : s0.size ≤ p + i
    · rw [if_pos hlt] at hl
      have HL := Hush.mk hl
      clear hl
      go_wp2
      go_quiet (fail)
      go_wp2
      simp only [Exit.jump]
      go_ret3
      obtain rfl := Option.some.inj HL.out
      exact ⟨rfl, ⟨⟨_, rfl⟩⟩⟩
    · rw [if_neg hlt] at hl
      have HL := Hush.mk hl
      clear hl
      have hlt' : p + i < s0.size := by omega
      have hw1 : IntKind.i64.wrap ((p : Int) + (i : Int)) = (p : Int) + (i : Int) := IntWalk.i64_in _ (by omega)
      have hix : ∀ W, (Instr.index 9 (.string s0) (.int .i64 ((p : Int) + (i : Int)))).run Tryd.prog W = .ok (.int .u8 (bt s0 ((p + i : Nat) : Int))) W := by
        intro W
        rw [run_index_string W 9 s0 .i64 _ Tryd.underlying9, dif_pos ⟨by omega, by omega⟩, bt_at s0 ((p : Int) + (i : Int)) (by omega)]
        simp
      obtain ⟨c, hc⟩ : ∃ c, c = bt s0 ((p + i : Nat) : Int) := ⟨_, rfl⟩
      have hcr := bt_range s0 ((p + i : Nat) : Int)
      rw [← hc] at hix hcr
      have HL' : Hush ((if i = 9 ∧ 1 < c then some (0, 0, 8) else if 128 ≤ c then varint_Reader_scan.l k s0 p (Go.bits .or .u64 n (varint_Reader_scan.sh c i)) (i + 1) else if c = 0 ∧ 0 < i then some (0, 0, 4) else some (Go.bits .or .u64 n (varint_Reader_scan.sh c i), ((p + (i + 1) : Nat) : Int), 0)) = some t) := ⟨by rw [hc]; exact HL.out⟩
      clear HL hc
      obtain ⟨hc0, hc255⟩ := hcr
      by_cases hA : i = 9 ∧ 1 < c
      · have HL : Hush (some ((0 : Int), (0 : Int), (8 : Int)) = some t) := ⟨(if_pos hA).symm.trans HL'.out⟩
        have e9 : ((i : Int) == 9) = true := by rw [hA.1]; rfl
        have e1 := hA.2
        clear HL' hA
        go_wp2
        go_quiet (fail)
        go_wp2
        go_quiet (fail)
        go_wp2
        simp only [Exit.jump]
        go_ret3
        obtain rfl := Option.some.inj HL.out
        exact ⟨rfl, ⟨⟨_, rfl⟩⟩⟩
      have HL2 := Hush.mk ((if_neg hA).symm.trans HL'.out)
      clear HL'
      by_cases hB : 128 ≤ c
      · have HL := Hush.mk ((if_pos hB).symm.trans HL2.out)
        have e9 : ((i : Int) == 9) = false := by simp; omega
        have hi8 : i ≤ 8 := by omega
        clear HL2 hA
        go_wp2
        go_quiet (fail)
        go_wp2
        go_quiet (fail)
        go_wp2
        go_step3
        refine ⟨rfl, ⟨⟨⟨_, rfl⟩⟩, k, _, i + 1, _, _, _, _, _, _, _, _, _, _, _, _, _, _, _, _, _, _, _, _, _, _, _, _, _, _, _, _, _, _, _, _, _, _, _, _, _, _, _, _, _, _, _, _, _, _, _, _, _, _, _, _, _, _, _, rfl, by omega, HL.out, by omega⟩, by simp [intOf]; omega⟩
      have HL3 := Hush.mk ((if_neg hB).symm.trans HL2.out)
      clear HL2
      have hB' : c < 128 := by omega
      clear hB
      by_cases hC : c = 0 ∧ 0 < i
      · have HL := Hush.mk ((if_pos hC).symm.trans HL3.out)
        have e0 : (c == 0) = true := by rw [hC.1]; rfl
        have e1 : c ≤ 1 := by omega
        have ei := hC.2
        clear HL3 hA hC
        go_wp2
        go_quiet (fail)
        go_wp2
        go_quiet (fail)
        go_wp2
        all_goals
          simp only [Exit.jump]
          go_ret3
          obtain rfl := Option.some.inj HL.out
          exact ⟨rfl, ⟨⟨_, rfl⟩⟩⟩
      have HL := Hush.mk ((if_neg hC).symm.trans HL3.out)
      clear HL3
      by_cases hD : c = 0
      · have e0 : (c == 0) = true := by rw [hD]; rfl
        have e1 : c ≤ 1 := by omega
        have ei : i ≤ 0 := by omega
        have e9 : ((i : Int) == 9) = false := by simp; omega
        clear hA hC hD
        go_wp2
        go_quiet (fail)
        go_wp2
        go_quiet (fail)
        go_wp2
        go_quiet (fail)
        go_wp2
        simp only [Exit.jump]
        go_ret3
        obtain rfl := Option.some.inj HL.out
        exact ⟨rfl, ⟨⟨_, rfl⟩⟩⟩
      have e0 : (c == 0) = false := by simp [hD]
      by_cases hE : i = 9
      · have e9 : ((i : Int) == 9) = true := by rw [hE]; rfl
        have e1 : c ≤ 1 := by omega
        clear hA hC hD hE
        go_wp2
        go_quiet (fail)
        go_wp2
        go_quiet (fail)
        go_wp2
        go_quiet (fail)
        go_wp2
        simp only [Exit.jump]
        go_ret3
        obtain rfl := Option.some.inj HL.out
        exact ⟨rfl, ⟨⟨_, rfl⟩⟩⟩
      · have e9 : ((i : Int) == 9) = false := by simp; omega
        clear hA hC hD hE
        go_wp2
        go_quiet (fail)
        go_wp2
        go_quiet (fail)
        go_wp2
        go_quiet (fail)
        go_wp2
        simp only [Exit.jump]
        go_ret3
        obtain rfl := Option.some.inj HL.out
        exact ⟨rfl, ⟨⟨_, rfl⟩⟩⟩
theorem varint_Reader_scan.calls (g : Nat) (s0_0 : ByteArray) (s0_1 : Int) (s0_2 : Int) (r1 : Int) (r2 : Int) (r3 : Int) (r4 : ByteArray) (r5 : Int) (r6 : Int) (w0 w : World) (hI : IsS171 w0 w g s0_0 s0_1 s0_2) (hB : Below w0.heap.size w0 w) (h : varint_Reader_scan.f s0_0 s0_1 s0_2 = some (r1, r2, r3, r4, r5, r6)) :
    Calls Tryd.prog 107 #[.pointer (some ⟨g, 0, none⟩)] w fun e w' => e = .returned (.tuple #[.int .u64 r1, .int .i64 r2, .int .i64 r3]) ∧ IsS171 w0 w' g r4 r5 r6 ∧ Below w0.heap.size w0 w' ∧ KeepBut w w' g none := by
  unfold varint_Reader_scan.f at h
  by_cases hc : 0 ≤ s0_1 ∧ s0_1 ≤ s0_0.size ∧ s0_0.size ≤ 140737488351232
  · rw [if_pos hc] at h
    obtain ⟨t, ht, h⟩ := Option.bind_eq_some_iff.mp h
    obtain ⟨h0, h1, h2⟩ := hc
    simp only [Option.some.injEq, Prod.mk.injEq] at h
    obtain ⟨rfl, rfl, rfl, rfl, rfl, rfl⟩ := h
    obtain ⟨p, rfl⟩ := Int.eq_ofNat_of_zero_le h0
    refine (varint_Reader_scan.walk g s0_0 p s0_2 t w0 w hI (by simpa using ht) (by omega) h2).mono ?_
    rintro e w' ⟨rfl, hd⟩
    obtain ⟨nd, rfl⟩ := hd.out
    exact ⟨rfl, hI.drewN nd, pw_below_drewN hB nd, keep_drewN (KeepBut.refl w g none) nd⟩
  · rw [if_neg hc] at h
    cases h
end Go.Proofs.YteilnbnnhocciaaDoor.K

/-! K14 -/
namespace Go.Proofs.YteilnbnnhocciaaDoor.K
open Go.RowKit Go.Proofs.YteilnbnnhocciaaDoorW.PrintWords Go.Proofs.YteilnbnnhocciaaDoorW.PrintLast Go.Proofs.YteilnbnnhocciaaDoorW.PrintMore Go.Proofs.YteilnbnnhocciaaDoorM
attribute [local go_sem] max2_int min2_int max_two min_two max_three min_three max_four min_four
set_option linter.unusedVariables false
set_option linter.unusedSimpArgs false
def varint_Reader_Num.f (s0_0 : ByteArray) (s0_1 : Int) (s0_2 : Int) : Option (Int × ByteArray × Int × Int) := (varint_Reader_ok.f s0_0 s0_1 s0_2).bind fun bt127 => (if bt127.1 = true then ((varint_Reader_scan.f bt127.2.1 bt127.2.2.1 bt127.2.2.2).bind fun bt131 => (if bt131.2.2.1 = 0 then (some (bt131.1, bt131.2.2.2.1, bt131.2.1, bt131.2.2.2.2.2)) else (some (0, bt131.2.2.2.1, bt131.2.2.2.2.1, bt131.2.2.1)))) else (some (0, bt127.2.1, bt127.2.2.1, bt127.2.2.2)))
set_option maxHeartbeats 8000000 in
set_option maxRecDepth 100000 in
theorem varint_Reader_Num.calls (g : Nat) (s0_0 : ByteArray) (s0_1 : Int) (s0_2 : Int) (r1 : Int) (r2 : ByteArray) (r3 : Int) (r4 : Int) (w0 w : World) (hI : IsS171 w0 w g s0_0 s0_1 s0_2) (hB : Below w0.heap.size w0 w) (h : varint_Reader_Num.f s0_0 s0_1 s0_2 = some (r1, r2, r3, r4)) :
    Calls Tryd.prog 56 #[.pointer (some ⟨g, 0, none⟩)] w fun e w' => e = .returned (.int .u64 r1) ∧ IsS171 w0 w' g r2 r3 r4 ∧ Below w0.heap.size w0 w' ∧ KeepBut w w' g none := by
  have HI0 := Aside0.mk hI
  have HK := Aside0.mk (KeepBut.refl w g none)
  have HL := Aside0.mk hB.size
  clear hI
  have HW0 := Aside0.mk hB.size
  have HB := Aside0.mk hB
  clear hB
  have H : ((varint_Reader_ok.f s0_0 s0_1 s0_2).bind fun bt127 => (if bt127.1 = true then ((varint_Reader_scan.f bt127.2.1 bt127.2.2.1 bt127.2.2.2).bind fun bt131 => (if bt131.2.2.1 = 0 then (some (bt131.1, bt131.2.2.2.1, bt131.2.1, bt131.2.2.2.2.2)) else (some (0, bt131.2.2.2.1, bt131.2.2.2.2.1, bt131.2.2.1)))) else (some (0, bt127.2.1, bt127.2.2.1, bt127.2.2.2)))) = some (r1, r2, r3, r4) := h
  clear h
  replace H := Option.bind_eq_some_iff.mp H
  obtain ⟨⟨t127, t128, t129, t130⟩, A20, H⟩ := H
  replace H : (if t127 = true then ((varint_Reader_scan.f t128 t129 t130).bind fun bt131 => (if bt131.2.2.1 = 0 then (some (bt131.1, bt131.2.2.2.1, bt131.2.1, bt131.2.2.2.2.2)) else (some (0, bt131.2.2.2.1, bt131.2.2.2.2.1, bt131.2.2.1)))) else (some (0, t128, t129, t130))) = some (r1, r2, r3, r4) := H
  have A2 := Aside0.mk A20
  clear A20
  by_cases c3 : t127 = true
  · subst c3
    have H1 : ((varint_Reader_scan.f t128 t129 t130).bind fun bt131 => (if bt131.2.2.1 = 0 then (some (bt131.1, bt131.2.2.2.1, bt131.2.1, bt131.2.2.2.2.2)) else (some (0, bt131.2.2.2.1, bt131.2.2.2.2.1, bt131.2.2.1)))) = some (r1, r2, r3, r4) := by rw [if_pos rfl] at H; exact H
    clear H
    have H := H1
    clear H1
    replace H := Option.bind_eq_some_iff.mp H
    obtain ⟨⟨t131, t132, t133, t134, t135, t136⟩, A40, H⟩ := H
    replace H : (if t133 = 0 then (some (t131, t134, t132, t136)) else (some (0, t134, t135, t133))) = some (r1, r2, r3, r4) := H
    have A4 := Aside0.mk A40
    clear A40
    by_cases c5 : t133 = 0
    · rw [if_pos c5] at H
      have c5b0 : (t133 == 0) = true := beq_iff_eq.mpr c5
      have c5b1 : (t133 != 0) = false := bne_eq_false_iff_eq.mpr c5
      clear c5
      simp only [Option.some.injEq, Prod.mk.injEq] at H
      obtain ⟨rfl, rfl, rfl, rfl⟩ := H
      go_enter Tryd.func56, Tryd.ntmps56
      go_wp2_with (first | ((with_reducible refine gate_callee (f := 106) rfl ?_); refine goesL_ (some 7) rfl rfl Tryd.func106 (by kernel_rfl) rfl #[.pointer (some ⟨g, 0, none⟩)] rfl (by (try simp only [List.map_toArray, List.map_cons, List.map_nil]); first | done | rfl | (simp only [List.length_drop, List.length_take]; rfl)) ?_; (with_reducible refine (varint_Reader_ok.calls g s0_0 s0_1 s0_2 true t128 t129 t130 w0 _ ?side1 ?side2 A2.out).mono ?_); (case side1 => repeat (first | (with_reducible first | exact HI0.out | apply IsS171.alloc | apply IsS171.drewN | apply IsS171.drew | apply IsS171.set_0 | apply IsS171.set_1 | apply IsS171.set_2) | exact HI0.out)); (case side2 => repeat (first | (with_reducible first | exact HB.out | apply below_alloc | apply pw_below_drewN | apply below_drew1 | refine below_set ?_ (IsS171.ge HI0.out)) | exact HB.out)); rintro e w6 ⟨rfl, hi, hb, hk⟩; refine ⟨_, rfl, ?_⟩; have n0_ := Aside0.mk (KeepBut.trans (by repeat (first | (with_reducible first | exact HK.out | apply KeepBut.set_ | apply keep_drewN | apply keep_drew | apply keep_alloc) | exact HK.out)) hk (.inl rfl)); have n1_ := Aside0.mk (hb); have n2_ := Aside0.mk (hi); clear HK; clear HB; clear HI0; have HK := n0_; have HB := n1_; have HI0 := n2_; clear n0_ n1_ n2_; (try clear hb); (try clear hb2); (try clear hk); (try clear hi)) | ((with_reducible refine gate_callee (f := 107) rfl ?_); refine goesL_ (some 11) rfl rfl Tryd.func107 (by kernel_rfl) rfl #[.pointer (some ⟨g, 0, none⟩)] rfl (by (try simp only [List.map_toArray, List.map_cons, List.map_nil]); first | done | rfl | (simp only [List.length_drop, List.length_take]; rfl)) ?_; (with_reducible refine (varint_Reader_scan.calls g t128 t129 t130 t131 t132 t133 t134 t135 t136 w0 _ ?side1 ?side2 A4.out).mono ?_); (case side1 => repeat (first | (with_reducible first | exact HI0.out | apply IsS171.alloc | apply IsS171.drewN | apply IsS171.drew | apply IsS171.set_0 | apply IsS171.set_1 | apply IsS171.set_2) | exact HI0.out)); (case side2 => repeat (first | (with_reducible first | exact HB.out | apply below_alloc | apply pw_below_drewN | apply below_drew1 | refine below_set ?_ (IsS171.ge HI0.out)) | exact HB.out)); rintro e w7 ⟨rfl, hi, hb, hk⟩; refine ⟨_, rfl, ?_⟩; have n0_ := Aside0.mk (KeepBut.trans (by repeat (first | (with_reducible first | exact HK.out | apply KeepBut.set_ | apply keep_drewN | apply keep_drew | apply keep_alloc) | exact HK.out)) hk (.inl rfl)); have n1_ := Aside0.mk (hb); have n2_ := Aside0.mk (hi); clear HK; clear HB; clear HI0; have HK := n0_; have HB := n1_; have HI0 := n2_; clear n0_ n1_ n2_; (try clear hb); (try clear hb2); (try clear hk); (try clear hi); obtain ⟨HGz8, hgz8⟩ := HI0.out; have hcz8_0 := cellS171_0 HGz8; have hcz8_1 := cellS171_1 HGz8; have hcz8_2 := cellS171_2 HGz8; have hfz8_0 := blk_frozen HGz8 0; have hfz8_1 := blk_frozen HGz8 1; have hfz8_2 := blk_frozen HGz8 2; clear HGz8 hgz8))
      go_ret
      exact ⟨by first | rfl | (simp [errW_none, errW_some] <;> rfl) | (simp [*, errW_none, errW_some] <;> rfl), by repeat (first | (with_reducible first | exact HI0.out | apply IsS171.alloc | apply IsS171.drewN | apply IsS171.drew | apply IsS171.set_0 | apply IsS171.set_1 | apply IsS171.set_2) | exact HI0.out), by repeat (first | (with_reducible first | exact HB.out | apply below_alloc | apply pw_below_drewN | apply below_drew1 | refine below_set ?_ (IsS171.ge HI0.out)) | exact HB.out), by repeat (first | (with_reducible first | exact HK.out | apply KeepBut.set_ | apply keep_drewN | apply keep_drew | apply keep_alloc) | exact HK.out)⟩
    · rw [if_neg c5] at H
      have c5b0 : (t133 == 0) = false := beq_eq_false_iff_ne.mpr c5
      have c5b1 : (t133 != 0) = true := bne_iff_ne.mpr c5
      simp only [Option.some.injEq, Prod.mk.injEq] at H
      obtain ⟨rfl, rfl, rfl, rfl⟩ := H
      go_enter Tryd.func56, Tryd.ntmps56
      go_wp2_with (first | ((with_reducible refine gate_callee (f := 106) rfl ?_); refine goesL_ (some 7) rfl rfl Tryd.func106 (by kernel_rfl) rfl #[.pointer (some ⟨g, 0, none⟩)] rfl (by (try simp only [List.map_toArray, List.map_cons, List.map_nil]); first | done | rfl | (simp only [List.length_drop, List.length_take]; rfl)) ?_; (with_reducible refine (varint_Reader_ok.calls g s0_0 s0_1 s0_2 true t128 t129 t130 w0 _ ?side1 ?side2 A2.out).mono ?_); (case side1 => repeat (first | (with_reducible first | exact HI0.out | apply IsS171.alloc | apply IsS171.drewN | apply IsS171.drew | apply IsS171.set_0 | apply IsS171.set_1 | apply IsS171.set_2) | exact HI0.out)); (case side2 => repeat (first | (with_reducible first | exact HB.out | apply below_alloc | apply pw_below_drewN | apply below_drew1 | refine below_set ?_ (IsS171.ge HI0.out)) | exact HB.out)); rintro e w9 ⟨rfl, hi, hb, hk⟩; refine ⟨_, rfl, ?_⟩; have n0_ := Aside0.mk (KeepBut.trans (by repeat (first | (with_reducible first | exact HK.out | apply KeepBut.set_ | apply keep_drewN | apply keep_drew | apply keep_alloc) | exact HK.out)) hk (.inl rfl)); have n1_ := Aside0.mk (hb); have n2_ := Aside0.mk (hi); clear HK; clear HB; clear HI0; have HK := n0_; have HB := n1_; have HI0 := n2_; clear n0_ n1_ n2_; (try clear hb); (try clear hb2); (try clear hk); (try clear hi)) | ((with_reducible refine gate_callee (f := 107) rfl ?_); refine goesL_ (some 11) rfl rfl Tryd.func107 (by kernel_rfl) rfl #[.pointer (some ⟨g, 0, none⟩)] rfl (by (try simp only [List.map_toArray, List.map_cons, List.map_nil]); first | done | rfl | (simp only [List.length_drop, List.length_take]; rfl)) ?_; (with_reducible refine (varint_Reader_scan.calls g t128 t129 t130 t131 t132 t133 t134 t135 t136 w0 _ ?side1 ?side2 A4.out).mono ?_); (case side1 => repeat (first | (with_reducible first | exact HI0.out | apply IsS171.alloc | apply IsS171.drewN | apply IsS171.drew | apply IsS171.set_0 | apply IsS171.set_1 | apply IsS171.set_2) | exact HI0.out)); (case side2 => repeat (first | (with_reducible first | exact HB.out | apply below_alloc | apply pw_below_drewN | apply below_drew1 | refine below_set ?_ (IsS171.ge HI0.out)) | exact HB.out)); rintro e w10 ⟨rfl, hi, hb, hk⟩; refine ⟨_, rfl, ?_⟩; have n0_ := Aside0.mk (KeepBut.trans (by repeat (first | (with_reducible first | exact HK.out | apply KeepBut.set_ | apply keep_drewN | apply keep_drew | apply keep_alloc) | exact HK.out)) hk (.inl rfl)); have n1_ := Aside0.mk (hb); have n2_ := Aside0.mk (hi); clear HK; clear HB; clear HI0; have HK := n0_; have HB := n1_; have HI0 := n2_; clear n0_ n1_ n2_; (try clear hb); (try clear hb2); (try clear hk); (try clear hi); obtain ⟨HGz11, hgz11⟩ := HI0.out; have hcz11_0 := cellS171_0 HGz11; have hcz11_1 := cellS171_1 HGz11; have hcz11_2 := cellS171_2 HGz11; have hfz11_0 := blk_frozen HGz11 0; have hfz11_1 := blk_frozen HGz11 1; have hfz11_2 := blk_frozen HGz11 2; clear HGz11 hgz11))
      go_ret
      exact ⟨by first | rfl | (simp [errW_none, errW_some] <;> rfl) | (simp [*, errW_none, errW_some] <;> rfl), by repeat (first | (with_reducible first | exact HI0.out | apply IsS171.alloc | apply IsS171.drewN | apply IsS171.drew | apply IsS171.set_0 | apply IsS171.set_1 | apply IsS171.set_2) | exact HI0.out), by repeat (first | (with_reducible first | exact HB.out | apply below_alloc | apply pw_below_drewN | apply below_drew1 | refine below_set ?_ (IsS171.ge HI0.out)) | exact HB.out), by repeat (first | (with_reducible first | exact HK.out | apply KeepBut.set_ | apply keep_drewN | apply keep_drew | apply keep_alloc) | exact HK.out)⟩
  · replace c3 := Bool.eq_false_iff.mpr c3
    subst c3
    have H1 : (some (0, t128, t129, t130)) = some (r1, r2, r3, r4) := by rw [if_neg (show ¬ (false = true) by decide)] at H; exact H
    clear H
    have H := H1
    clear H1
    simp only [Option.some.injEq, Prod.mk.injEq] at H
    obtain ⟨rfl, rfl, rfl, rfl⟩ := H
    go_enter Tryd.func56, Tryd.ntmps56
    go_wp2_with (first | ((with_reducible refine gate_callee (f := 106) rfl ?_); refine goesL_ (some 7) rfl rfl Tryd.func106 (by kernel_rfl) rfl #[.pointer (some ⟨g, 0, none⟩)] rfl (by (try simp only [List.map_toArray, List.map_cons, List.map_nil]); first | done | rfl | (simp only [List.length_drop, List.length_take]; rfl)) ?_; (with_reducible refine (varint_Reader_ok.calls g s0_0 s0_1 s0_2 false t128 t129 t130 w0 _ ?side1 ?side2 A2.out).mono ?_); (case side1 => repeat (first | (with_reducible first | exact HI0.out | apply IsS171.alloc | apply IsS171.drewN | apply IsS171.drew | apply IsS171.set_0 | apply IsS171.set_1 | apply IsS171.set_2) | exact HI0.out)); (case side2 => repeat (first | (with_reducible first | exact HB.out | apply below_alloc | apply pw_below_drewN | apply below_drew1 | refine below_set ?_ (IsS171.ge HI0.out)) | exact HB.out)); rintro e w12 ⟨rfl, hi, hb, hk⟩; refine ⟨_, rfl, ?_⟩; have n0_ := Aside0.mk (KeepBut.trans (by repeat (first | (with_reducible first | exact HK.out | apply KeepBut.set_ | apply keep_drewN | apply keep_drew | apply keep_alloc) | exact HK.out)) hk (.inl rfl)); have n1_ := Aside0.mk (hb); have n2_ := Aside0.mk (hi); clear HK; clear HB; clear HI0; have HK := n0_; have HB := n1_; have HI0 := n2_; clear n0_ n1_ n2_; (try clear hb); (try clear hb2); (try clear hk); (try clear hi)))
    go_ret
    exact ⟨by first | rfl | (simp [errW_none, errW_some] <;> rfl) | (simp [*, errW_none, errW_some] <;> rfl), by repeat (first | (with_reducible first | exact HI0.out | apply IsS171.alloc | apply IsS171.drewN | apply IsS171.drew | apply IsS171.set_0 | apply IsS171.set_1 | apply IsS171.set_2) | exact HI0.out), by repeat (first | (with_reducible first | exact HB.out | apply below_alloc | apply pw_below_drewN | apply below_drew1 | refine below_set ?_ (IsS171.ge HI0.out)) | exact HB.out), by repeat (first | (with_reducible first | exact HK.out | apply KeepBut.set_ | apply keep_drewN | apply keep_drew | apply keep_alloc) | exact HK.out)⟩
end Go.Proofs.YteilnbnnhocciaaDoor.K

/-! K7 -/
namespace Go.Proofs.YteilnbnnhocciaaDoor.K
open Go.RowKit Go.Proofs.YteilnbnnhocciaaDoorW.PrintWords Go.Proofs.YteilnbnnhocciaaDoorW.PrintLast Go.Proofs.YteilnbnnhocciaaDoorW.PrintMore Go.Proofs.YteilnbnnhocciaaDoorM
attribute [local go_sem] max2_int min2_int max_two min_two max_three min_three max_four min_four
set_option linter.unusedVariables false
set_option linter.unusedSimpArgs false
def varint_Num.l : Nat → Int → List Int → Option ByteArray
  | 0, _, _ => none
  | k + 1, n, xs => if 128 ≤ n then varint_Num.l k (n / 128) (xs ++ [Go.bits .or .u8 (n % 256) 128]) else some (strOfNums (xs ++ [n]))
def varint_Num.f (k : Nat) (a0 : Int) : Option ByteArray := if 0 ≤ a0 ∧ a0 ≤ 18446744073709551615 then varint_Num.l k a0 [] else none
theorem varint_Num.room {m : Int} {n : Nat} (h0 : 0 ≤ m) (h : m.toNat * 128 ^ n ≤ 18446744073709551615) (h1 : 128 ≤ m) : (m / 128).toNat * 128 ^ (n + 1) ≤ 18446744073709551615 ∧ n < 10 := by
  constructor
  · have e : (m / 128).toNat * 128 ≤ m.toNat := by omega
    calc (m / 128).toNat * 128 ^ (n + 1) = ((m / 128).toNat * 128) * 128 ^ n := by rw [Nat.pow_succ, Nat.mul_comm (128 ^ n) 128, Nat.mul_assoc]
      _ ≤ m.toNat * 128 ^ n := Nat.mul_le_mul_right _ e
      _ ≤ _ := h
  · rcases Nat.lt_or_ge n 10 with hn | hn
    · exact hn
    · have h2 : 128 ^ 10 ≤ 128 ^ n := Nat.pow_le_pow_right (by decide) hn
      have h3 : 1 * 128 ^ n ≤ m.toNat * 128 ^ n := Nat.mul_le_mul_right _ (by omega)
      have h4 : (128 : Nat) ^ 10 = 1180591620717411303424 := by decide
      omega
theorem varint_Num.info5 : (Tryd.prog.info? 5).map (fun i => (i.zero, i.size, i.bytes)) = some (some (.int .u8 0), 1, 1) := by kernel_rfl
def varint_Num.Post (w : World) (r : ByteArray) (e : Ending) (w' : World) : Prop := e = .returned (.string r) ∧ Below w.heap.size w w'
def varint_Num.J (w : World) (r : ByteArray) (a' : Act) (w' : World) : Prop := Below w.heap.size w w' ∧ ∃ (k : Nat) (m : Int) (xs : List Int) (v u4 u5 u6 u7 u8 u9 u10 u11 u12 u13 : Value),
  0 ≤ m ∧ m ≤ 18446744073709551615 ∧ a' = { tmps := #[.int .u64 m, undef, .string ⟨#[]⟩, v, u4, u5, u6, u7, u8, u9, u10, u11, u12, u13, undef, undef, undef, undef, undef, undef], defers := [] } ∧ w'.ownsRow w.heap.size 5 1 v xs.length (xs.map (Value.int .u8)) ∧ xs.length ≤ 10 ∧ m.toNat * 128 ^ xs.length ≤ 18446744073709551615 ∧ varint_Num.l k m xs = some r
set_option maxHeartbeats 1000000 in
set_option maxRecDepth 100000 in
theorem varint_Num.walk (k : Nat) (n : Int) (r : ByteArray) (w : World) (h : varint_Num.l k n [] = some r) (h0 : 0 ≤ n) (h1 : n ≤ 18446744073709551615) :
    Calls Tryd.prog 105 #[.int .u64 n] w (varint_Num.Post w r) := by
  obtain ⟨i0, hi, hz0, hz1, hz2⟩ := info_parts varint_Num.info5
  have H := Hush.mk h
  clear h
  go_enter Tryd.func105, Tryd.ntmps105
  go_wp2
  refine wp_scope_first 0 (varint_Num.J w r) (fun a' _ => (intOf (a'.tmps.getD 0 undef)).toNat) rfl ?pass ?first
  case first =>
    intro hp
    go_wp2
    go_step3
    have hj : varint_Num.J w r { tmps := #[.int .u64 n, undef, .string ⟨#[]⟩, .slice none 0 0, undef, undef, undef, undef, undef, undef, undef, undef, undef, undef, undef, undef, undef, undef, undef, undef], defers := [] } w :=
      ⟨Below.refl _ _, k, n, [], .slice none 0 0, _, _, _, _, _, _, _, _, _, _, h0, h1, rfl, World.ownsRow_nil _ _ _ _, by simp, by simp; omega, H.out⟩
    exact (by assumption : ∀ a w, Code.wp _ _ _ a w → _) _ _ (hp.out _ _ hj)
  case pass =>
    rintro a' w' ⟨hb, k, m, xs, v, u4, u5, u6, u7, u8, u9, u10, u11, u12, u13, m0, m1, rfl, hown, hx, hr, hl⟩
    have HL := Hush.mk hl
    clear hl
    by_cases h128 : 128 ≤ m
    · have HR := Hush.mk (varint_Num.room m0 hr h128)
      clear hr
      go_wp2_with ((at_builtin; refine wpList_append_own _ rfl _ _ 64 rfl w.heap.size 5 i0 (.int .u8 0) 1 1 Tryd.underlying64 hi hz0 hz1 hz2 rfl (by decide) v xs.length (xs.map (Value.int .u8)) rfl (hown.alloc _) ⟨w'.heap.size, 0, none⟩ 1 1 [.int .u8 (Go.bits .or .u8 (m % 256) 128)] rfl rfl (cell_one_new _ _ _) (by simp [Value.oneCell']) (by unfold maxLen; omega) (by omega) (by have := hb.size; simp; omega) ?_; intro v' w1 hown1 hgrow _))
      go_wp2
      go_step3
      refine ⟨rfl, ⟨(hb.trans ((Below.refl _ _).alloc (Nat.le_refl _) _ |>.mono hb.size)).grown hgrow (by have := hb.size; simp; omega) (fun g hg => (hown.lt g hg).1), k - 1, m / 128, xs ++ [Go.bits .or .u8 (m % 256) 128], v', _, _, _, _, _, _, _, _, _, _, by omega, by omega, rfl, ?_, ?_, ?_, ?_⟩, ?_⟩
      · simpa using hown1
      · have := HR.out.2; simp; omega
      · have := HR.out.1; simpa using this
      · have := HL.out
        cases k with
        | zero => exact absurd this (by simp [varint_Num.l])
        | succ k => rw [varint_Num.l, if_pos h128] at this; exact this
      · simp [intOf]; omega
    · go_wp2_with ((at_builtin; refine wpList_append_own _ rfl _ _ 64 rfl w.heap.size 5 i0 (.int .u8 0) 1 1 Tryd.underlying64 hi hz0 hz1 hz2 rfl (by decide) v xs.length (xs.map (Value.int .u8)) rfl (hown.alloc _) ⟨w'.heap.size, 0, none⟩ 1 1 [.int .u8 m] rfl rfl (cell_one_new _ _ _) (by simp [Value.oneCell']) (by unfold maxLen; omega) (by omega) (by have := hb.size; simp; omega) ?_; intro v' w1 hown1 hgrow _; have hcv := run_convert_own (n := xs.length + 1) (xs := xs ++ [m]) Tryd.underlying64 Tryd.underlying5 Tryd.underlying9 (by simp) (by simpa using hown1)))
      go_ret
      refine ⟨?_, (hb.trans ((Below.refl _ _).alloc (Nat.le_refl _) _ |>.mono hb.size)).grown hgrow (by have := hb.size; simp; omega) (fun g hg => (hown.lt g hg).1)⟩
      have := HL.out
      cases k with
      | zero => exact absurd this (by simp [varint_Num.l])
      | succ k => rw [varint_Num.l, if_neg (by omega)] at this; rw [Option.some.inj this]; rfl
theorem varint_Num.calls (k : Nat) (a0 : Int) (r : ByteArray) (w : World) (h : varint_Num.f k a0 = some r) :
    Calls Tryd.prog 105 #[.int .u64 a0] w fun e w' => e = .returned (.string r) ∧ Below w.heap.size w w' := by
  unfold varint_Num.f at h
  by_cases hc : 0 ≤ a0 ∧ a0 ≤ 18446744073709551615
  · rw [if_pos hc] at h
    exact varint_Num.walk k a0 r w h hc.1 hc.2
  · rw [if_neg hc] at h
    cases h
end Go.Proofs.YteilnbnnhocciaaDoor.K

/-! E1 -/
set_option linter.unusedVariables false
namespace Go.Proofs.YteilnbnnhocciaaDoor.E
open Go.RowKit Go.Proofs.YteilnbnnhocciaaDoorW.PrintWords Go.Proofs.YteilnbnnhocciaaDoorM Go.Proofs.YteilnbnnhocciaaDoor.K
def enc (n : Nat) : List UInt8 := if h : n < 128 then [UInt8.ofNat n] else UInt8.ofNat (n % 128 + 128) :: enc (n / 128)
termination_by n
decreasing_by omega
theorem enc_small {n : Nat} (h : n < 128) : enc n = [UInt8.ofNat n] := by rw [enc, dif_pos h]
theorem enc_big {n : Nat} (h : ¬ n < 128) : enc n = UInt8.ofNat (n % 128 + 128) :: enc (n / 128) := by rw [enc, dif_neg h]
theorem enc_pos (n : Nat) : 0 < (enc n).length := by
  by_cases h : n < 128
  · rw [enc_small h]; simp
  · rw [enc_big h]; simp
theorem enc_len : ∀ (d n : Nat), n < 128 ^ (d + 1) → (enc n).length ≤ d + 1 := by
  intro d
  induction d with
  | zero => intro n h; rw [enc_small (by simpa using h)]; simp
  | succ d ih =>
    intro n h
    by_cases h1 : n < 128
    · rw [enc_small h1]; simp
    · rw [enc_big h1]
      have : n / 128 < 128 ^ (d + 1) := by rw [Nat.div_lt_iff_lt_mul (by decide)]; rw [Nat.pow_succ] at h; exact h
      have := ih _ this
      simp; omega
theorem or128 (n : Nat) : Go.bits .or .u8 ((n : Int) % 256) 128 = ((n % 128 + 128 : Nat) : Int) := by
  rw [u8_or _ _ (by omega) (by omega) (by omega) (by omega)]
  have h1 : ((n : Int) % 256).toNat = n % 256 := by omega
  rw [h1]
  have h2 : n % 256 < 256 := by omega
  have h3 : ∀ m : Fin 256, (m.val ||| (128 : Int).toNat) = m.val % 128 + 128 := by decide +kernel
  have h4 := h3 ⟨n % 256, h2⟩
  simp only at h4
  rw [h4]
  have : n % 256 % 128 = n % 128 := by omega
  omega
theorem toNat_ofNat {n : Nat} (h : n < 256) : (UInt8.ofNat n).toNat = n := by simp [UInt8.toNat_ofNat']; omega
theorem num_l : ∀ (d n k : Nat) (xs : List Int), n < 128 ^ (d + 1) → d < k → ∃ r, varint_Num.l k (n : Int) xs = some r ∧ r.data.toList = (xs.map fun x => UInt8.ofNat x.toNat) ++ enc n := by
  intro d
  induction d with
  | zero =>
    intro n k xs h hk
    obtain ⟨k, rfl⟩ : ∃ k', k = k' + 1 := ⟨k - 1, by omega⟩
    have h1 : n < 128 := by simpa using h
    refine ⟨_, by rw [varint_Num.l, if_neg (by omega)], ?_⟩
    rw [strOfNums_data, enc_small h1]
    simp
  | succ d ih =>
    intro n k xs h hk
    obtain ⟨k, rfl⟩ : ∃ k', k = k' + 1 := ⟨k - 1, by omega⟩
    by_cases h1 : n < 128
    · refine ⟨_, by rw [varint_Num.l, if_neg (by omega)], ?_⟩
      rw [strOfNums_data, enc_small h1]
      simp
    · have h2 : n / 128 < 128 ^ (d + 1) := by rw [Nat.div_lt_iff_lt_mul (by decide)]; rw [Nat.pow_succ] at h; exact h
      obtain ⟨r, hr, he⟩ := ih (n / 128) k (xs ++ [Go.bits .or .u8 ((n : Int) % 256) 128]) h2 (by omega)
      refine ⟨r, ?_, ?_⟩
      · rw [varint_Num.l, if_pos (by omega)]
        rw [show (n : Int) / 128 = ((n / 128 : Nat) : Int) by omega]
        exact hr
      · rw [he, enc_big h1, or128]
        simp only [List.map_append, List.map_cons, List.map_nil, List.append_assoc, List.cons_append, List.nil_append]
        rw [show ((n % 128 + 128 : Nat) : Int).toNat = n % 128 + 128 from by omega]
def encS (n : Nat) : ByteArray := ⟨(enc n).toArray⟩
theorem num_f (n k : Nat) (hn : n < 18446744073709551616) (hk : 10 ≤ k) : varint_Num.f k (n : Int) = some (encS n) := by
  have h1 : n < 128 ^ (9 + 1) := by have : (128 : Nat) ^ 10 = 1180591620717411303424 := by decide
                                    omega
  obtain ⟨r, hr, he⟩ := num_l 9 n k [] h1 (by omega)
  rw [varint_Num.f, if_pos ⟨by omega, by omega⟩, hr]
  congr 1
  have : r.data.toList = enc n := by simpa using he
  cases r with
  | mk a => simp only [encS]; congr 1; rw [← this]
theorem and127 (c : Nat) (hc : c < 256) : Go.bits .and .u8 (c : Int) 127 = ((c % 128 : Nat) : Int) := by
  have h := u8_and_nat c 127 hc (by decide)
  have h3 : ∀ m : Fin 256, (m.val &&& 127) = m.val % 128 := by decide +kernel
  have h4 := h3 ⟨c, hc⟩
  simp only at h4
  rw [h4] at h
  exact h
theorem sh_eq (c i : Nat) (hc : c < 256) (hb : c % 128 * 128 ^ i < 18446744073709551616) : varint_Reader_scan.sh (c : Int) i = ((c % 128 * 128 ^ i : Nat) : Int) := by
  rw [varint_Reader_scan.sh, and127 c hc, IntKind.wrap_u64, IntKind.wrap_u64]
  have e1 : ((c % 128 : Nat) : Int) % 18446744073709551616 = ((c % 128 : Nat) : Int) := by omega
  rw [e1]
  have e2 : ((c % 128 : Nat) : Int) * 2 ^ (7 * i) = ((c % 128 * 128 ^ i : Nat) : Int) := by
    have e3 : (2 : Int) ^ (7 * i) = ((128 ^ i : Nat) : Int) := by
      have h1 : ((2 ^ (7 * i) : Nat) : Int) = (2 : Int) ^ (7 * i) := by simp
      rw [← h1, Nat.pow_mul]
    rw [e3, Int.natCast_mul]
  rw [e2]
  omega
theorem or_add (n b i : Nat) (hn : n < 128 ^ i) : n ||| b * 128 ^ i = n + b * 128 ^ i := by
  have h := Nat.two_pow_add_eq_or_of_lt (i := 7 * i) (b := n) (by rw [Nat.pow_mul]; exact hn) b
  rw [Nat.pow_mul] at h
  rw [Nat.mul_comm b, Nat.or_comm]
  rw [show (2 : Nat) ^ 7 = 128 from rfl] at h
  rw [← h, Nat.add_comm]
theorem step_eq (n c i : Nat) (hc : c < 256) (hn : n < 128 ^ i) (hb : n + c % 128 * 128 ^ i < 18446744073709551616) : Go.bits .or .u64 (n : Int) (varint_Reader_scan.sh (c : Int) i) = ((n + c % 128 * 128 ^ i : Nat) : Int) := by
  rw [sh_eq c i hc (by omega), bits_or_u64_nat n (c % 128 * 128 ^ i) (by omega) (by omega), or_add n (c % 128) i hn]
theorem bt_list (s : ByteArray) (j : Nat) (h : j < s.size) : ∃ c : UInt8, bt s (j : Int) = (c.toNat : Int) ∧ s.data.toList.drop j = c :: s.data.toList.drop (j + 1) := by
  have hl : j < s.data.toList.length := by simpa using h
  refine ⟨s.data.toList[j], ?_, by rw [List.drop_eq_getElem_cons hl]⟩
  have := bt_at s (j : Int) (by simpa using h)
  rw [← this]
  rfl
theorem scan_sound : ∀ (d k : Nat) (s : ByteArray) (p n i : Nat), i + d = 9 → d + 1 < k → n < 128 ^ i → p + i ≤ s.size → ∃ t, varint_Reader_scan.l k s p (n : Int) i = some t ∧
    ((t.2.2 ≠ 0 ∧ t.1 = 0 ∧ t.2.1 = 0) ∨ (t.2.2 = 0 ∧ ∃ m : Nat, t.1 = ((n + m * 128 ^ i : Nat) : Int) ∧ n + m * 128 ^ i < 18446744073709551616 ∧ (i = 0 ∨ 0 < m) ∧ t.2.1 = ((p + i + (enc m).length : Nat) : Int) ∧ p + i + (enc m).length ≤ s.size ∧
      s.data.toList.drop (p + i) = enc m ++ s.data.toList.drop (p + i + (enc m).length))) := by
  intro d
  induction d with
  | zero =>
    intro k s p n i hi hk hn hp
    obtain ⟨k, rfl⟩ : ∃ k', k = k' + 1 := ⟨k - 1, by omega⟩
    have h9 : i = 9 := by omega
    subst h9
    rw [varint_Reader_scan.l]
    by_cases h1 : s.size ≤ p + 9
    · rw [if_pos h1]; exact ⟨_, rfl, .inl ⟨by simp, rfl, rfl⟩⟩
    · rw [if_neg h1]
      obtain ⟨c, hc, hd⟩ := bt_list s (p + 9) (by omega)
      rw [hc]
      have hc2 := c.toNat_lt
      by_cases h2 : 9 = 9 ∧ 1 < (c.toNat : Int)
      · rw [if_pos h2]; exact ⟨_, rfl, .inl ⟨by simp, rfl, rfl⟩⟩
      · rw [if_neg h2]
        have h3 : c.toNat ≤ 1 := by omega
        rw [if_neg (by omega)]
        by_cases h4 : (c.toNat : Int) = 0 ∧ 0 < 9
        · rw [if_pos h4]; exact ⟨_, rfl, .inl ⟨by simp, rfl, rfl⟩⟩
        · rw [if_neg h4]
          have h5 : c.toNat = 1 := by omega
          have e9 : (128 : Nat) ^ 9 = 9223372036854775808 := by decide
          refine ⟨_, rfl, .inr ⟨rfl, 1, ?_, by omega, .inr (by decide), ?_, ?_, ?_⟩⟩
          · rw [step_eq n c.toNat 9 hc2 hn (by rw [h5]; omega), h5]
          · rw [enc_small (by decide)]; simp; omega
          · rw [enc_small (by decide)]; simp; omega
          · rw [enc_small (by decide), hd]
            have : c = UInt8.ofNat 1 := UInt8.toNat_inj.1 (by rw [h5]; rfl)
            rw [this]; simp
  | succ d ih =>
    intro k s p n i hi hk hn hp
    obtain ⟨k, rfl⟩ : ∃ k', k = k' + 1 := ⟨k - 1, by omega⟩
    rw [varint_Reader_scan.l]
    by_cases h1 : s.size ≤ p + i
    · rw [if_pos h1]; exact ⟨_, rfl, .inl ⟨by simp, rfl, rfl⟩⟩
    · rw [if_neg h1]
      obtain ⟨c, hc, hd⟩ := bt_list s (p + i) (by omega)
      rw [hc]
      have hc2 := c.toNat_lt
      rw [if_neg (by omega)]
      have hpow : 128 ^ i ≤ 128 ^ 8 := Nat.pow_le_pow_right (by decide) (by omega)
      have e8 : (128 : Nat) ^ 8 = 72057594037927936 := by decide
      have hmul : c.toNat % 128 * 128 ^ i ≤ 127 * 128 ^ i := Nat.mul_le_mul_right _ (by omega)
      have hst := step_eq n c.toNat i hc2 hn (by omega)
      by_cases h2 : (128 : Int) ≤ (c.toNat : Int)
      · rw [if_pos h2, hst]
        have hn' : n + c.toNat % 128 * 128 ^ i < 128 ^ (i + 1) := by rw [Nat.pow_succ]; omega
        obtain ⟨t, ht, hr⟩ := ih k s p (n + c.toNat % 128 * 128 ^ i) (i + 1) (by omega) (by omega) hn' (by omega)
        refine ⟨t, ht, ?_⟩
        rcases hr with hr | ⟨hz, m, e1, e2, e3, e4, e5, e6⟩
        · exact .inl hr
        · have hm : 0 < m := by omega
          have hM : (c.toNat % 128 + 128 * m) / 128 = m := by omega
          have hM2 : (c.toNat % 128 + 128 * m) % 128 = c.toNat % 128 := by omega
          have hcs : UInt8.ofNat (c.toNat % 128 + 128) = c := UInt8.toNat_inj.1 (by rw [toNat_ofNat (by omega)]; omega)
          have henc : enc (c.toNat % 128 + 128 * m) = c :: enc m := by rw [enc_big (by omega), hM, hM2, hcs]
          have hval : n + c.toNat % 128 * 128 ^ i + m * 128 ^ (i + 1) = n + (c.toNat % 128 + 128 * m) * 128 ^ i := by
            rw [Nat.pow_succ, Nat.add_mul, Nat.mul_comm (128 ^ i) 128, ← Nat.mul_assoc m 128, Nat.mul_comm m 128]; omega
          refine .inr ⟨hz, c.toNat % 128 + 128 * m, by rw [e1, hval], by omega, .inr (by omega), ?_, ?_, ?_⟩
          · rw [e4, henc, List.length_cons]; omega
          · rw [henc, List.length_cons]; omega
          · rw [henc, hd, List.length_cons, List.cons_append, show p + i + 1 = p + (i + 1) from by omega, e6, show p + i + ((enc m).length + 1) = p + (i + 1) + (enc m).length from by omega]
      · rw [if_neg h2]
        by_cases h4 : (c.toNat : Int) = 0 ∧ 0 < i
        · rw [if_pos h4]; exact ⟨_, rfl, .inl ⟨by simp, rfl, rfl⟩⟩
        · rw [if_neg h4]
          have hlt : c.toNat < 128 := by omega
          have hcm : c.toNat % 128 = c.toNat := by omega
          refine ⟨_, rfl, .inr ⟨rfl, c.toNat, ?_, by rw [hcm] at hmul; omega, by omega, ?_, ?_, ?_⟩⟩
          · rw [hst, hcm]
          · rw [enc_small hlt]; simp; omega
          · rw [enc_small hlt]; simp; omega
          · rw [enc_small hlt, hd]
            have : UInt8.ofNat c.toNat = c := UInt8.toNat_inj.1 (by rw [toNat_ofNat hc2])
            rw [this]; simp
theorem scan_comp : ∀ (d k : Nat) (s : ByteArray) (p n i m : Nat) (rest : List UInt8), i + d = 9 → d + 1 < k → n < 128 ^ i → n + m * 128 ^ i < 18446744073709551616 → (i = 0 ∨ 0 < m) → s.data.toList.drop (p + i) = enc m ++ rest →
    varint_Reader_scan.l k s p (n : Int) i = some (((n + m * 128 ^ i : Nat) : Int), ((p + i + (enc m).length : Nat) : Int), 0) := by
  intro d
  induction d with
  | zero =>
    intro k s p n i m rest hi hk hn hb hz hL
    obtain ⟨k, rfl⟩ : ∃ k', k = k' + 1 := ⟨k - 1, by omega⟩
    have h9 : i = 9 := by omega
    subst h9
    have e9 : (128 : Nat) ^ 9 = 9223372036854775808 := by decide
    have hm : m = 1 := by omega
    subst hm
    rw [enc_small (by decide)] at hL ⊢
    have hsz : p + 9 < s.size := by
      rcases Nat.lt_or_ge (p + 9) s.size with h | h
      · exact h
      · rw [List.drop_eq_nil_of_le (by simpa using h)] at hL; simp at hL
    obtain ⟨c, hc, hd⟩ := bt_list s (p + 9) hsz
    rw [hd, List.cons_append, List.cons.injEq] at hL
    obtain ⟨rfl, _⟩ := hL
    rw [varint_Reader_scan.l, if_neg (by omega), hc, toNat_ofNat (by decide)]
    rw [if_neg (by omega), if_neg (by omega), if_neg (by omega)]
    rw [step_eq n 1 9 (by decide) hn (by omega)]
    rfl
  | succ d ih =>
    intro k s p n i m rest hi hk hn hb hz hL
    obtain ⟨k, rfl⟩ : ∃ k', k = k' + 1 := ⟨k - 1, by omega⟩
    have hsz : p + i < s.size := by
      rcases Nat.lt_or_ge (p + i) s.size with h | h
      · exact h
      · rw [List.drop_eq_nil_of_le (by simpa using h)] at hL
        have := enc_pos m
        have := congrArg List.length hL
        simp at this; omega
    obtain ⟨c, hc, hd⟩ := bt_list s (p + i) hsz
    have hpow : 128 ^ i ≤ 128 ^ 8 := Nat.pow_le_pow_right (by decide) (by omega)
    have e8 : (128 : Nat) ^ 8 = 72057594037927936 := by decide
    rw [varint_Reader_scan.l, if_neg (by omega), hc, if_neg (by omega)]
    by_cases hm : m < 128
    · rw [enc_small hm] at hL ⊢
      rw [hd, List.cons_append, List.cons.injEq] at hL
      obtain ⟨rfl, _⟩ := hL
      rw [toNat_ofNat (by omega), if_neg (by omega), if_neg (by omega)]
      have hmm : m % 128 = m := by omega
      rw [step_eq n m i (by omega) hn (by rw [hmm]; omega), hmm]
      rfl
    · rw [enc_big hm] at hL ⊢
      rw [hd, List.cons_append, List.cons.injEq] at hL
      obtain ⟨rfl, hL⟩ := hL
      have hmul : m % 128 * 128 ^ i ≤ 127 * 128 ^ i := Nat.mul_le_mul_right _ (by omega)
      have hc1 : (m % 128 + 128) % 128 = m % 128 := by omega
      rw [toNat_ofNat (by omega), if_pos (by omega), step_eq n _ i (by omega) hn (by rw [hc1]; omega), hc1]
      have hval : n + m % 128 * 128 ^ i + m / 128 * 128 ^ (i + 1) = n + m * 128 ^ i := by
        have h1 : m = m % 128 + 128 * (m / 128) := by omega
        have h2 : m * 128 ^ i = m % 128 * 128 ^ i + 128 * (m / 128) * 128 ^ i := by rw [← Nat.add_mul, ← h1]
        rw [h2, Nat.pow_succ, Nat.mul_comm (128 ^ i) 128, ← Nat.mul_assoc, Nat.mul_comm (m / 128) 128]; omega
      rw [ih k s p (n + m % 128 * 128 ^ i) (i + 1) (m / 128) rest (by omega) (by omega) (by rw [Nat.pow_succ]; omega) (by rw [hval]; exact hb) (.inr (by omega)) (by rw [show p + (i + 1) = p + i + 1 from by omega]; exact hL), hval]
      rw [List.length_cons, show p + (i + 1) + (enc (m / 128)).length = p + i + ((enc (m / 128)).length + 1) from by omega]
end Go.Proofs.YteilnbnnhocciaaDoor.E

/-! K15 -/
namespace Go.Proofs.YteilnbnnhocciaaDoor.K
open Go.RowKit Go.Proofs.YteilnbnnhocciaaDoorW.PrintWords Go.Proofs.YteilnbnnhocciaaDoorW.PrintLast Go.Proofs.YteilnbnnhocciaaDoorW.PrintMore Go.Proofs.YteilnbnnhocciaaDoorM
attribute [local go_sem] max2_int min2_int max_two min_two max_three min_three max_four min_four
set_option linter.unusedVariables false
set_option linter.unusedSimpArgs false
def varint_Reader_Fail.f (s0_0 : ByteArray) (s0_1 : Int) (s0_2 : Int) (a1 : Int) : Option (ByteArray × Int × Int) := (varint_Reader_ok.f s0_0 s0_1 s0_2).bind fun bt137 => (if bt137.1 = true then (some (bt137.2.1, bt137.2.2.1, a1)) else (some (bt137.2.1, bt137.2.2.1, bt137.2.2.2)))
set_option maxHeartbeats 8000000 in
set_option maxRecDepth 100000 in
theorem varint_Reader_Fail.calls (g : Nat) (s0_0 : ByteArray) (s0_1 : Int) (s0_2 : Int) (a1 : Int) (r1 : ByteArray) (r2 : Int) (r3 : Int) (w0 w : World) (hI : IsS171 w0 w g s0_0 s0_1 s0_2) (hB : Below w0.heap.size w0 w) (h : varint_Reader_Fail.f s0_0 s0_1 s0_2 a1 = some (r1, r2, r3)) :
    Calls Tryd.prog 108 #[.pointer (some ⟨g, 0, none⟩), .int .i64 a1] w fun e w' => e = .returned (.tuple #[]) ∧ IsS171 w0 w' g r1 r2 r3 ∧ Below w0.heap.size w0 w' ∧ KeepBut w w' g none := by
  have HI0 := Aside0.mk hI
  have HK := Aside0.mk (KeepBut.refl w g none)
  have HL := Aside0.mk hB.size
  clear hI
  have HW0 := Aside0.mk hB.size
  have HB := Aside0.mk hB
  clear hB
  have H : ((varint_Reader_ok.f s0_0 s0_1 s0_2).bind fun bt137 => (if bt137.1 = true then (some (bt137.2.1, bt137.2.2.1, a1)) else (some (bt137.2.1, bt137.2.2.1, bt137.2.2.2)))) = some (r1, r2, r3) := h
  clear h
  replace H := Option.bind_eq_some_iff.mp H
  obtain ⟨⟨t137, t138, t139, t140⟩, A30, H⟩ := H
  replace H : (if t137 = true then (some (t138, t139, a1)) else (some (t138, t139, t140))) = some (r1, r2, r3) := H
  have A3 := Aside0.mk A30
  clear A30
  by_cases c4 : t137 = true
  · subst c4
    have H1 : (some (t138, t139, a1)) = some (r1, r2, r3) := by rw [if_pos rfl] at H; exact H
    clear H
    have H := H1
    clear H1
    simp only [Option.some.injEq, Prod.mk.injEq] at H
    obtain ⟨rfl, rfl, rfl⟩ := H
    go_enter Tryd.func108, Tryd.ntmps108
    go_wp2_with (first | ((with_reducible refine gate_callee (f := 106) rfl ?_); refine goesL_ (some 5) rfl rfl Tryd.func106 (by kernel_rfl) rfl #[.pointer (some ⟨g, 0, none⟩)] rfl (by (try simp only [List.map_toArray, List.map_cons, List.map_nil]); first | done | rfl | (simp only [List.length_drop, List.length_take]; rfl)) ?_; (with_reducible refine (varint_Reader_ok.calls g s0_0 s0_1 s0_2 true t138 t139 t140 w0 _ ?side1 ?side2 A3.out).mono ?_); (case side1 => repeat (first | (with_reducible first | exact HI0.out | apply IsS171.alloc | apply IsS171.drewN | apply IsS171.drew | apply IsS171.set_0 | apply IsS171.set_1 | apply IsS171.set_2) | exact HI0.out)); (case side2 => repeat (first | (with_reducible first | exact HB.out | apply below_alloc | apply pw_below_drewN | apply below_drew1 | refine below_set ?_ (IsS171.ge HI0.out)) | exact HB.out)); rintro e w5 ⟨rfl, hi, hb, hk⟩; refine ⟨_, rfl, ?_⟩; have n0_ := Aside0.mk (KeepBut.trans (by repeat (first | (with_reducible first | exact HK.out | apply KeepBut.set_ | apply keep_drewN | apply keep_drew | apply keep_alloc) | exact HK.out)) hk (.inl rfl)); have n1_ := Aside0.mk (hb); have n2_ := Aside0.mk (hi); clear HK; clear HB; clear HI0; have HK := n0_; have HB := n1_; have HI0 := n2_; clear n0_ n1_ n2_; (try clear hb); (try clear hb2); (try clear hk); (try clear hi); obtain ⟨HGz6, hgz6⟩ := HI0.out; have hcz6_0 := cellS171_0 HGz6; have hcz6_1 := cellS171_1 HGz6; have hcz6_2 := cellS171_2 HGz6; have hfz6_0 := blk_frozen HGz6 0; have hfz6_1 := blk_frozen HGz6 1; have hfz6_2 := blk_frozen HGz6 2; clear HGz6 hgz6))
    first | go_end0 | ((try simp only [Exit.inBlock, Exit.then]); refine bodyPost_ret (results_none rfl _ _ _) rfl ?_)
    exact ⟨by first | rfl | (simp [errW_none, errW_some] <;> rfl) | (simp [*, errW_none, errW_some] <;> rfl), by repeat (first | (with_reducible first | exact HI0.out | apply IsS171.alloc | apply IsS171.drewN | apply IsS171.drew | apply IsS171.set_0 | apply IsS171.set_1 | apply IsS171.set_2) | exact HI0.out), by repeat (first | (with_reducible first | exact HB.out | apply below_alloc | apply pw_below_drewN | apply below_drew1 | refine below_set ?_ (IsS171.ge HI0.out)) | exact HB.out), by repeat (first | (with_reducible first | exact HK.out | apply KeepBut.set_ | apply keep_drewN | apply keep_drew | apply keep_alloc) | exact HK.out)⟩
  · replace c4 := Bool.eq_false_iff.mpr c4
    subst c4
    have H1 : (some (t138, t139, t140)) = some (r1, r2, r3) := by rw [if_neg (show ¬ (false = true) by decide)] at H; exact H
    clear H
    have H := H1
    clear H1
    simp only [Option.some.injEq, Prod.mk.injEq] at H
    obtain ⟨rfl, rfl, rfl⟩ := H
    go_enter Tryd.func108, Tryd.ntmps108
    go_wp2_with (first | ((with_reducible refine gate_callee (f := 106) rfl ?_); refine goesL_ (some 5) rfl rfl Tryd.func106 (by kernel_rfl) rfl #[.pointer (some ⟨g, 0, none⟩)] rfl (by (try simp only [List.map_toArray, List.map_cons, List.map_nil]); first | done | rfl | (simp only [List.length_drop, List.length_take]; rfl)) ?_; (with_reducible refine (varint_Reader_ok.calls g s0_0 s0_1 s0_2 false t138 t139 t140 w0 _ ?side1 ?side2 A3.out).mono ?_); (case side1 => repeat (first | (with_reducible first | exact HI0.out | apply IsS171.alloc | apply IsS171.drewN | apply IsS171.drew | apply IsS171.set_0 | apply IsS171.set_1 | apply IsS171.set_2) | exact HI0.out)); (case side2 => repeat (first | (with_reducible first | exact HB.out | apply below_alloc | apply pw_below_drewN | apply below_drew1 | refine below_set ?_ (IsS171.ge HI0.out)) | exact HB.out)); rintro e w7 ⟨rfl, hi, hb, hk⟩; refine ⟨_, rfl, ?_⟩; have n0_ := Aside0.mk (KeepBut.trans (by repeat (first | (with_reducible first | exact HK.out | apply KeepBut.set_ | apply keep_drewN | apply keep_drew | apply keep_alloc) | exact HK.out)) hk (.inl rfl)); have n1_ := Aside0.mk (hb); have n2_ := Aside0.mk (hi); clear HK; clear HB; clear HI0; have HK := n0_; have HB := n1_; have HI0 := n2_; clear n0_ n1_ n2_; (try clear hb); (try clear hb2); (try clear hk); (try clear hi)))
    first | go_end0 | ((try simp only [Exit.inBlock, Exit.then]); refine bodyPost_ret (results_none rfl _ _ _) rfl ?_)
    exact ⟨by first | rfl | (simp [errW_none, errW_some] <;> rfl) | (simp [*, errW_none, errW_some] <;> rfl), by repeat (first | (with_reducible first | exact HI0.out | apply IsS171.alloc | apply IsS171.drewN | apply IsS171.drew | apply IsS171.set_0 | apply IsS171.set_1 | apply IsS171.set_2) | exact HI0.out), by repeat (first | (with_reducible first | exact HB.out | apply below_alloc | apply pw_below_drewN | apply below_drew1 | refine below_set ?_ (IsS171.ge HI0.out)) | exact HB.out), by repeat (first | (with_reducible first | exact HK.out | apply KeepBut.set_ | apply keep_drewN | apply keep_drew | apply keep_alloc) | exact HK.out)⟩
end Go.Proofs.YteilnbnnhocciaaDoor.K

/-! K16 -/
namespace Go.Proofs.YteilnbnnhocciaaDoor.K
open Go.RowKit Go.Proofs.YteilnbnnhocciaaDoorW.PrintWords Go.Proofs.YteilnbnnhocciaaDoorW.PrintLast Go.Proofs.YteilnbnnhocciaaDoorW.PrintMore Go.Proofs.YteilnbnnhocciaaDoorM
attribute [local go_sem] max2_int min2_int max_two min_two max_three min_three max_four min_four
set_option linter.unusedVariables false
set_option linter.unusedSimpArgs false
def edit_count.f (s0_0 : ByteArray) (s0_1 : Int) (s0_2 : Int) : Option (Int × ByteArray × Int × Int) := (varint_Reader_Num.f s0_0 s0_1 s0_2).bind fun bt141 => (if bt141.1 > 200 then ((varint_Reader_Fail.f bt141.2.1 bt141.2.2.1 bt141.2.2.2 6).bind fun bt145 => (some (bt141.1, bt145.1, bt145.2.1, bt145.2.2))) else (some (bt141.1, bt141.2.1, bt141.2.2.1, bt141.2.2.2)))
set_option maxHeartbeats 8000000 in
set_option maxRecDepth 100000 in
theorem edit_count.calls (g : Nat) (s0_0 : ByteArray) (s0_1 : Int) (s0_2 : Int) (r1 : Int) (r2 : ByteArray) (r3 : Int) (r4 : Int) (w0 w : World) (hI : IsS171 w0 w g s0_0 s0_1 s0_2) (hB : Below w0.heap.size w0 w) (h : edit_count.f s0_0 s0_1 s0_2 = some (r1, r2, r3, r4)) :
    Calls Tryd.prog 57 #[.pointer (some ⟨g, 0, none⟩)] w fun e w' => e = .returned (.int .u64 r1) ∧ IsS171 w0 w' g r2 r3 r4 ∧ Below w0.heap.size w0 w' ∧ KeepBut w w' g none := by
  have HI0 := Aside0.mk hI
  have HK := Aside0.mk (KeepBut.refl w g none)
  have HL := Aside0.mk hB.size
  clear hI
  have HW0 := Aside0.mk hB.size
  have HB := Aside0.mk hB
  clear hB
  have H : ((varint_Reader_Num.f s0_0 s0_1 s0_2).bind fun bt141 => (if bt141.1 > 200 then ((varint_Reader_Fail.f bt141.2.1 bt141.2.2.1 bt141.2.2.2 6).bind fun bt145 => (some (bt141.1, bt145.1, bt145.2.1, bt145.2.2))) else (some (bt141.1, bt141.2.1, bt141.2.2.1, bt141.2.2.2)))) = some (r1, r2, r3, r4) := h
  clear h
  replace H := Option.bind_eq_some_iff.mp H
  obtain ⟨⟨t141, t142, t143, t144⟩, A20, H⟩ := H
  replace H : (if t141 > 200 then ((varint_Reader_Fail.f t142 t143 t144 6).bind fun bt145 => (some (t141, bt145.1, bt145.2.1, bt145.2.2))) else (some (t141, t142, t143, t144))) = some (r1, r2, r3, r4) := H
  have A2 := Aside0.mk A20
  clear A20
  by_cases c3 : t141 > 200
  · rw [if_pos c3] at H
    have c3b0 : decide (200 < t141) = true := decide_eq_true c3
    clear c3
    replace H := Option.bind_eq_some_iff.mp H
    obtain ⟨⟨t145, t146, t147⟩, A40, H⟩ := H
    replace H : (some (t141, t145, t146, t147)) = some (r1, r2, r3, r4) := H
    have A4 := Aside0.mk A40
    clear A40
    simp only [Option.some.injEq, Prod.mk.injEq] at H
    obtain ⟨rfl, rfl, rfl, rfl⟩ := H
    go_enter Tryd.func57, Tryd.ntmps57
    go_wp2_with (first | ((with_reducible refine gate_callee (f := 56) rfl ?_); refine goesL_ (some 5) rfl rfl Tryd.func56 (by kernel_rfl) rfl #[.pointer (some ⟨g, 0, none⟩)] rfl (by (try simp only [List.map_toArray, List.map_cons, List.map_nil]); first | done | rfl | (simp only [List.length_drop, List.length_take]; rfl)) ?_; (with_reducible refine (varint_Reader_Num.calls g s0_0 s0_1 s0_2 t141 t142 t143 t144 w0 _ ?side1 ?side2 A2.out).mono ?_); (case side1 => repeat (first | (with_reducible first | exact HI0.out | apply IsS171.alloc | apply IsS171.drewN | apply IsS171.drew | apply IsS171.set_0 | apply IsS171.set_1 | apply IsS171.set_2) | exact HI0.out)); (case side2 => repeat (first | (with_reducible first | exact HB.out | apply below_alloc | apply pw_below_drewN | apply below_drew1 | refine below_set ?_ (IsS171.ge HI0.out)) | exact HB.out)); rintro e w5 ⟨rfl, hi, hb, hk⟩; refine ⟨_, rfl, ?_⟩; have n0_ := Aside0.mk (KeepBut.trans (by repeat (first | (with_reducible first | exact HK.out | apply KeepBut.set_ | apply keep_drewN | apply keep_drew | apply keep_alloc) | exact HK.out)) hk (.inl rfl)); have n1_ := Aside0.mk (hb); have n2_ := Aside0.mk (hi); clear HK; clear HB; clear HI0; have HK := n0_; have HB := n1_; have HI0 := n2_; clear n0_ n1_ n2_; (try clear hb); (try clear hb2); (try clear hk); (try clear hi)) | ((with_reducible refine gate_callee (f := 108) rfl ?_); refine goesL_ (some 9) rfl rfl Tryd.func108 (by kernel_rfl) rfl #[.pointer (some ⟨g, 0, none⟩), .int .i64 6] rfl (by (try simp only [List.map_toArray, List.map_cons, List.map_nil]); first | done | rfl | (simp only [List.length_drop, List.length_take]; rfl)) ?_; (with_reducible refine (varint_Reader_Fail.calls g t142 t143 t144 6 t145 t146 t147 w0 _ ?side1 ?side2 A4.out).mono ?_); (case side1 => repeat (first | (with_reducible first | exact HI0.out | apply IsS171.alloc | apply IsS171.drewN | apply IsS171.drew | apply IsS171.set_0 | apply IsS171.set_1 | apply IsS171.set_2) | exact HI0.out)); (case side2 => repeat (first | (with_reducible first | exact HB.out | apply below_alloc | apply pw_below_drewN | apply below_drew1 | refine below_set ?_ (IsS171.ge HI0.out)) | exact HB.out)); rintro e w6 ⟨rfl, hi, hb, hk⟩; refine ⟨_, rfl, ?_⟩; have n0_ := Aside0.mk (KeepBut.trans (by repeat (first | (with_reducible first | exact HK.out | apply KeepBut.set_ | apply keep_drewN | apply keep_drew | apply keep_alloc) | exact HK.out)) hk (.inl rfl)); have n1_ := Aside0.mk (hb); have n2_ := Aside0.mk (hi); clear HK; clear HB; clear HI0; have HK := n0_; have HB := n1_; have HI0 := n2_; clear n0_ n1_ n2_; (try clear hb); (try clear hb2); (try clear hk); (try clear hi)))
    go_ret
    exact ⟨by first | rfl | (simp [errW_none, errW_some] <;> rfl) | (simp [*, errW_none, errW_some] <;> rfl), by repeat (first | (with_reducible first | exact HI0.out | apply IsS171.alloc | apply IsS171.drewN | apply IsS171.drew | apply IsS171.set_0 | apply IsS171.set_1 | apply IsS171.set_2) | exact HI0.out), by repeat (first | (with_reducible first | exact HB.out | apply below_alloc | apply pw_below_drewN | apply below_drew1 | refine below_set ?_ (IsS171.ge HI0.out)) | exact HB.out), by repeat (first | (with_reducible first | exact HK.out | apply KeepBut.set_ | apply keep_drewN | apply keep_drew | apply keep_alloc) | exact HK.out)⟩
  · rw [if_neg c3] at H
    have c3b0 : decide (200 < t141) = false := decide_eq_false c3
    clear c3
    simp only [Option.some.injEq, Prod.mk.injEq] at H
    obtain ⟨rfl, rfl, rfl, rfl⟩ := H
    go_enter Tryd.func57, Tryd.ntmps57
    go_wp2_with (first | ((with_reducible refine gate_callee (f := 56) rfl ?_); refine goesL_ (some 5) rfl rfl Tryd.func56 (by kernel_rfl) rfl #[.pointer (some ⟨g, 0, none⟩)] rfl (by (try simp only [List.map_toArray, List.map_cons, List.map_nil]); first | done | rfl | (simp only [List.length_drop, List.length_take]; rfl)) ?_; (with_reducible refine (varint_Reader_Num.calls g s0_0 s0_1 s0_2 t141 t142 t143 t144 w0 _ ?side1 ?side2 A2.out).mono ?_); (case side1 => repeat (first | (with_reducible first | exact HI0.out | apply IsS171.alloc | apply IsS171.drewN | apply IsS171.drew | apply IsS171.set_0 | apply IsS171.set_1 | apply IsS171.set_2) | exact HI0.out)); (case side2 => repeat (first | (with_reducible first | exact HB.out | apply below_alloc | apply pw_below_drewN | apply below_drew1 | refine below_set ?_ (IsS171.ge HI0.out)) | exact HB.out)); rintro e w7 ⟨rfl, hi, hb, hk⟩; refine ⟨_, rfl, ?_⟩; have n0_ := Aside0.mk (KeepBut.trans (by repeat (first | (with_reducible first | exact HK.out | apply KeepBut.set_ | apply keep_drewN | apply keep_drew | apply keep_alloc) | exact HK.out)) hk (.inl rfl)); have n1_ := Aside0.mk (hb); have n2_ := Aside0.mk (hi); clear HK; clear HB; clear HI0; have HK := n0_; have HB := n1_; have HI0 := n2_; clear n0_ n1_ n2_; (try clear hb); (try clear hb2); (try clear hk); (try clear hi)))
    go_ret
    exact ⟨by first | rfl | (simp [errW_none, errW_some] <;> rfl) | (simp [*, errW_none, errW_some] <;> rfl), by repeat (first | (with_reducible first | exact HI0.out | apply IsS171.alloc | apply IsS171.drewN | apply IsS171.drew | apply IsS171.set_0 | apply IsS171.set_1 | apply IsS171.set_2) | exact HI0.out), by repeat (first | (with_reducible first | exact HB.out | apply below_alloc | apply pw_below_drewN | apply below_drew1 | refine below_set ?_ (IsS171.ge HI0.out)) | exact HB.out), by repeat (first | (with_reducible first | exact HK.out | apply KeepBut.set_ | apply keep_drewN | apply keep_drew | apply keep_alloc) | exact HK.out)⟩
end Go.Proofs.YteilnbnnhocciaaDoor.K

/-! K18 -/
namespace Go.Proofs.YteilnbnnhocciaaDoor.K
open Go.RowKit Go.Proofs.YteilnbnnhocciaaDoorW.PrintWords Go.Proofs.YteilnbnnhocciaaDoorW.PrintLast Go.Proofs.YteilnbnnhocciaaDoorW.PrintMore Go.Proofs.YteilnbnnhocciaaDoorM
attribute [local go_sem] max2_int min2_int max_two min_two max_three min_three max_four min_four
set_option linter.unusedVariables false
set_option linter.unusedSimpArgs false
def edit_levelOf.f (s0_0 : ByteArray) (s0_1 : Int) (s0_2 : Int) : Option (Int × ByteArray × Int × Int) := (varint_Reader_Num.f s0_0 s0_1 s0_2).bind fun bt148 => (if bt148.1 ≥ 4 then ((varint_Reader_Fail.f bt148.2.1 bt148.2.2.1 bt148.2.2.2 21).bind fun bt152 => (some (0, bt152.1, bt152.2.1, bt152.2.2))) else (some (wrap64 (bt148.1), bt148.2.1, bt148.2.2.1, bt148.2.2.2)))
set_option maxHeartbeats 8000000 in
set_option maxRecDepth 100000 in
theorem edit_levelOf.calls (g : Nat) (s0_0 : ByteArray) (s0_1 : Int) (s0_2 : Int) (r1 : Int) (r2 : ByteArray) (r3 : Int) (r4 : Int) (w0 w : World) (hI : IsS171 w0 w g s0_0 s0_1 s0_2) (hB : Below w0.heap.size w0 w) (h : edit_levelOf.f s0_0 s0_1 s0_2 = some (r1, r2, r3, r4)) :
    Calls Tryd.prog 59 #[.pointer (some ⟨g, 0, none⟩)] w fun e w' => e = .returned (.int .i64 r1) ∧ IsS171 w0 w' g r2 r3 r4 ∧ Below w0.heap.size w0 w' ∧ KeepBut w w' g none := by
  have HI0 := Aside0.mk hI
  have HK := Aside0.mk (KeepBut.refl w g none)
  have HL := Aside0.mk hB.size
  clear hI
  have HW0 := Aside0.mk hB.size
  have HB := Aside0.mk hB
  clear hB
  have H : ((varint_Reader_Num.f s0_0 s0_1 s0_2).bind fun bt148 => (if bt148.1 ≥ 4 then ((varint_Reader_Fail.f bt148.2.1 bt148.2.2.1 bt148.2.2.2 21).bind fun bt152 => (some (0, bt152.1, bt152.2.1, bt152.2.2))) else (some (wrap64 (bt148.1), bt148.2.1, bt148.2.2.1, bt148.2.2.2)))) = some (r1, r2, r3, r4) := h
  clear h
  replace H := Option.bind_eq_some_iff.mp H
  obtain ⟨⟨t148, t149, t150, t151⟩, A20, H⟩ := H
  replace H : (if t148 ≥ 4 then ((varint_Reader_Fail.f t149 t150 t151 21).bind fun bt152 => (some (0, bt152.1, bt152.2.1, bt152.2.2))) else (some (wrap64 (t148), t149, t150, t151))) = some (r1, r2, r3, r4) := H
  have A2 := Aside0.mk A20
  clear A20
  by_cases c3 : t148 ≥ 4
  · rw [if_pos c3] at H
    have c3b0 : decide (4 ≤ t148) = true := decide_eq_true c3
    clear c3
    replace H := Option.bind_eq_some_iff.mp H
    obtain ⟨⟨t152, t153, t154⟩, A40, H⟩ := H
    replace H : (some (0, t152, t153, t154)) = some (r1, r2, r3, r4) := H
    have A4 := Aside0.mk A40
    clear A40
    simp only [Option.some.injEq, Prod.mk.injEq] at H
    obtain ⟨rfl, rfl, rfl, rfl⟩ := H
    go_enter Tryd.func59, Tryd.ntmps59
    go_wp2_with (first | ((with_reducible refine gate_callee (f := 56) rfl ?_); refine goesL_ (some 5) rfl rfl Tryd.func56 (by kernel_rfl) rfl #[.pointer (some ⟨g, 0, none⟩)] rfl (by (try simp only [List.map_toArray, List.map_cons, List.map_nil]); first | done | rfl | (simp only [List.length_drop, List.length_take]; rfl)) ?_; (with_reducible refine (varint_Reader_Num.calls g s0_0 s0_1 s0_2 t148 t149 t150 t151 w0 _ ?side1 ?side2 A2.out).mono ?_); (case side1 => repeat (first | (with_reducible first | exact HI0.out | apply IsS171.alloc | apply IsS171.drewN | apply IsS171.drew | apply IsS171.set_0 | apply IsS171.set_1 | apply IsS171.set_2) | exact HI0.out)); (case side2 => repeat (first | (with_reducible first | exact HB.out | apply below_alloc | apply pw_below_drewN | apply below_drew1 | refine below_set ?_ (IsS171.ge HI0.out)) | exact HB.out)); rintro e w5 ⟨rfl, hi, hb, hk⟩; refine ⟨_, rfl, ?_⟩; have n0_ := Aside0.mk (KeepBut.trans (by repeat (first | (with_reducible first | exact HK.out | apply KeepBut.set_ | apply keep_drewN | apply keep_drew | apply keep_alloc) | exact HK.out)) hk (.inl rfl)); have n1_ := Aside0.mk (hb); have n2_ := Aside0.mk (hi); clear HK; clear HB; clear HI0; have HK := n0_; have HB := n1_; have HI0 := n2_; clear n0_ n1_ n2_; (try clear hb); (try clear hb2); (try clear hk); (try clear hi)) | ((with_reducible refine gate_callee (f := 108) rfl ?_); refine goesL_ (some 9) rfl rfl Tryd.func108 (by kernel_rfl) rfl #[.pointer (some ⟨g, 0, none⟩), .int .i64 21] rfl (by (try simp only [List.map_toArray, List.map_cons, List.map_nil]); first | done | rfl | (simp only [List.length_drop, List.length_take]; rfl)) ?_; (with_reducible refine (varint_Reader_Fail.calls g t149 t150 t151 21 t152 t153 t154 w0 _ ?side1 ?side2 A4.out).mono ?_); (case side1 => repeat (first | (with_reducible first | exact HI0.out | apply IsS171.alloc | apply IsS171.drewN | apply IsS171.drew | apply IsS171.set_0 | apply IsS171.set_1 | apply IsS171.set_2) | exact HI0.out)); (case side2 => repeat (first | (with_reducible first | exact HB.out | apply below_alloc | apply pw_below_drewN | apply below_drew1 | refine below_set ?_ (IsS171.ge HI0.out)) | exact HB.out)); rintro e w6 ⟨rfl, hi, hb, hk⟩; refine ⟨_, rfl, ?_⟩; have n0_ := Aside0.mk (KeepBut.trans (by repeat (first | (with_reducible first | exact HK.out | apply KeepBut.set_ | apply keep_drewN | apply keep_drew | apply keep_alloc) | exact HK.out)) hk (.inl rfl)); have n1_ := Aside0.mk (hb); have n2_ := Aside0.mk (hi); clear HK; clear HB; clear HI0; have HK := n0_; have HB := n1_; have HI0 := n2_; clear n0_ n1_ n2_; (try clear hb); (try clear hb2); (try clear hk); (try clear hi)))
    go_ret
    exact ⟨by first | rfl | (simp [errW_none, errW_some] <;> rfl) | (simp [*, errW_none, errW_some] <;> rfl), by repeat (first | (with_reducible first | exact HI0.out | apply IsS171.alloc | apply IsS171.drewN | apply IsS171.drew | apply IsS171.set_0 | apply IsS171.set_1 | apply IsS171.set_2) | exact HI0.out), by repeat (first | (with_reducible first | exact HB.out | apply below_alloc | apply pw_below_drewN | apply below_drew1 | refine below_set ?_ (IsS171.ge HI0.out)) | exact HB.out), by repeat (first | (with_reducible first | exact HK.out | apply KeepBut.set_ | apply keep_drewN | apply keep_drew | apply keep_alloc) | exact HK.out)⟩
  · rw [if_neg c3] at H
    have c3b0 : decide (4 ≤ t148) = false := decide_eq_false c3
    clear c3
    simp only [Option.some.injEq, Prod.mk.injEq] at H
    obtain ⟨rfl, rfl, rfl, rfl⟩ := H
    go_enter Tryd.func59, Tryd.ntmps59
    go_wp2_with (first | ((with_reducible refine gate_callee (f := 56) rfl ?_); refine goesL_ (some 5) rfl rfl Tryd.func56 (by kernel_rfl) rfl #[.pointer (some ⟨g, 0, none⟩)] rfl (by (try simp only [List.map_toArray, List.map_cons, List.map_nil]); first | done | rfl | (simp only [List.length_drop, List.length_take]; rfl)) ?_; (with_reducible refine (varint_Reader_Num.calls g s0_0 s0_1 s0_2 t148 t149 t150 t151 w0 _ ?side1 ?side2 A2.out).mono ?_); (case side1 => repeat (first | (with_reducible first | exact HI0.out | apply IsS171.alloc | apply IsS171.drewN | apply IsS171.drew | apply IsS171.set_0 | apply IsS171.set_1 | apply IsS171.set_2) | exact HI0.out)); (case side2 => repeat (first | (with_reducible first | exact HB.out | apply below_alloc | apply pw_below_drewN | apply below_drew1 | refine below_set ?_ (IsS171.ge HI0.out)) | exact HB.out)); rintro e w7 ⟨rfl, hi, hb, hk⟩; refine ⟨_, rfl, ?_⟩; have n0_ := Aside0.mk (KeepBut.trans (by repeat (first | (with_reducible first | exact HK.out | apply KeepBut.set_ | apply keep_drewN | apply keep_drew | apply keep_alloc) | exact HK.out)) hk (.inl rfl)); have n1_ := Aside0.mk (hb); have n2_ := Aside0.mk (hi); clear HK; clear HB; clear HI0; have HK := n0_; have HB := n1_; have HI0 := n2_; clear n0_ n1_ n2_; (try clear hb); (try clear hb2); (try clear hk); (try clear hi)))
    go_ret
    exact ⟨by first | rfl | (simp [errW_none, errW_some] <;> rfl) | (simp [*, errW_none, errW_some] <;> rfl), by repeat (first | (with_reducible first | exact HI0.out | apply IsS171.alloc | apply IsS171.drewN | apply IsS171.drew | apply IsS171.set_0 | apply IsS171.set_1 | apply IsS171.set_2) | exact HI0.out), by repeat (first | (with_reducible first | exact HB.out | apply below_alloc | apply pw_below_drewN | apply below_drew1 | refine below_set ?_ (IsS171.ge HI0.out)) | exact HB.out), by repeat (first | (with_reducible first | exact HK.out | apply KeepBut.set_ | apply keep_drewN | apply keep_drew | apply keep_alloc) | exact HK.out)⟩
end Go.Proofs.YteilnbnnhocciaaDoor.K

/-! K19 -/
namespace Go.Proofs.YteilnbnnhocciaaDoor.K
open Go.RowKit Go.Proofs.YteilnbnnhocciaaDoorW.PrintWords Go.Proofs.YteilnbnnhocciaaDoorW.PrintLast Go.Proofs.YteilnbnnhocciaaDoorW.PrintMore Go.Proofs.YteilnbnnhocciaaDoorM
attribute [local go_sem] max2_int min2_int max_two min_two max_three min_three max_four min_four
set_option linter.unusedVariables false
set_option linter.unusedSimpArgs false
def varint_Reader_Take.f (s0_0 : ByteArray) (s0_1 : Int) (s0_2 : Int) (a1 : Int) : Option (ByteArray × ByteArray × Int × Int) := (varint_Reader_ok.f s0_0 s0_1 s0_2).bind fun bt155 => (if bt155.1 = true then (if a1 < 0 then (some ((⟨#[]⟩ : ByteArray), bt155.2.1, bt155.2.2.1, 3)) else (if a1 > (wrap64 ((bt155.2.1.size : Int) - bt155.2.2.1)) then (some ((⟨#[]⟩ : ByteArray), bt155.2.1, bt155.2.2.1, 3)) else (if 0 ≤ bt155.2.2.1 then (if bt155.2.2.1 ≤ (wrap64 (bt155.2.2.1 + a1)) then (if (wrap64 (bt155.2.2.1 + a1)) ≤ (bt155.2.1.size : Int) then (some (bt155.2.1.extract (bt155.2.2.1 : Int).toNat ((wrap64 (bt155.2.2.1 + a1)) : Int).toNat, bt155.2.1, wrap64 (bt155.2.2.1 + a1), bt155.2.2.2)) else (none)) else (none)) else (none)))) else (some ((⟨#[]⟩ : ByteArray), bt155.2.1, bt155.2.2.1, bt155.2.2.2)))
set_option maxHeartbeats 8000000 in
set_option maxRecDepth 100000 in
theorem varint_Reader_Take.calls (g : Nat) (s0_0 : ByteArray) (s0_1 : Int) (s0_2 : Int) (a1 : Int) (r1 : ByteArray) (r2 : ByteArray) (r3 : Int) (r4 : Int) (w0 w : World) (hI : IsS171 w0 w g s0_0 s0_1 s0_2) (hB : Below w0.heap.size w0 w) (h : varint_Reader_Take.f s0_0 s0_1 s0_2 a1 = some (r1, r2, r3, r4)) :
    Calls Tryd.prog 109 #[.pointer (some ⟨g, 0, none⟩), .int .i64 a1] w fun e w' => e = .returned (.string r1) ∧ IsS171 w0 w' g r2 r3 r4 ∧ Below w0.heap.size w0 w' ∧ KeepBut w w' g none := by
  have HI0 := Aside0.mk hI
  have HK := Aside0.mk (KeepBut.refl w g none)
  have HL := Aside0.mk hB.size
  clear hI
  have HW0 := Aside0.mk hB.size
  have HB := Aside0.mk hB
  clear hB
  have H : ((varint_Reader_ok.f s0_0 s0_1 s0_2).bind fun bt155 => (if bt155.1 = true then (if a1 < 0 then (some ((⟨#[]⟩ : ByteArray), bt155.2.1, bt155.2.2.1, 3)) else (if a1 > (wrap64 ((bt155.2.1.size : Int) - bt155.2.2.1)) then (some ((⟨#[]⟩ : ByteArray), bt155.2.1, bt155.2.2.1, 3)) else (if 0 ≤ bt155.2.2.1 then (if bt155.2.2.1 ≤ (wrap64 (bt155.2.2.1 + a1)) then (if (wrap64 (bt155.2.2.1 + a1)) ≤ (bt155.2.1.size : Int) then (some (bt155.2.1.extract (bt155.2.2.1 : Int).toNat ((wrap64 (bt155.2.2.1 + a1)) : Int).toNat, bt155.2.1, wrap64 (bt155.2.2.1 + a1), bt155.2.2.2)) else (none)) else (none)) else (none)))) else (some ((⟨#[]⟩ : ByteArray), bt155.2.1, bt155.2.2.1, bt155.2.2.2)))) = some (r1, r2, r3, r4) := h
  clear h
  replace H := Option.bind_eq_some_iff.mp H
  obtain ⟨⟨t155, t156, t157, t158⟩, A30, H⟩ := H
  replace H : (if t155 = true then (if a1 < 0 then (some ((⟨#[]⟩ : ByteArray), t156, t157, 3)) else (if a1 > (wrap64 ((t156.size : Int) - t157)) then (some ((⟨#[]⟩ : ByteArray), t156, t157, 3)) else (if 0 ≤ t157 then (if t157 ≤ (wrap64 (t157 + a1)) then (if (wrap64 (t157 + a1)) ≤ (t156.size : Int) then (some (t156.extract (t157 : Int).toNat ((wrap64 (t157 + a1)) : Int).toNat, t156, wrap64 (t157 + a1), t158)) else (none)) else (none)) else (none)))) else (some ((⟨#[]⟩ : ByteArray), t156, t157, t158))) = some (r1, r2, r3, r4) := H
  have A3 := Aside0.mk A30
  clear A30
  by_cases c4 : t155 = true
  · subst c4
    have H1 : (if a1 < 0 then (some ((⟨#[]⟩ : ByteArray), t156, t157, 3)) else (if a1 > (wrap64 ((t156.size : Int) - t157)) then (some ((⟨#[]⟩ : ByteArray), t156, t157, 3)) else (if 0 ≤ t157 then (if t157 ≤ (wrap64 (t157 + a1)) then (if (wrap64 (t157 + a1)) ≤ (t156.size : Int) then (some (t156.extract (t157 : Int).toNat ((wrap64 (t157 + a1)) : Int).toNat, t156, wrap64 (t157 + a1), t158)) else (none)) else (none)) else (none)))) = some (r1, r2, r3, r4) := by rw [if_pos rfl] at H; exact H
    clear H
    have H := H1
    clear H1
    by_cases c5 : a1 < 0
    · rw [if_pos c5] at H
      have c5b0 : decide (a1 < 0) = true := decide_eq_true c5
      clear c5
      simp only [Option.some.injEq, Prod.mk.injEq] at H
      obtain ⟨rfl, rfl, rfl, rfl⟩ := H
      go_enter Tryd.func109, Tryd.ntmps109
      go_wp2_with (first | (go_at_call 106; (with_reducible refine (varint_Reader_ok.calls g s0_0 s0_1 s0_2 true t156 t157 t158 w0 _ ?side1 ?side2 A3.out).mono ?_); (case side1 => repeat (first | (with_reducible first | exact HI0.out | apply IsS171.alloc | apply IsS171.drewN | apply IsS171.drew | apply IsS171.set_0 | apply IsS171.set_1 | apply IsS171.set_2) | exact HI0.out)); (case side2 => repeat (first | (with_reducible first | exact HB.out | apply below_alloc | apply pw_below_drewN | apply below_drew1 | refine below_set ?_ (IsS171.ge HI0.out)) | exact HB.out)); rintro e w6 ⟨rfl, hi, hb, hk⟩; have n0_ := Aside0.mk (KeepBut.trans (by repeat (first | (with_reducible first | exact HK.out | apply KeepBut.set_ | apply keep_drewN | apply keep_drew | apply keep_alloc) | exact HK.out)) hk (.inl rfl)); have n1_ := Aside0.mk (hb); have n2_ := Aside0.mk (hi); clear HK; clear HB; clear HI0; have HK := n0_; have HB := n1_; have HI0 := n2_; clear n0_ n1_ n2_; (try clear hb); (try clear hb2); (try clear hk); (try clear hi); obtain ⟨HGz7, hgz7⟩ := HI0.out; have hcz7_0 := cellS171_0 HGz7; have hcz7_1 := cellS171_1 HGz7; have hcz7_2 := cellS171_2 HGz7; have hfz7_0 := blk_frozen HGz7 0; have hfz7_1 := blk_frozen HGz7 1; have hfz7_2 := blk_frozen HGz7 2; clear HGz7 hgz7))
      repeat (go_quiet (first | (go_at_call 106; (with_reducible refine (varint_Reader_ok.calls g s0_0 s0_1 s0_2 true t156 t157 t158 w0 _ ?side1 ?side2 A3.out).mono ?_); (case side1 => repeat (first | (with_reducible first | exact HI0.out | apply IsS171.alloc | apply IsS171.drewN | apply IsS171.drew | apply IsS171.set_0 | apply IsS171.set_1 | apply IsS171.set_2) | exact HI0.out)); (case side2 => repeat (first | (with_reducible first | exact HB.out | apply below_alloc | apply pw_below_drewN | apply below_drew1 | refine below_set ?_ (IsS171.ge HI0.out)) | exact HB.out)); rintro e w6 ⟨rfl, hi, hb, hk⟩; have n0_ := Aside0.mk (KeepBut.trans (by repeat (first | (with_reducible first | exact HK.out | apply KeepBut.set_ | apply keep_drewN | apply keep_drew | apply keep_alloc) | exact HK.out)) hk (.inl rfl)); have n1_ := Aside0.mk (hb); have n2_ := Aside0.mk (hi); clear HK; clear HB; clear HI0; have HK := n0_; have HB := n1_; have HI0 := n2_; clear n0_ n1_ n2_; (try clear hb); (try clear hb2); (try clear hk); (try clear hi); obtain ⟨HGz7, hgz7⟩ := HI0.out; have hcz7_0 := cellS171_0 HGz7; have hcz7_1 := cellS171_1 HGz7; have hcz7_2 := cellS171_2 HGz7; have hfz7_0 := blk_frozen HGz7 0; have hfz7_1 := blk_frozen HGz7 1; have hfz7_2 := blk_frozen HGz7 2; clear HGz7 hgz7)); try go_wp2_with (first | (go_at_call 106; (with_reducible refine (varint_Reader_ok.calls g s0_0 s0_1 s0_2 true t156 t157 t158 w0 _ ?side1 ?side2 A3.out).mono ?_); (case side1 => repeat (first | (with_reducible first | exact HI0.out | apply IsS171.alloc | apply IsS171.drewN | apply IsS171.drew | apply IsS171.set_0 | apply IsS171.set_1 | apply IsS171.set_2) | exact HI0.out)); (case side2 => repeat (first | (with_reducible first | exact HB.out | apply below_alloc | apply pw_below_drewN | apply below_drew1 | refine below_set ?_ (IsS171.ge HI0.out)) | exact HB.out)); rintro e w6 ⟨rfl, hi, hb, hk⟩; have n0_ := Aside0.mk (KeepBut.trans (by repeat (first | (with_reducible first | exact HK.out | apply KeepBut.set_ | apply keep_drewN | apply keep_drew | apply keep_alloc) | exact HK.out)) hk (.inl rfl)); have n1_ := Aside0.mk (hb); have n2_ := Aside0.mk (hi); clear HK; clear HB; clear HI0; have HK := n0_; have HB := n1_; have HI0 := n2_; clear n0_ n1_ n2_; (try clear hb); (try clear hb2); (try clear hk); (try clear hi); obtain ⟨HGz7, hgz7⟩ := HI0.out; have hcz7_0 := cellS171_0 HGz7; have hcz7_1 := cellS171_1 HGz7; have hcz7_2 := cellS171_2 HGz7; have hfz7_0 := blk_frozen HGz7 0; have hfz7_1 := blk_frozen HGz7 1; have hfz7_2 := blk_frozen HGz7 2; clear HGz7 hgz7)))
      go_ret
      exact ⟨by first | rfl | (simp [errW_none, errW_some] <;> rfl) | (simp [*, errW_none, errW_some] <;> rfl), by repeat (first | (with_reducible first | exact HI0.out | apply IsS171.alloc | apply IsS171.drewN | apply IsS171.drew | apply IsS171.set_0 | apply IsS171.set_1 | apply IsS171.set_2) | exact HI0.out), by repeat (first | (with_reducible first | exact HB.out | apply below_alloc | apply pw_below_drewN | apply below_drew1 | refine below_set ?_ (IsS171.ge HI0.out)) | exact HB.out), by repeat (first | (with_reducible first | exact HK.out | apply KeepBut.set_ | apply keep_drewN | apply keep_drew | apply keep_alloc) | exact HK.out)⟩
    · rw [if_neg c5] at H
      have c5b0 : decide (a1 < 0) = false := decide_eq_false c5
      clear c5
      by_cases c8 : a1 > (wrap64 ((t156.size : Int) - t157))
      · rw [if_pos c8] at H
        have c8b0 : decide ((wrap64 ((t156.size : Int) - t157)) < a1) = true := decide_eq_true c8
        clear c8
        simp only [Option.some.injEq, Prod.mk.injEq] at H
        obtain ⟨rfl, rfl, rfl, rfl⟩ := H
        go_enter Tryd.func109, Tryd.ntmps109
        go_wp2_with (first | (go_at_call 106; (with_reducible refine (varint_Reader_ok.calls g s0_0 s0_1 s0_2 true t156 t157 t158 w0 _ ?side1 ?side2 A3.out).mono ?_); (case side1 => repeat (first | (with_reducible first | exact HI0.out | apply IsS171.alloc | apply IsS171.drewN | apply IsS171.drew | apply IsS171.set_0 | apply IsS171.set_1 | apply IsS171.set_2) | exact HI0.out)); (case side2 => repeat (first | (with_reducible first | exact HB.out | apply below_alloc | apply pw_below_drewN | apply below_drew1 | refine below_set ?_ (IsS171.ge HI0.out)) | exact HB.out)); rintro e w9 ⟨rfl, hi, hb, hk⟩; have n0_ := Aside0.mk (KeepBut.trans (by repeat (first | (with_reducible first | exact HK.out | apply KeepBut.set_ | apply keep_drewN | apply keep_drew | apply keep_alloc) | exact HK.out)) hk (.inl rfl)); have n1_ := Aside0.mk (hb); have n2_ := Aside0.mk (hi); clear HK; clear HB; clear HI0; have HK := n0_; have HB := n1_; have HI0 := n2_; clear n0_ n1_ n2_; (try clear hb); (try clear hb2); (try clear hk); (try clear hi); obtain ⟨HGz10, hgz10⟩ := HI0.out; have hcz10_0 := cellS171_0 HGz10; have hcz10_1 := cellS171_1 HGz10; have hcz10_2 := cellS171_2 HGz10; have hfz10_0 := blk_frozen HGz10 0; have hfz10_1 := blk_frozen HGz10 1; have hfz10_2 := blk_frozen HGz10 2; clear HGz10 hgz10))
        repeat (go_quiet (first | (go_at_call 106; (with_reducible refine (varint_Reader_ok.calls g s0_0 s0_1 s0_2 true t156 t157 t158 w0 _ ?side1 ?side2 A3.out).mono ?_); (case side1 => repeat (first | (with_reducible first | exact HI0.out | apply IsS171.alloc | apply IsS171.drewN | apply IsS171.drew | apply IsS171.set_0 | apply IsS171.set_1 | apply IsS171.set_2) | exact HI0.out)); (case side2 => repeat (first | (with_reducible first | exact HB.out | apply below_alloc | apply pw_below_drewN | apply below_drew1 | refine below_set ?_ (IsS171.ge HI0.out)) | exact HB.out)); rintro e w9 ⟨rfl, hi, hb, hk⟩; have n0_ := Aside0.mk (KeepBut.trans (by repeat (first | (with_reducible first | exact HK.out | apply KeepBut.set_ | apply keep_drewN | apply keep_drew | apply keep_alloc) | exact HK.out)) hk (.inl rfl)); have n1_ := Aside0.mk (hb); have n2_ := Aside0.mk (hi); clear HK; clear HB; clear HI0; have HK := n0_; have HB := n1_; have HI0 := n2_; clear n0_ n1_ n2_; (try clear hb); (try clear hb2); (try clear hk); (try clear hi); obtain ⟨HGz10, hgz10⟩ := HI0.out; have hcz10_0 := cellS171_0 HGz10; have hcz10_1 := cellS171_1 HGz10; have hcz10_2 := cellS171_2 HGz10; have hfz10_0 := blk_frozen HGz10 0; have hfz10_1 := blk_frozen HGz10 1; have hfz10_2 := blk_frozen HGz10 2; clear HGz10 hgz10)); try go_wp2_with (first | (go_at_call 106; (with_reducible refine (varint_Reader_ok.calls g s0_0 s0_1 s0_2 true t156 t157 t158 w0 _ ?side1 ?side2 A3.out).mono ?_); (case side1 => repeat (first | (with_reducible first | exact HI0.out | apply IsS171.alloc | apply IsS171.drewN | apply IsS171.drew | apply IsS171.set_0 | apply IsS171.set_1 | apply IsS171.set_2) | exact HI0.out)); (case side2 => repeat (first | (with_reducible first | exact HB.out | apply below_alloc | apply pw_below_drewN | apply below_drew1 | refine below_set ?_ (IsS171.ge HI0.out)) | exact HB.out)); rintro e w9 ⟨rfl, hi, hb, hk⟩; have n0_ := Aside0.mk (KeepBut.trans (by repeat (first | (with_reducible first | exact HK.out | apply KeepBut.set_ | apply keep_drewN | apply keep_drew | apply keep_alloc) | exact HK.out)) hk (.inl rfl)); have n1_ := Aside0.mk (hb); have n2_ := Aside0.mk (hi); clear HK; clear HB; clear HI0; have HK := n0_; have HB := n1_; have HI0 := n2_; clear n0_ n1_ n2_; (try clear hb); (try clear hb2); (try clear hk); (try clear hi); obtain ⟨HGz10, hgz10⟩ := HI0.out; have hcz10_0 := cellS171_0 HGz10; have hcz10_1 := cellS171_1 HGz10; have hcz10_2 := cellS171_2 HGz10; have hfz10_0 := blk_frozen HGz10 0; have hfz10_1 := blk_frozen HGz10 1; have hfz10_2 := blk_frozen HGz10 2; clear HGz10 hgz10)))
        go_ret
        exact ⟨by first | rfl | (simp [errW_none, errW_some] <;> rfl) | (simp [*, errW_none, errW_some] <;> rfl), by repeat (first | (with_reducible first | exact HI0.out | apply IsS171.alloc | apply IsS171.drewN | apply IsS171.drew | apply IsS171.set_0 | apply IsS171.set_1 | apply IsS171.set_2) | exact HI0.out), by repeat (first | (with_reducible first | exact HB.out | apply below_alloc | apply pw_below_drewN | apply below_drew1 | refine below_set ?_ (IsS171.ge HI0.out)) | exact HB.out), by repeat (first | (with_reducible first | exact HK.out | apply KeepBut.set_ | apply keep_drewN | apply keep_drew | apply keep_alloc) | exact HK.out)⟩
      · rw [if_neg c8] at H
        have c8b0 : decide ((wrap64 ((t156.size : Int) - t157)) < a1) = false := decide_eq_false c8
        clear c8
        by_cases c11 : 0 ≤ t157
        · rw [if_pos c11] at H
          have c11b0 := eq_true c11
          have c11b1 : decide (0 ≤ t157) = true := decide_eq_true c11
          clear c11
          by_cases c12 : t157 ≤ (wrap64 (t157 + a1))
          · rw [if_pos c12] at H
            have c12b0 := eq_true c12
            have c12b1 : decide (t157 ≤ (wrap64 (t157 + a1))) = true := decide_eq_true c12
            by_cases c13 : (wrap64 (t157 + a1)) ≤ (t156.size : Int)
            · rw [if_pos c13] at H
              have c13b0 := eq_true c13
              have c13b1 : decide ((wrap64 (t157 + a1)) ≤ (t156.size : Int)) = true := decide_eq_true c13
              simp only [Option.some.injEq, Prod.mk.injEq] at H
              obtain ⟨rfl, rfl, rfl, rfl⟩ := H
              go_enter Tryd.func109, Tryd.ntmps109
              go_wp2_with (first | (go_at_call 106; (with_reducible refine (varint_Reader_ok.calls g s0_0 s0_1 s0_2 true t156 t157 t158 w0 _ ?side1 ?side2 A3.out).mono ?_); (case side1 => repeat (first | (with_reducible first | exact HI0.out | apply IsS171.alloc | apply IsS171.drewN | apply IsS171.drew | apply IsS171.set_0 | apply IsS171.set_1 | apply IsS171.set_2) | exact HI0.out)); (case side2 => repeat (first | (with_reducible first | exact HB.out | apply below_alloc | apply pw_below_drewN | apply below_drew1 | refine below_set ?_ (IsS171.ge HI0.out)) | exact HB.out)); rintro e w14 ⟨rfl, hi, hb, hk⟩; have n0_ := Aside0.mk (KeepBut.trans (by repeat (first | (with_reducible first | exact HK.out | apply KeepBut.set_ | apply keep_drewN | apply keep_drew | apply keep_alloc) | exact HK.out)) hk (.inl rfl)); have n1_ := Aside0.mk (hb); have n2_ := Aside0.mk (hi); clear HK; clear HB; clear HI0; have HK := n0_; have HB := n1_; have HI0 := n2_; clear n0_ n1_ n2_; (try clear hb); (try clear hb2); (try clear hk); (try clear hi); obtain ⟨HGz15, hgz15⟩ := HI0.out; have hcz15_0 := cellS171_0 HGz15; have hcz15_1 := cellS171_1 HGz15; have hcz15_2 := cellS171_2 HGz15; have hfz15_0 := blk_frozen HGz15 0; have hfz15_1 := blk_frozen HGz15 1; have hfz15_2 := blk_frozen HGz15 2; clear HGz15 hgz15))
              repeat (go_quiet (first | (go_at_call 106; (with_reducible refine (varint_Reader_ok.calls g s0_0 s0_1 s0_2 true t156 t157 t158 w0 _ ?side1 ?side2 A3.out).mono ?_); (case side1 => repeat (first | (with_reducible first | exact HI0.out | apply IsS171.alloc | apply IsS171.drewN | apply IsS171.drew | apply IsS171.set_0 | apply IsS171.set_1 | apply IsS171.set_2) | exact HI0.out)); (case side2 => repeat (first | (with_reducible first | exact HB.out | apply below_alloc | apply pw_below_drewN | apply below_drew1 | refine below_set ?_ (IsS171.ge HI0.out)) | exact HB.out)); rintro e w14 ⟨rfl, hi, hb, hk⟩; have n0_ := Aside0.mk (KeepBut.trans (by repeat (first | (with_reducible first | exact HK.out | apply KeepBut.set_ | apply keep_drewN | apply keep_drew | apply keep_alloc) | exact HK.out)) hk (.inl rfl)); have n1_ := Aside0.mk (hb); have n2_ := Aside0.mk (hi); clear HK; clear HB; clear HI0; have HK := n0_; have HB := n1_; have HI0 := n2_; clear n0_ n1_ n2_; (try clear hb); (try clear hb2); (try clear hk); (try clear hi); obtain ⟨HGz15, hgz15⟩ := HI0.out; have hcz15_0 := cellS171_0 HGz15; have hcz15_1 := cellS171_1 HGz15; have hcz15_2 := cellS171_2 HGz15; have hfz15_0 := blk_frozen HGz15 0; have hfz15_1 := blk_frozen HGz15 1; have hfz15_2 := blk_frozen HGz15 2; clear HGz15 hgz15)); try go_wp2_with (first | (go_at_call 106; (with_reducible refine (varint_Reader_ok.calls g s0_0 s0_1 s0_2 true t156 t157 t158 w0 _ ?side1 ?side2 A3.out).mono ?_); (case side1 => repeat (first | (with_reducible first | exact HI0.out | apply IsS171.alloc | apply IsS171.drewN | apply IsS171.drew | apply IsS171.set_0 | apply IsS171.set_1 | apply IsS171.set_2) | exact HI0.out)); (case side2 => repeat (first | (with_reducible first | exact HB.out | apply below_alloc | apply pw_below_drewN | apply below_drew1 | refine below_set ?_ (IsS171.ge HI0.out)) | exact HB.out)); rintro e w14 ⟨rfl, hi, hb, hk⟩; have n0_ := Aside0.mk (KeepBut.trans (by repeat (first | (with_reducible first | exact HK.out | apply KeepBut.set_ | apply keep_drewN | apply keep_drew | apply keep_alloc) | exact HK.out)) hk (.inl rfl)); have n1_ := Aside0.mk (hb); have n2_ := Aside0.mk (hi); clear HK; clear HB; clear HI0; have HK := n0_; have HB := n1_; have HI0 := n2_; clear n0_ n1_ n2_; (try clear hb); (try clear hb2); (try clear hk); (try clear hi); obtain ⟨HGz15, hgz15⟩ := HI0.out; have hcz15_0 := cellS171_0 HGz15; have hcz15_1 := cellS171_1 HGz15; have hcz15_2 := cellS171_2 HGz15; have hfz15_0 := blk_frozen HGz15 0; have hfz15_1 := blk_frozen HGz15 1; have hfz15_2 := blk_frozen HGz15 2; clear HGz15 hgz15)))
              go_ret
              exact ⟨by first | rfl | (simp [errW_none, errW_some] <;> rfl) | (simp [*, errW_none, errW_some] <;> rfl), by repeat (first | (with_reducible first | exact HI0.out | apply IsS171.alloc | apply IsS171.drewN | apply IsS171.drew | apply IsS171.set_0 | apply IsS171.set_1 | apply IsS171.set_2) | exact HI0.out), by repeat (first | (with_reducible first | exact HB.out | apply below_alloc | apply pw_below_drewN | apply below_drew1 | refine below_set ?_ (IsS171.ge HI0.out)) | exact HB.out), by repeat (first | (with_reducible first | exact HK.out | apply KeepBut.set_ | apply keep_drewN | apply keep_drew | apply keep_alloc) | exact HK.out)⟩
            · rw [if_neg c13] at H
              exact absurd H (by simp)
          · rw [if_neg c12] at H
            exact absurd H (by simp)
        · rw [if_neg c11] at H
          exact absurd H (by simp)
  · replace c4 := Bool.eq_false_iff.mpr c4
    subst c4
    have H1 : (some ((⟨#[]⟩ : ByteArray), t156, t157, t158)) = some (r1, r2, r3, r4) := by rw [if_neg (show ¬ (false = true) by decide)] at H; exact H
    clear H
    have H := H1
    clear H1
    simp only [Option.some.injEq, Prod.mk.injEq] at H
    obtain ⟨rfl, rfl, rfl, rfl⟩ := H
    go_enter Tryd.func109, Tryd.ntmps109
    go_wp2_with (first | (go_at_call 106; (with_reducible refine (varint_Reader_ok.calls g s0_0 s0_1 s0_2 false t156 t157 t158 w0 _ ?side1 ?side2 A3.out).mono ?_); (case side1 => repeat (first | (with_reducible first | exact HI0.out | apply IsS171.alloc | apply IsS171.drewN | apply IsS171.drew | apply IsS171.set_0 | apply IsS171.set_1 | apply IsS171.set_2) | exact HI0.out)); (case side2 => repeat (first | (with_reducible first | exact HB.out | apply below_alloc | apply pw_below_drewN | apply below_drew1 | refine below_set ?_ (IsS171.ge HI0.out)) | exact HB.out)); rintro e w16 ⟨rfl, hi, hb, hk⟩; have n0_ := Aside0.mk (KeepBut.trans (by repeat (first | (with_reducible first | exact HK.out | apply KeepBut.set_ | apply keep_drewN | apply keep_drew | apply keep_alloc) | exact HK.out)) hk (.inl rfl)); have n1_ := Aside0.mk (hb); have n2_ := Aside0.mk (hi); clear HK; clear HB; clear HI0; have HK := n0_; have HB := n1_; have HI0 := n2_; clear n0_ n1_ n2_; (try clear hb); (try clear hb2); (try clear hk); (try clear hi)))
    repeat (go_quiet (first | (go_at_call 106; (with_reducible refine (varint_Reader_ok.calls g s0_0 s0_1 s0_2 false t156 t157 t158 w0 _ ?side1 ?side2 A3.out).mono ?_); (case side1 => repeat (first | (with_reducible first | exact HI0.out | apply IsS171.alloc | apply IsS171.drewN | apply IsS171.drew | apply IsS171.set_0 | apply IsS171.set_1 | apply IsS171.set_2) | exact HI0.out)); (case side2 => repeat (first | (with_reducible first | exact HB.out | apply below_alloc | apply pw_below_drewN | apply below_drew1 | refine below_set ?_ (IsS171.ge HI0.out)) | exact HB.out)); rintro e w16 ⟨rfl, hi, hb, hk⟩; have n0_ := Aside0.mk (KeepBut.trans (by repeat (first | (with_reducible first | exact HK.out | apply KeepBut.set_ | apply keep_drewN | apply keep_drew | apply keep_alloc) | exact HK.out)) hk (.inl rfl)); have n1_ := Aside0.mk (hb); have n2_ := Aside0.mk (hi); clear HK; clear HB; clear HI0; have HK := n0_; have HB := n1_; have HI0 := n2_; clear n0_ n1_ n2_; (try clear hb); (try clear hb2); (try clear hk); (try clear hi))); try go_wp2_with (first | (go_at_call 106; (with_reducible refine (varint_Reader_ok.calls g s0_0 s0_1 s0_2 false t156 t157 t158 w0 _ ?side1 ?side2 A3.out).mono ?_); (case side1 => repeat (first | (with_reducible first | exact HI0.out | apply IsS171.alloc | apply IsS171.drewN | apply IsS171.drew | apply IsS171.set_0 | apply IsS171.set_1 | apply IsS171.set_2) | exact HI0.out)); (case side2 => repeat (first | (with_reducible first | exact HB.out | apply below_alloc | apply pw_below_drewN | apply below_drew1 | refine below_set ?_ (IsS171.ge HI0.out)) | exact HB.out)); rintro e w16 ⟨rfl, hi, hb, hk⟩; have n0_ := Aside0.mk (KeepBut.trans (by repeat (first | (with_reducible first | exact HK.out | apply KeepBut.set_ | apply keep_drewN | apply keep_drew | apply keep_alloc) | exact HK.out)) hk (.inl rfl)); have n1_ := Aside0.mk (hb); have n2_ := Aside0.mk (hi); clear HK; clear HB; clear HI0; have HK := n0_; have HB := n1_; have HI0 := n2_; clear n0_ n1_ n2_; (try clear hb); (try clear hb2); (try clear hk); (try clear hi))))
    go_ret
    exact ⟨by first | rfl | (simp [errW_none, errW_some] <;> rfl) | (simp [*, errW_none, errW_some] <;> rfl), by repeat (first | (with_reducible first | exact HI0.out | apply IsS171.alloc | apply IsS171.drewN | apply IsS171.drew | apply IsS171.set_0 | apply IsS171.set_1 | apply IsS171.set_2) | exact HI0.out), by repeat (first | (with_reducible first | exact HB.out | apply below_alloc | apply pw_below_drewN | apply below_drew1 | refine below_set ?_ (IsS171.ge HI0.out)) | exact HB.out), by repeat (first | (with_reducible first | exact HK.out | apply KeepBut.set_ | apply keep_drewN | apply keep_drew | apply keep_alloc) | exact HK.out)⟩
end Go.Proofs.YteilnbnnhocciaaDoor.K

/-! K20 -/
namespace Go.Proofs.YteilnbnnhocciaaDoor.K
open Go.RowKit Go.Proofs.YteilnbnnhocciaaDoorW.PrintWords Go.Proofs.YteilnbnnhocciaaDoorW.PrintLast Go.Proofs.YteilnbnnhocciaaDoorW.PrintMore Go.Proofs.YteilnbnnhocciaaDoorM
attribute [local go_sem] max2_int min2_int max_two min_two max_three min_three max_four min_four
set_option linter.unusedVariables false
set_option linter.unusedSimpArgs false
def varint_Reader_Text.f (s0_0 : ByteArray) (s0_1 : Int) (s0_2 : Int) (a1 : Int) : Option (ByteArray × ByteArray × Int × Int) := (varint_Reader_Num.f s0_0 s0_1 s0_2).bind fun bt159 => (if bt159.1 > (IntKind.u64.wrap (mx a1 0)) then ((varint_Reader_Fail.f bt159.2.1 bt159.2.2.1 bt159.2.2.2 5).bind fun bt163 => (some ((⟨#[]⟩ : ByteArray), bt163.1, bt163.2.1, bt163.2.2))) else ((varint_Reader_Take.f bt159.2.1 bt159.2.2.1 bt159.2.2.2 (wrap64 (bt159.1))).bind fun bt166 => (some (bt166.1, bt166.2.1, bt166.2.2.1, bt166.2.2.2))))
set_option maxHeartbeats 8000000 in
set_option maxRecDepth 100000 in
theorem varint_Reader_Text.calls (g : Nat) (s0_0 : ByteArray) (s0_1 : Int) (s0_2 : Int) (a1 : Int) (r1 : ByteArray) (r2 : ByteArray) (r3 : Int) (r4 : Int) (w0 w : World) (hI : IsS171 w0 w g s0_0 s0_1 s0_2) (hB : Below w0.heap.size w0 w) (h : varint_Reader_Text.f s0_0 s0_1 s0_2 a1 = some (r1, r2, r3, r4)) :
    Calls Tryd.prog 60 #[.pointer (some ⟨g, 0, none⟩), .int .i64 a1] w fun e w' => e = .returned (.string r1) ∧ IsS171 w0 w' g r2 r3 r4 ∧ Below w0.heap.size w0 w' ∧ KeepBut w w' g none := by
  have HI0 := Aside0.mk hI
  have HK := Aside0.mk (KeepBut.refl w g none)
  have HL := Aside0.mk hB.size
  clear hI
  have HW0 := Aside0.mk hB.size
  have HB := Aside0.mk hB
  clear hB
  have H : ((varint_Reader_Num.f s0_0 s0_1 s0_2).bind fun bt159 => (if bt159.1 > (IntKind.u64.wrap (mx a1 0)) then ((varint_Reader_Fail.f bt159.2.1 bt159.2.2.1 bt159.2.2.2 5).bind fun bt163 => (some ((⟨#[]⟩ : ByteArray), bt163.1, bt163.2.1, bt163.2.2))) else ((varint_Reader_Take.f bt159.2.1 bt159.2.2.1 bt159.2.2.2 (wrap64 (bt159.1))).bind fun bt166 => (some (bt166.1, bt166.2.1, bt166.2.2.1, bt166.2.2.2))))) = some (r1, r2, r3, r4) := h
  clear h
  replace H := Option.bind_eq_some_iff.mp H
  obtain ⟨⟨t159, t160, t161, t162⟩, A30, H⟩ := H
  replace H : (if t159 > (IntKind.u64.wrap (mx a1 0)) then ((varint_Reader_Fail.f t160 t161 t162 5).bind fun bt163 => (some ((⟨#[]⟩ : ByteArray), bt163.1, bt163.2.1, bt163.2.2))) else ((varint_Reader_Take.f t160 t161 t162 (wrap64 (t159))).bind fun bt166 => (some (bt166.1, bt166.2.1, bt166.2.2.1, bt166.2.2.2)))) = some (r1, r2, r3, r4) := H
  have A3 := Aside0.mk A30
  clear A30
  obtain ⟨ji4, hji4⟩ : ∃ j_ : Int, (mx a1 0) = j_ := ⟨_, rfl⟩
  replace H : (if t159 > (IntKind.u64.wrap (ji4)) then ((varint_Reader_Fail.f t160 t161 t162 5).bind fun bt163 => (some ((⟨#[]⟩ : ByteArray), bt163.1, bt163.2.1, bt163.2.2))) else ((varint_Reader_Take.f t160 t161 t162 (wrap64 (t159))).bind fun bt166 => (some (bt166.1, bt166.2.1, bt166.2.2.1, bt166.2.2.2)))) = some (r1, r2, r3, r4) := by first | (rw [hji4] at H; exact H) | (simp only [hji4] at H ⊢; exact H)
  (try rw [hji4] at A3)
  (try (have hji4l : 0 ≤ ji4 := by (rw [← hji4]; unfold mx; (repeat' split) <;> omega)))
  (try (have hji4m : 0 ≤ ji4 := by omega))
  have hji4_ : (if a1 < 0 then 0 else a1) = ji4 := hji4
  by_cases c5 : t159 > (IntKind.u64.wrap (ji4))
  · rw [if_pos c5] at H
    have c5b0 : decide ((IntKind.u64.wrap (ji4)) < t159) = true := decide_eq_true c5
    clear c5
    replace H := Option.bind_eq_some_iff.mp H
    obtain ⟨⟨t163, t164, t165⟩, A60, H⟩ := H
    replace H : (some ((⟨#[]⟩ : ByteArray), t163, t164, t165)) = some (r1, r2, r3, r4) := H
    have A6 := Aside0.mk A60
    clear A60
    simp only [Option.some.injEq, Prod.mk.injEq] at H
    obtain ⟨rfl, rfl, rfl, rfl⟩ := H
    go_enter Tryd.func60, Tryd.ntmps60
    go_wp2_with (first | ((with_reducible refine gate_callee (f := 56) rfl ?_); refine goesL_ (some 7) rfl rfl Tryd.func56 (by kernel_rfl) rfl #[.pointer (some ⟨g, 0, none⟩)] rfl (by (try simp only [List.map_toArray, List.map_cons, List.map_nil]); first | done | rfl | (simp only [List.length_drop, List.length_take]; rfl)) ?_; (with_reducible refine (varint_Reader_Num.calls g s0_0 s0_1 s0_2 t159 t160 t161 t162 w0 _ ?side1 ?side2 A3.out).mono ?_); (case side1 => repeat (first | (with_reducible first | exact HI0.out | apply IsS171.alloc | apply IsS171.drewN | apply IsS171.drew | apply IsS171.set_0 | apply IsS171.set_1 | apply IsS171.set_2) | exact HI0.out)); (case side2 => repeat (first | (with_reducible first | exact HB.out | apply below_alloc | apply pw_below_drewN | apply below_drew1 | refine below_set ?_ (IsS171.ge HI0.out)) | exact HB.out)); rintro e w7 ⟨rfl, hi, hb, hk⟩; refine ⟨_, rfl, ?_⟩; have n0_ := Aside0.mk (KeepBut.trans (by repeat (first | (with_reducible first | exact HK.out | apply KeepBut.set_ | apply keep_drewN | apply keep_drew | apply keep_alloc) | exact HK.out)) hk (.inl rfl)); have n1_ := Aside0.mk (hb); have n2_ := Aside0.mk (hi); clear HK; clear HB; clear HI0; have HK := n0_; have HB := n1_; have HI0 := n2_; clear n0_ n1_ n2_; (try clear hb); (try clear hb2); (try clear hk); (try clear hi)) | ((with_reducible refine gate_callee (f := 108) rfl ?_); refine goesL_ (some 14) rfl rfl Tryd.func108 (by kernel_rfl) rfl #[.pointer (some ⟨g, 0, none⟩), .int .i64 5] rfl (by (try simp only [List.map_toArray, List.map_cons, List.map_nil]); first | done | rfl | (simp only [List.length_drop, List.length_take]; rfl)) ?_; (with_reducible refine (varint_Reader_Fail.calls g t160 t161 t162 5 t163 t164 t165 w0 _ ?side1 ?side2 A6.out).mono ?_); (case side1 => repeat (first | (with_reducible first | exact HI0.out | apply IsS171.alloc | apply IsS171.drewN | apply IsS171.drew | apply IsS171.set_0 | apply IsS171.set_1 | apply IsS171.set_2) | exact HI0.out)); (case side2 => repeat (first | (with_reducible first | exact HB.out | apply below_alloc | apply pw_below_drewN | apply below_drew1 | refine below_set ?_ (IsS171.ge HI0.out)) | exact HB.out)); rintro e w8 ⟨rfl, hi, hb, hk⟩; refine ⟨_, rfl, ?_⟩; have n0_ := Aside0.mk (KeepBut.trans (by repeat (first | (with_reducible first | exact HK.out | apply KeepBut.set_ | apply keep_drewN | apply keep_drew | apply keep_alloc) | exact HK.out)) hk (.inl rfl)); have n1_ := Aside0.mk (hb); have n2_ := Aside0.mk (hi); clear HK; clear HB; clear HI0; have HK := n0_; have HB := n1_; have HI0 := n2_; clear n0_ n1_ n2_; (try clear hb); (try clear hb2); (try clear hk); (try clear hi)))
    go_ret
    exact ⟨by first | rfl | (simp [errW_none, errW_some] <;> rfl) | (simp only [← hji4]; first | rfl | (simp [errW_none, errW_some] <;> rfl)) | (simp [*, errW_none, errW_some] <;> rfl), by repeat (first | (with_reducible first | exact HI0.out | apply IsS171.alloc | apply IsS171.drewN | apply IsS171.drew | apply IsS171.set_0 | apply IsS171.set_1 | apply IsS171.set_2) | exact HI0.out), by repeat (first | (with_reducible first | exact HB.out | apply below_alloc | apply pw_below_drewN | apply below_drew1 | refine below_set ?_ (IsS171.ge HI0.out)) | exact HB.out), by repeat (first | (with_reducible first | exact HK.out | apply KeepBut.set_ | apply keep_drewN | apply keep_drew | apply keep_alloc) | exact HK.out)⟩
  · rw [if_neg c5] at H
    have c5b0 : decide ((IntKind.u64.wrap (ji4)) < t159) = false := decide_eq_false c5
    clear c5
    replace H := Option.bind_eq_some_iff.mp H
    obtain ⟨⟨t166, t167, t168, t169⟩, A90, H⟩ := H
    replace H : (some (t166, t167, t168, t169)) = some (r1, r2, r3, r4) := H
    have A9 := Aside0.mk A90
    clear A90
    simp only [Option.some.injEq, Prod.mk.injEq] at H
    obtain ⟨rfl, rfl, rfl, rfl⟩ := H
    go_enter Tryd.func60, Tryd.ntmps60
    go_wp2_with (first | ((with_reducible refine gate_callee (f := 56) rfl ?_); refine goesL_ (some 7) rfl rfl Tryd.func56 (by kernel_rfl) rfl #[.pointer (some ⟨g, 0, none⟩)] rfl (by (try simp only [List.map_toArray, List.map_cons, List.map_nil]); first | done | rfl | (simp only [List.length_drop, List.length_take]; rfl)) ?_; (with_reducible refine (varint_Reader_Num.calls g s0_0 s0_1 s0_2 t159 t160 t161 t162 w0 _ ?side1 ?side2 A3.out).mono ?_); (case side1 => repeat (first | (with_reducible first | exact HI0.out | apply IsS171.alloc | apply IsS171.drewN | apply IsS171.drew | apply IsS171.set_0 | apply IsS171.set_1 | apply IsS171.set_2) | exact HI0.out)); (case side2 => repeat (first | (with_reducible first | exact HB.out | apply below_alloc | apply pw_below_drewN | apply below_drew1 | refine below_set ?_ (IsS171.ge HI0.out)) | exact HB.out)); rintro e w10 ⟨rfl, hi, hb, hk⟩; refine ⟨_, rfl, ?_⟩; have n0_ := Aside0.mk (KeepBut.trans (by repeat (first | (with_reducible first | exact HK.out | apply KeepBut.set_ | apply keep_drewN | apply keep_drew | apply keep_alloc) | exact HK.out)) hk (.inl rfl)); have n1_ := Aside0.mk (hb); have n2_ := Aside0.mk (hi); clear HK; clear HB; clear HI0; have HK := n0_; have HB := n1_; have HI0 := n2_; clear n0_ n1_ n2_; (try clear hb); (try clear hb2); (try clear hk); (try clear hi)) | ((with_reducible refine gate_callee (f := 109) rfl ?_); refine goesL_ (some 18) rfl rfl Tryd.func109 (by kernel_rfl) rfl #[.pointer (some ⟨g, 0, none⟩), .int .i64 (wrap64 (t159))] rfl (by (try simp only [List.map_toArray, List.map_cons, List.map_nil]); first | done | rfl | (simp only [List.length_drop, List.length_take]; rfl)) ?_; (with_reducible refine (varint_Reader_Take.calls g t160 t161 t162 (wrap64 (t159)) t166 t167 t168 t169 w0 _ ?side1 ?side2 A9.out).mono ?_); (case side1 => repeat (first | (with_reducible first | exact HI0.out | apply IsS171.alloc | apply IsS171.drewN | apply IsS171.drew | apply IsS171.set_0 | apply IsS171.set_1 | apply IsS171.set_2) | exact HI0.out)); (case side2 => repeat (first | (with_reducible first | exact HB.out | apply below_alloc | apply pw_below_drewN | apply below_drew1 | refine below_set ?_ (IsS171.ge HI0.out)) | exact HB.out)); rintro e w11 ⟨rfl, hi, hb, hk⟩; refine ⟨_, rfl, ?_⟩; have n0_ := Aside0.mk (KeepBut.trans (by repeat (first | (with_reducible first | exact HK.out | apply KeepBut.set_ | apply keep_drewN | apply keep_drew | apply keep_alloc) | exact HK.out)) hk (.inl rfl)); have n1_ := Aside0.mk (hb); have n2_ := Aside0.mk (hi); clear HK; clear HB; clear HI0; have HK := n0_; have HB := n1_; have HI0 := n2_; clear n0_ n1_ n2_; (try clear hb); (try clear hb2); (try clear hk); (try clear hi)))
    go_ret
    exact ⟨by first | rfl | (simp [errW_none, errW_some] <;> rfl) | (simp only [← hji4]; first | rfl | (simp [errW_none, errW_some] <;> rfl)) | (simp [*, errW_none, errW_some] <;> rfl), by repeat (first | (with_reducible first | exact HI0.out | apply IsS171.alloc | apply IsS171.drewN | apply IsS171.drew | apply IsS171.set_0 | apply IsS171.set_1 | apply IsS171.set_2) | exact HI0.out), by repeat (first | (with_reducible first | exact HB.out | apply below_alloc | apply pw_below_drewN | apply below_drew1 | refine below_set ?_ (IsS171.ge HI0.out)) | exact HB.out), by repeat (first | (with_reducible first | exact HK.out | apply KeepBut.set_ | apply keep_drewN | apply keep_drew | apply keep_alloc) | exact HK.out)⟩
end Go.Proofs.YteilnbnnhocciaaDoor.K

/-! K17 -/
namespace Go.Proofs.YteilnbnnhocciaaDoor.K
open Go.RowKit Go.Proofs.YteilnbnnhocciaaDoorW.PrintWords Go.Proofs.YteilnbnnhocciaaDoorW.PrintLast Go.Proofs.YteilnbnnhocciaaDoorW.PrintMore Go.Proofs.YteilnbnnhocciaaDoorM
attribute [local go_sem] max2_int min2_int max_two min_two max_three min_three max_four min_four
set_option linter.unusedVariables false
set_option linter.unusedSimpArgs false
def varint_Reader_Err.f (s0_0 : ByteArray) (s0_1 : Int) (s0_2 : Int) : Option (Int × ByteArray × Int × Int) := some (s0_2, s0_0, s0_1, s0_2)
set_option maxHeartbeats 8000000 in
set_option maxRecDepth 100000 in
theorem varint_Reader_Err.calls (g : Nat) (s0_0 : ByteArray) (s0_1 : Int) (s0_2 : Int) (r1 : Int) (r2 : ByteArray) (r3 : Int) (r4 : Int) (w0 w : World) (hI : IsS171 w0 w g s0_0 s0_1 s0_2) (hB : Below w0.heap.size w0 w) (h : varint_Reader_Err.f s0_0 s0_1 s0_2 = some (r1, r2, r3, r4)) :
    Calls Tryd.prog 58 #[.pointer (some ⟨g, 0, none⟩)] w fun e w' => e = .returned (.int .i64 r1) ∧ IsS171 w0 w' g r2 r3 r4 ∧ Below w0.heap.size w0 w' ∧ KeepBut w w' g none := by
  have HI0 := Aside0.mk hI
  have HK := Aside0.mk (KeepBut.refl w g none)
  have HL := Aside0.mk hB.size
  clear hI
  have HW0 := Aside0.mk hB.size
  have HB := Aside0.mk hB
  clear hB
  have H : (some (s0_2, s0_0, s0_1, s0_2)) = some (r1, r2, r3, r4) := h
  clear h
  simp only [Option.some.injEq, Prod.mk.injEq] at H
  obtain ⟨rfl, rfl, rfl, rfl⟩ := H
  obtain ⟨HGz2, hgz2⟩ := HI0.out
  have hcz2_0 := cellS171_0 HGz2
  have hcz2_1 := cellS171_1 HGz2
  have hcz2_2 := cellS171_2 HGz2
  have hfz2_0 := blk_frozen HGz2 0
  have hfz2_1 := blk_frozen HGz2 1
  have hfz2_2 := blk_frozen HGz2 2
  clear HGz2 hgz2
  go_enter Tryd.func58, Tryd.ntmps58
  go_wp2
  go_ret
  exact ⟨by first | rfl | (simp [errW_none, errW_some] <;> rfl) | (simp [*, errW_none, errW_some] <;> rfl), by repeat (first | (with_reducible first | exact HI0.out | apply IsS171.alloc | apply IsS171.drewN | apply IsS171.drew | apply IsS171.set_0 | apply IsS171.set_1 | apply IsS171.set_2) | exact HI0.out), by repeat (first | (with_reducible first | exact HB.out | apply below_alloc | apply pw_below_drewN | apply below_drew1 | refine below_set ?_ (IsS171.ge HI0.out)) | exact HB.out), by repeat (first | (with_reducible first | exact HK.out | apply KeepBut.set_ | apply keep_drewN | apply keep_drew | apply keep_alloc) | exact HK.out)⟩
end Go.Proofs.YteilnbnnhocciaaDoor.K

/-! K21 -/
namespace Go.Proofs.YteilnbnnhocciaaDoor.K
open Go.RowKit Go.Proofs.YteilnbnnhocciaaDoorW.PrintWords Go.Proofs.YteilnbnnhocciaaDoorW.PrintLast Go.Proofs.YteilnbnnhocciaaDoorW.PrintMore Go.Proofs.YteilnbnnhocciaaDoorM
attribute [local go_sem] max2_int min2_int max_two min_two max_three min_three max_four min_four
set_option linter.unusedVariables false
set_option linter.unusedSimpArgs false
def varint_Reader_Left.f (s0_0 : ByteArray) (s0_1 : Int) (s0_2 : Int) : Option (Int × ByteArray × Int × Int) := some (wrap64 ((s0_0.size : Int) - s0_1), s0_0, s0_1, s0_2)
set_option maxHeartbeats 8000000 in
set_option maxRecDepth 100000 in
theorem varint_Reader_Left.calls (g : Nat) (s0_0 : ByteArray) (s0_1 : Int) (s0_2 : Int) (r1 : Int) (r2 : ByteArray) (r3 : Int) (r4 : Int) (w0 w : World) (hI : IsS171 w0 w g s0_0 s0_1 s0_2) (hB : Below w0.heap.size w0 w) (h : varint_Reader_Left.f s0_0 s0_1 s0_2 = some (r1, r2, r3, r4)) :
    Calls Tryd.prog 110 #[.pointer (some ⟨g, 0, none⟩)] w fun e w' => e = .returned (.int .i64 r1) ∧ IsS171 w0 w' g r2 r3 r4 ∧ Below w0.heap.size w0 w' ∧ KeepBut w w' g none := by
  have HI0 := Aside0.mk hI
  have HK := Aside0.mk (KeepBut.refl w g none)
  have HL := Aside0.mk hB.size
  clear hI
  have HW0 := Aside0.mk hB.size
  have HB := Aside0.mk hB
  clear hB
  have H : (some (wrap64 ((s0_0.size : Int) - s0_1), s0_0, s0_1, s0_2)) = some (r1, r2, r3, r4) := h
  clear h
  simp only [Option.some.injEq, Prod.mk.injEq] at H
  obtain ⟨rfl, rfl, rfl, rfl⟩ := H
  obtain ⟨HGz2, hgz2⟩ := HI0.out
  have hcz2_0 := cellS171_0 HGz2
  have hcz2_1 := cellS171_1 HGz2
  have hcz2_2 := cellS171_2 HGz2
  have hfz2_0 := blk_frozen HGz2 0
  have hfz2_1 := blk_frozen HGz2 1
  have hfz2_2 := blk_frozen HGz2 2
  clear HGz2 hgz2
  go_enter Tryd.func110, Tryd.ntmps110
  go_wp2
  repeat (go_quiet (fail); try go_wp2)
  go_ret
  exact ⟨by first | rfl | (simp [errW_none, errW_some] <;> rfl) | (simp [*, errW_none, errW_some] <;> rfl), by repeat (first | (with_reducible first | exact HI0.out | apply IsS171.alloc | apply IsS171.drewN | apply IsS171.drew | apply IsS171.set_0 | apply IsS171.set_1 | apply IsS171.set_2) | exact HI0.out), by repeat (first | (with_reducible first | exact HB.out | apply below_alloc | apply pw_below_drewN | apply below_drew1 | refine below_set ?_ (IsS171.ge HI0.out)) | exact HB.out), by repeat (first | (with_reducible first | exact HK.out | apply KeepBut.set_ | apply keep_drewN | apply keep_drew | apply keep_alloc) | exact HK.out)⟩
end Go.Proofs.YteilnbnnhocciaaDoor.K

/-! K22 -/
namespace Go.Proofs.YteilnbnnhocciaaDoor.K
open Go.RowKit Go.Proofs.YteilnbnnhocciaaDoorW.PrintWords Go.Proofs.YteilnbnnhocciaaDoorW.PrintLast Go.Proofs.YteilnbnnhocciaaDoorW.PrintMore Go.Proofs.YteilnbnnhocciaaDoorM
attribute [local go_sem] max2_int min2_int max_two min_two max_three min_three max_four min_four
set_option linter.unusedVariables false
set_option linter.unusedSimpArgs false
def varint_Reader_End.f (s0_0 : ByteArray) (s0_1 : Int) (s0_2 : Int) : Option (Int × ByteArray × Int × Int) := (varint_Reader_Err.f s0_0 s0_1 s0_2).bind fun bt170 => (if bt170.1 = 0 then ((varint_Reader_Left.f bt170.2.1 bt170.2.2.1 bt170.2.2.2).bind fun bt174 => (if bt174.1 > 0 then (some (4, bt174.2.1, bt174.2.2.1, bt174.2.2.2)) else (some (0, bt174.2.1, bt174.2.2.1, bt174.2.2.2)))) else (some (bt170.1, bt170.2.1, bt170.2.2.1, bt170.2.2.2)))
set_option maxHeartbeats 8000000 in
set_option maxRecDepth 100000 in
theorem varint_Reader_End.calls (g : Nat) (s0_0 : ByteArray) (s0_1 : Int) (s0_2 : Int) (r1 : Int) (r2 : ByteArray) (r3 : Int) (r4 : Int) (w0 w : World) (hI : IsS171 w0 w g s0_0 s0_1 s0_2) (hB : Below w0.heap.size w0 w) (h : varint_Reader_End.f s0_0 s0_1 s0_2 = some (r1, r2, r3, r4)) :
    Calls Tryd.prog 61 #[.pointer (some ⟨g, 0, none⟩)] w fun e w' => e = .returned (.int .i64 r1) ∧ IsS171 w0 w' g r2 r3 r4 ∧ Below w0.heap.size w0 w' ∧ KeepBut w w' g none := by
  have HI0 := Aside0.mk hI
  have HK := Aside0.mk (KeepBut.refl w g none)
  have HL := Aside0.mk hB.size
  clear hI
  have HW0 := Aside0.mk hB.size
  have HB := Aside0.mk hB
  clear hB
  have H : ((varint_Reader_Err.f s0_0 s0_1 s0_2).bind fun bt170 => (if bt170.1 = 0 then ((varint_Reader_Left.f bt170.2.1 bt170.2.2.1 bt170.2.2.2).bind fun bt174 => (if bt174.1 > 0 then (some (4, bt174.2.1, bt174.2.2.1, bt174.2.2.2)) else (some (0, bt174.2.1, bt174.2.2.1, bt174.2.2.2)))) else (some (bt170.1, bt170.2.1, bt170.2.2.1, bt170.2.2.2)))) = some (r1, r2, r3, r4) := h
  clear h
  replace H := Option.bind_eq_some_iff.mp H
  obtain ⟨⟨t170, t171, t172, t173⟩, A20, H⟩ := H
  replace H : (if t170 = 0 then ((varint_Reader_Left.f t171 t172 t173).bind fun bt174 => (if bt174.1 > 0 then (some (4, bt174.2.1, bt174.2.2.1, bt174.2.2.2)) else (some (0, bt174.2.1, bt174.2.2.1, bt174.2.2.2)))) else (some (t170, t171, t172, t173))) = some (r1, r2, r3, r4) := H
  have A2 := Aside0.mk A20
  clear A20
  by_cases c3 : t170 = 0
  · rw [if_pos c3] at H
    have c3b0 : (t170 == 0) = true := beq_iff_eq.mpr c3
    have c3b1 : (t170 != 0) = false := bne_eq_false_iff_eq.mpr c3
    clear c3
    replace H := Option.bind_eq_some_iff.mp H
    obtain ⟨⟨t174, t175, t176, t177⟩, A40, H⟩ := H
    replace H : (if t174 > 0 then (some (4, t175, t176, t177)) else (some (0, t175, t176, t177))) = some (r1, r2, r3, r4) := H
    have A4 := Aside0.mk A40
    clear A40
    by_cases c5 : t174 > 0
    · rw [if_pos c5] at H
      have c5b0 : decide (0 < t174) = true := decide_eq_true c5
      clear c5
      simp only [Option.some.injEq, Prod.mk.injEq] at H
      obtain ⟨rfl, rfl, rfl, rfl⟩ := H
      go_enter Tryd.func61, Tryd.ntmps61
      go_wp2_with (first | ((with_reducible refine gate_callee (f := 58) rfl ?_); refine goesL_ (some 5) rfl rfl Tryd.func58 (by kernel_rfl) rfl #[.pointer (some ⟨g, 0, none⟩)] rfl (by (try simp only [List.map_toArray, List.map_cons, List.map_nil]); first | done | rfl | (simp only [List.length_drop, List.length_take]; rfl)) ?_; (with_reducible refine (varint_Reader_Err.calls g s0_0 s0_1 s0_2 t170 t171 t172 t173 w0 _ ?side1 ?side2 A2.out).mono ?_); (case side1 => repeat (first | (with_reducible first | exact HI0.out | apply IsS171.alloc | apply IsS171.drewN | apply IsS171.drew | apply IsS171.set_0 | apply IsS171.set_1 | apply IsS171.set_2) | exact HI0.out)); (case side2 => repeat (first | (with_reducible first | exact HB.out | apply below_alloc | apply pw_below_drewN | apply below_drew1 | refine below_set ?_ (IsS171.ge HI0.out)) | exact HB.out)); rintro e w6 ⟨rfl, hi, hb, hk⟩; refine ⟨_, rfl, ?_⟩; have n0_ := Aside0.mk (KeepBut.trans (by repeat (first | (with_reducible first | exact HK.out | apply KeepBut.set_ | apply keep_drewN | apply keep_drew | apply keep_alloc) | exact HK.out)) hk (.inl rfl)); have n1_ := Aside0.mk (hb); have n2_ := Aside0.mk (hi); clear HK; clear HB; clear HI0; have HK := n0_; have HB := n1_; have HI0 := n2_; clear n0_ n1_ n2_; (try clear hb); (try clear hb2); (try clear hk); (try clear hi)) | ((with_reducible refine gate_callee (f := 110) rfl ?_); refine goesL_ (some 10) rfl rfl Tryd.func110 (by kernel_rfl) rfl #[.pointer (some ⟨g, 0, none⟩)] rfl (by (try simp only [List.map_toArray, List.map_cons, List.map_nil]); first | done | rfl | (simp only [List.length_drop, List.length_take]; rfl)) ?_; (with_reducible refine (varint_Reader_Left.calls g t171 t172 t173 t174 t175 t176 t177 w0 _ ?side1 ?side2 A4.out).mono ?_); (case side1 => repeat (first | (with_reducible first | exact HI0.out | apply IsS171.alloc | apply IsS171.drewN | apply IsS171.drew | apply IsS171.set_0 | apply IsS171.set_1 | apply IsS171.set_2) | exact HI0.out)); (case side2 => repeat (first | (with_reducible first | exact HB.out | apply below_alloc | apply pw_below_drewN | apply below_drew1 | refine below_set ?_ (IsS171.ge HI0.out)) | exact HB.out)); rintro e w7 ⟨rfl, hi, hb, hk⟩; refine ⟨_, rfl, ?_⟩; have n0_ := Aside0.mk (KeepBut.trans (by repeat (first | (with_reducible first | exact HK.out | apply KeepBut.set_ | apply keep_drewN | apply keep_drew | apply keep_alloc) | exact HK.out)) hk (.inl rfl)); have n1_ := Aside0.mk (hb); have n2_ := Aside0.mk (hi); clear HK; clear HB; clear HI0; have HK := n0_; have HB := n1_; have HI0 := n2_; clear n0_ n1_ n2_; (try clear hb); (try clear hb2); (try clear hk); (try clear hi)))
      go_ret
      exact ⟨by first | rfl | (simp [errW_none, errW_some] <;> rfl) | (simp [*, errW_none, errW_some] <;> rfl), by repeat (first | (with_reducible first | exact HI0.out | apply IsS171.alloc | apply IsS171.drewN | apply IsS171.drew | apply IsS171.set_0 | apply IsS171.set_1 | apply IsS171.set_2) | exact HI0.out), by repeat (first | (with_reducible first | exact HB.out | apply below_alloc | apply pw_below_drewN | apply below_drew1 | refine below_set ?_ (IsS171.ge HI0.out)) | exact HB.out), by repeat (first | (with_reducible first | exact HK.out | apply KeepBut.set_ | apply keep_drewN | apply keep_drew | apply keep_alloc) | exact HK.out)⟩
    · rw [if_neg c5] at H
      have c5b0 : decide (0 < t174) = false := decide_eq_false c5
      clear c5
      simp only [Option.some.injEq, Prod.mk.injEq] at H
      obtain ⟨rfl, rfl, rfl, rfl⟩ := H
      go_enter Tryd.func61, Tryd.ntmps61
      go_wp2_with (first | ((with_reducible refine gate_callee (f := 58) rfl ?_); refine goesL_ (some 5) rfl rfl Tryd.func58 (by kernel_rfl) rfl #[.pointer (some ⟨g, 0, none⟩)] rfl (by (try simp only [List.map_toArray, List.map_cons, List.map_nil]); first | done | rfl | (simp only [List.length_drop, List.length_take]; rfl)) ?_; (with_reducible refine (varint_Reader_Err.calls g s0_0 s0_1 s0_2 t170 t171 t172 t173 w0 _ ?side1 ?side2 A2.out).mono ?_); (case side1 => repeat (first | (with_reducible first | exact HI0.out | apply IsS171.alloc | apply IsS171.drewN | apply IsS171.drew | apply IsS171.set_0 | apply IsS171.set_1 | apply IsS171.set_2) | exact HI0.out)); (case side2 => repeat (first | (with_reducible first | exact HB.out | apply below_alloc | apply pw_below_drewN | apply below_drew1 | refine below_set ?_ (IsS171.ge HI0.out)) | exact HB.out)); rintro e w8 ⟨rfl, hi, hb, hk⟩; refine ⟨_, rfl, ?_⟩; have n0_ := Aside0.mk (KeepBut.trans (by repeat (first | (with_reducible first | exact HK.out | apply KeepBut.set_ | apply keep_drewN | apply keep_drew | apply keep_alloc) | exact HK.out)) hk (.inl rfl)); have n1_ := Aside0.mk (hb); have n2_ := Aside0.mk (hi); clear HK; clear HB; clear HI0; have HK := n0_; have HB := n1_; have HI0 := n2_; clear n0_ n1_ n2_; (try clear hb); (try clear hb2); (try clear hk); (try clear hi)) | ((with_reducible refine gate_callee (f := 110) rfl ?_); refine goesL_ (some 10) rfl rfl Tryd.func110 (by kernel_rfl) rfl #[.pointer (some ⟨g, 0, none⟩)] rfl (by (try simp only [List.map_toArray, List.map_cons, List.map_nil]); first | done | rfl | (simp only [List.length_drop, List.length_take]; rfl)) ?_; (with_reducible refine (varint_Reader_Left.calls g t171 t172 t173 t174 t175 t176 t177 w0 _ ?side1 ?side2 A4.out).mono ?_); (case side1 => repeat (first | (with_reducible first | exact HI0.out | apply IsS171.alloc | apply IsS171.drewN | apply IsS171.drew | apply IsS171.set_0 | apply IsS171.set_1 | apply IsS171.set_2) | exact HI0.out)); (case side2 => repeat (first | (with_reducible first | exact HB.out | apply below_alloc | apply pw_below_drewN | apply below_drew1 | refine below_set ?_ (IsS171.ge HI0.out)) | exact HB.out)); rintro e w9 ⟨rfl, hi, hb, hk⟩; refine ⟨_, rfl, ?_⟩; have n0_ := Aside0.mk (KeepBut.trans (by repeat (first | (with_reducible first | exact HK.out | apply KeepBut.set_ | apply keep_drewN | apply keep_drew | apply keep_alloc) | exact HK.out)) hk (.inl rfl)); have n1_ := Aside0.mk (hb); have n2_ := Aside0.mk (hi); clear HK; clear HB; clear HI0; have HK := n0_; have HB := n1_; have HI0 := n2_; clear n0_ n1_ n2_; (try clear hb); (try clear hb2); (try clear hk); (try clear hi)))
      go_ret
      exact ⟨by first | rfl | (simp [errW_none, errW_some] <;> rfl) | (simp [*, errW_none, errW_some] <;> rfl), by repeat (first | (with_reducible first | exact HI0.out | apply IsS171.alloc | apply IsS171.drewN | apply IsS171.drew | apply IsS171.set_0 | apply IsS171.set_1 | apply IsS171.set_2) | exact HI0.out), by repeat (first | (with_reducible first | exact HB.out | apply below_alloc | apply pw_below_drewN | apply below_drew1 | refine below_set ?_ (IsS171.ge HI0.out)) | exact HB.out), by repeat (first | (with_reducible first | exact HK.out | apply KeepBut.set_ | apply keep_drewN | apply keep_drew | apply keep_alloc) | exact HK.out)⟩
  · rw [if_neg c3] at H
    have c3b0 : (t170 == 0) = false := beq_eq_false_iff_ne.mpr c3
    have c3b1 : (t170 != 0) = true := bne_iff_ne.mpr c3
    simp only [Option.some.injEq, Prod.mk.injEq] at H
    obtain ⟨rfl, rfl, rfl, rfl⟩ := H
    go_enter Tryd.func61, Tryd.ntmps61
    go_wp2_with (first | ((with_reducible refine gate_callee (f := 58) rfl ?_); refine goesL_ (some 5) rfl rfl Tryd.func58 (by kernel_rfl) rfl #[.pointer (some ⟨g, 0, none⟩)] rfl (by (try simp only [List.map_toArray, List.map_cons, List.map_nil]); first | done | rfl | (simp only [List.length_drop, List.length_take]; rfl)) ?_; (with_reducible refine (varint_Reader_Err.calls g s0_0 s0_1 s0_2 t170 t171 t172 t173 w0 _ ?side1 ?side2 A2.out).mono ?_); (case side1 => repeat (first | (with_reducible first | exact HI0.out | apply IsS171.alloc | apply IsS171.drewN | apply IsS171.drew | apply IsS171.set_0 | apply IsS171.set_1 | apply IsS171.set_2) | exact HI0.out)); (case side2 => repeat (first | (with_reducible first | exact HB.out | apply below_alloc | apply pw_below_drewN | apply below_drew1 | refine below_set ?_ (IsS171.ge HI0.out)) | exact HB.out)); rintro e w10 ⟨rfl, hi, hb, hk⟩; refine ⟨_, rfl, ?_⟩; have n0_ := Aside0.mk (KeepBut.trans (by repeat (first | (with_reducible first | exact HK.out | apply KeepBut.set_ | apply keep_drewN | apply keep_drew | apply keep_alloc) | exact HK.out)) hk (.inl rfl)); have n1_ := Aside0.mk (hb); have n2_ := Aside0.mk (hi); clear HK; clear HB; clear HI0; have HK := n0_; have HB := n1_; have HI0 := n2_; clear n0_ n1_ n2_; (try clear hb); (try clear hb2); (try clear hk); (try clear hi)))
    go_ret
    exact ⟨by first | rfl | (simp [errW_none, errW_some] <;> rfl) | (simp [*, errW_none, errW_some] <;> rfl), by repeat (first | (with_reducible first | exact HI0.out | apply IsS171.alloc | apply IsS171.drewN | apply IsS171.drew | apply IsS171.set_0 | apply IsS171.set_1 | apply IsS171.set_2) | exact HI0.out), by repeat (first | (with_reducible first | exact HB.out | apply below_alloc | apply pw_below_drewN | apply below_drew1 | refine below_set ?_ (IsS171.ge HI0.out)) | exact HB.out), by repeat (first | (with_reducible first | exact HK.out | apply KeepBut.set_ | apply keep_drewN | apply keep_drew | apply keep_alloc) | exact HK.out)⟩
end Go.Proofs.YteilnbnnhocciaaDoor.K

/-! E2 -/
set_option linter.unusedVariables false
namespace Go.Proofs.YteilnbnnhocciaaDoor.E
open Go.RowKit Go.Proofs.YteilnbnnhocciaaDoorW.PrintWords Go.Proofs.YteilnbnnhocciaaDoorW.PrintMore Go.Proofs.YteilnbnnhocciaaDoorM Go.Proofs.YteilnbnnhocciaaDoor.K
def WF (s : ByteArray) (p : Int) : Prop := 0 ≤ p ∧ p ≤ s.size ∧ s.size ≤ 140737488351232
def left (s : ByteArray) (p : Int) : List UInt8 := s.data.toList.drop p.toNat
structure Good {α : Type} (f : ByteArray → Int → Int → Option (α × ByteArray × Int × Int)) (ser : α → List UInt8) (ok B : α → Prop) : Prop where
  total : ∀ s p e, WF s p → ∃ v p' e', f s p e = some (v, s, p', e') ∧ WF s p' ∧ B v ∧ (e' = 0 → e = 0 ∧ ok v ∧ left s p = ser v ++ left s p')
  comp : ∀ s p v rest, WF s p → ok v → left s p = ser v ++ rest → ∃ p', f s p 0 = some (v, s, p', 0) ∧ WF s p' ∧ left s p' = rest
theorem ok_f (s : ByteArray) (p e : Int) : varint_Reader_ok.f s p e = some ((e == 0), s, p, e) := rfl
theorem left_len (s : ByteArray) (p : Int) : (left s p).length = s.size - p.toNat := by simp [left]
theorem left_add {s : ByteArray} {p : Int} {l rest : List UInt8} (hw : WF s p) (h : left s p = l ++ rest) : WF s (p + l.length) ∧ left s (p + l.length) = rest := by
  have hl := left_len s p
  rw [h, List.length_append] at hl
  obtain ⟨h0, h1, h2⟩ := hw
  refine ⟨⟨by omega, by omega, h2⟩, ?_⟩
  have e : (p + (l.length : Int)).toNat = p.toNat + l.length := by omega
  rw [left, e, ← List.drop_drop]
  show List.drop l.length (left s p) = rest
  rw [h, List.drop_left]
theorem num_good : Good varint_Reader_Num.f (fun v => enc v.toNat) (fun v => 0 ≤ v ∧ v < 18446744073709551616) (fun v => 0 ≤ v ∧ v < 18446744073709551616) := by
  constructor
  · intro s p e hw
    obtain ⟨h0, h1, h2⟩ := hw
    unfold varint_Reader_Num.f
    rw [ok_f]
    simp only [Option.bind_some]
    by_cases he : e = 0
    · subst he
      rw [if_pos (by rfl)]
      rw [varint_Reader_scan.f, if_pos ⟨h0, h1, h2⟩]
      obtain ⟨q, rfl⟩ := Int.eq_ofNat_of_zero_le h0
      obtain ⟨t, ht, hr⟩ := scan_sound 9 11 s q 0 0 (by omega) (by omega) (by decide) (by omega)
      have ht' : varint_Reader_scan.l 11 s (q : Int).toNat 0 0 = some t := ht
      rw [ht']
      simp only [Option.bind_some]
      rcases hr with ⟨hz, _, _⟩ | ⟨hz, m, e1, e2, e3, e4, e5, e6⟩
      · rw [if_neg hz]
        exact ⟨_, _, _, rfl, ⟨h0, h1, h2⟩, ⟨by decide, by decide⟩, fun h => absurd h hz⟩
      · rw [if_pos hz]
        simp only [Nat.pow_zero, Nat.mul_one, Nat.zero_add, Nat.add_zero] at e1 e2 e4 e5 e6
        refine ⟨_, _, _, rfl, ?_, ?_, fun _ => ⟨by trivial, ?_, ?_⟩⟩
        · rw [e4]; exact ⟨by omega, by omega, h2⟩
        · rw [e1]; exact ⟨by omega, by omega⟩
        · rw [e1]; exact ⟨by omega, by omega⟩
        · rw [e1, e4, left, left, Int.toNat_natCast, Int.toNat_natCast, Int.toNat_natCast]; exact e6
    · have hb : (e == 0) = false := by simpa using he
      rw [hb, if_neg (by simp)]
      exact ⟨_, _, _, rfl, ⟨h0, h1, h2⟩, ⟨by decide, by decide⟩, fun h => absurd h he⟩
  · intro s p v rest hw hv hL
    have hla := left_add hw hL
    obtain ⟨h0, h1, h2⟩ := hw
    obtain ⟨q, rfl⟩ := Int.eq_ofNat_of_zero_le h0
    obtain ⟨m, rfl⟩ := Int.eq_ofNat_of_zero_le hv.1
    rw [Int.toNat_natCast] at hL hla
    unfold varint_Reader_Num.f
    rw [ok_f]
    simp only [Option.bind_some]
    rw [if_pos (by rfl), varint_Reader_scan.f, if_pos ⟨h0, h1, h2⟩]
    have hs := scan_comp 9 11 s q 0 0 m rest (by omega) (by omega) (by decide) (by simp; omega) (.inl rfl) (by simpa [left] using hL)
    have hs' : varint_Reader_scan.l 11 s (q : Int).toNat 0 0 = some (((0 + m * 128 ^ 0 : Nat) : Int), ((q + 0 + (enc m).length : Nat) : Int), 0) := hs
    rw [hs']
    simp only [Option.bind_some, if_true]
    have e : ((q + 0 + (enc m).length : Nat) : Int) = (q : Int) + ((enc m).length : Int) := by omega
    have e2 : ((0 + m * 128 ^ 0 : Nat) : Int) = (m : Int) := by simp
    rw [e, e2]
    exact ⟨_, rfl, hla⟩
theorem Good.seq {α β : Type} {f : ByteArray → Int → Int → Option (α × ByteArray × Int × Int)} {g : ByteArray → Int → Int → Option (β × ByteArray × Int × Int)} {ser : α → List UInt8} {ser' : β → List UInt8} {ok B : α → Prop} {ok' B' : β → Prop}
    (hf : Good f ser ok B) (hg : Good g ser' ok' B') : Good (fun s p e => (f s p e).bind fun t => (g t.2.1 t.2.2.1 t.2.2.2).bind fun u => some ((t.1, u.1), u.2.1, u.2.2.1, u.2.2.2)) (fun x => ser x.1 ++ ser' x.2) (fun x => ok x.1 ∧ ok' x.2) (fun x => B x.1 ∧ B' x.2) := by
  constructor
  · intro s p e hw
    obtain ⟨v, p', e', h1, hw', hb, hs⟩ := hf.total s p e hw
    obtain ⟨u, q, e2, h2, hw2, hb2, hs2⟩ := hg.total s p' e' hw'
    refine ⟨(v, u), q, e2, by simp only [h1, Option.bind_some, h2], hw2, ⟨hb, hb2⟩, fun h => ?_⟩
    obtain ⟨k1, k2, k3⟩ := hs2 h
    obtain ⟨l1, l2, l3⟩ := hs k1
    exact ⟨l1, ⟨l2, k2⟩, by rw [l3, k3, List.append_assoc]⟩
  · intro s p v rest hw hv hL
    obtain ⟨q, h1, hw1, hl1⟩ := hf.comp s p v.1 (ser' v.2 ++ rest) hw hv.1 (by rw [hL, List.append_assoc])
    obtain ⟨r, h2, hw2, hl2⟩ := hg.comp s q v.2 rest hw1 hv.2 hl1
    exact ⟨r, by simp only [h1, Option.bind_some, h2], hw2, hl2⟩
theorem Good.map {α β : Type} {f : ByteArray → Int → Int → Option (α × ByteArray × Int × Int)} {ser : α → List UInt8} {ok B : α → Prop} (hf : Good f ser ok B) (m : α → β) (n : β → α) (hm : ∀ b, m (n b) = b) (hn : ∀ a, n (m a) = a) :
    Good (fun s p e => (f s p e).bind fun t => some (m t.1, t.2.1, t.2.2.1, t.2.2.2)) (fun b => ser (n b)) (fun b => ok (n b)) (fun b => B (n b)) := by
  constructor
  · intro s p e hw
    obtain ⟨v, p', e', h1, hw', hb, hs⟩ := hf.total s p e hw
    exact ⟨m v, p', e', by simp only [h1, Option.bind_some], hw', by rw [hn]; exact hb, fun h => by rw [hn]; exact hs h⟩
  · intro s p v rest hw hv hL
    obtain ⟨q, h1, hw1, hl1⟩ := hf.comp s p (n v) rest hw hv hL
    exact ⟨q, by simp only [h1, Option.bind_some, hm], hw1, hl1⟩
theorem Good.weak {α : Type} {f : ByteArray → Int → Int → Option (α × ByteArray × Int × Int)} {ser : α → List UInt8} {ok B B' : α → Prop} (hf : Good f ser ok B) (h : ∀ a, B a → B' a) : Good f ser ok B' :=
  ⟨fun s p e hw => let ⟨v, p', e', h1, h2, h3, h4⟩ := hf.total s p e hw; ⟨v, p', e', h1, h2, h _ h3, h4⟩, hf.comp⟩
theorem Good.ext {α : Type} {f g : ByteArray → Int → Int → Option (α × ByteArray × Int × Int)} {ser : α → List UInt8} {ok B : α → Prop} (hf : Good f ser ok B) (h : ∀ s p e, g s p e = f s p e) : Good g ser ok B := by
  have : g = f := by funext s p e; exact h s p e
  rw [this]; exact hf
theorem fail_f (s : ByteArray) (p e x : Int) : varint_Reader_Fail.f s p e x = some (s, p, if e = 0 then x else e) := by
  unfold varint_Reader_Fail.f
  rw [ok_f]
  simp only [Option.bind_some]
  by_cases h : e = 0
  · subst h; rw [if_pos (by rfl), if_pos rfl]
  · rw [if_neg (by simpa using h), if_neg h]
theorem level_good : Good edit_levelOf.f (fun v => enc v.toNat) (fun v => 0 ≤ v ∧ v < 4) (fun _ => True) := by
  constructor
  · intro s p e hw
    obtain ⟨v, p', e', h1, hw', hb, hs⟩ := num_good.total s p e hw
    unfold edit_levelOf.f
    rw [h1]
    simp only [Option.bind_some]
    by_cases h4 : v ≥ 4
    · rw [if_pos h4, fail_f]
      refine ⟨_, _, _, rfl, hw', trivial, fun h => ?_⟩
      by_cases he : e' = 0
      · rw [if_pos he] at h; cases h
      · rw [if_neg he] at h; exact absurd h he
    · rw [if_neg h4]
      have hwr : wrap64 v = v := IntWalk.wrap64_in v ⟨by omega, by omega⟩
      rw [hwr]
      exact ⟨_, _, _, rfl, hw', trivial, fun h => by obtain ⟨a, b, c⟩ := hs h; exact ⟨a, ⟨b.1, by omega⟩, c⟩⟩
  · intro s p v rest hw hv hL
    obtain ⟨q, h1, hw1, hl1⟩ := num_good.comp s p v rest hw ⟨hv.1, by omega⟩ hL
    unfold edit_levelOf.f
    rw [h1]
    simp only [Option.bind_some]
    rw [if_neg (by omega), IntWalk.wrap64_in v ⟨by omega, by omega⟩]
    exact ⟨q, rfl, hw1, hl1⟩
theorem count_good : Good edit_count.f (fun v => enc v.toNat) (fun v => 0 ≤ v ∧ v ≤ 200) (fun v => 0 ≤ v ∧ v ≤ 18446744073709551615) := by
  constructor
  · intro s p e hw
    obtain ⟨v, p', e', h1, hw', hb, hs⟩ := num_good.total s p e hw
    unfold edit_count.f
    rw [h1]
    simp only [Option.bind_some]
    by_cases h4 : v > 200
    · rw [if_pos h4, fail_f]
      refine ⟨_, _, _, rfl, hw', ⟨hb.1, by omega⟩, fun h => ?_⟩
      by_cases he : e' = 0
      · rw [if_pos he] at h; cases h
      · rw [if_neg he] at h; exact absurd h he
    · rw [if_neg h4]
      exact ⟨_, _, _, rfl, hw', ⟨hb.1, by omega⟩, fun h => by obtain ⟨a, b, c⟩ := hs h; exact ⟨a, ⟨b.1, by omega⟩, c⟩⟩
  · intro s p v rest hw hv hL
    obtain ⟨q, h1, hw1, hl1⟩ := num_good.comp s p v rest hw ⟨hv.1, by omega⟩ hL
    unfold edit_count.f
    rw [h1]
    simp only [Option.bind_some]
    rw [if_neg (by omega)]
    exact ⟨q, rfl, hw1, hl1⟩
theorem wrap_in {n : Int} (h1 : -9223372036854775808 ≤ n) (h2 : n ≤ 9223372036854775807) : wrap64 n = n := IntWalk.wrap64_in n ⟨by omega, by omega⟩
theorem list_ext {s t : ByteArray} (h : s.data.toList = t.data.toList) : s = t := by
  cases s with | mk a => cases t with | mk b => congr 1; exact Array.toList_inj.1 h
theorem take_f (s : ByteArray) (p n : Int) (hw : WF s p) (hn : 0 ≤ n) (hle : n ≤ s.size - p) : varint_Reader_Take.f s p 0 n = some (s.extract p.toNat (p + n).toNat, s, p + n, 0) := by
  obtain ⟨h0, h1, h2⟩ := hw
  unfold varint_Reader_Take.f
  rw [ok_f]
  simp only [Option.bind_some]
  rw [if_pos (by rfl), if_neg (by omega), wrap_in (by omega) (by omega), if_neg (by omega), wrap_in (by omega) (by omega), if_pos h0, if_pos (by omega), if_pos (by omega)]
theorem take_bad (s : ByteArray) (p n e : Int) (hw : WF s p) (hb : e ≠ 0 ∨ n < 0 ∨ (s.size : Int) - p < n) : ∃ e', e' ≠ 0 ∧ varint_Reader_Take.f s p e n = some (⟨#[]⟩, s, p, e') := by
  obtain ⟨h0, h1, h2⟩ := hw
  unfold varint_Reader_Take.f
  rw [ok_f]
  simp only [Option.bind_some]
  by_cases he : e = 0
  · subst he
    rw [if_pos (by rfl)]
    by_cases hn : n < 0
    · rw [if_pos hn]; exact ⟨3, by decide, rfl⟩
    · rw [if_neg hn, wrap_in (by omega) (by omega), if_pos (by omega)]; exact ⟨3, by decide, rfl⟩
  · have hb : (e == 0) = false := by simpa using he
    rw [hb, if_neg (by simp)]; exact ⟨e, he, rfl⟩
theorem text_good : Good (fun s p e => varint_Reader_Text.f s p e 200) (fun t => enc t.size ++ t.data.toList) (fun t => t.size ≤ 200) (fun _ => True) := by
  have hmx : IntKind.u64.wrap (mx 200 0) = 200 := by decide
  constructor
  · intro s p e hw
    obtain ⟨v, p', e', h1, hw', hb, hs⟩ := num_good.total s p e hw
    show ∃ v p' e', varint_Reader_Text.f s p e 200 = _ ∧ _
    unfold varint_Reader_Text.f
    rw [h1]
    simp only [Option.bind_some]
    rw [hmx]
    by_cases h4 : v > 200
    · rw [if_pos h4, fail_f]
      refine ⟨_, _, _, rfl, hw', trivial, fun h => ?_⟩
      by_cases he : e' = 0
      · rw [if_pos he] at h; cases h
      · rw [if_neg he] at h; exact absurd h he
    · rw [if_neg h4, wrap_in (by omega) (by omega)]
      by_cases hok : e' = 0 ∧ v ≤ s.size - p'
      · obtain ⟨rfl, hle⟩ := hok
        obtain ⟨k1, k2, k3⟩ := hs rfl
        have hw0 := hw'
        obtain ⟨h0, h1', h2⟩ := hw'
        rw [take_f s p' v hw0 hb.1 hle]
        simp only [Option.bind_some]
        refine ⟨_, _, _, rfl, ⟨by omega, by omega, h2⟩, trivial, fun _ => ⟨k1, ?_, ?_⟩⟩
        · rw [ByteArray.size_extract]; omega
        · have hsz : (s.extract p'.toNat (p' + v).toNat).size = v.toNat := by rw [ByteArray.size_extract]; omega
          rw [k3, hsz, List.append_assoc]
          congr 1
          have e1 : (s.extract p'.toNat (p' + v).toNat).data.toList = (left s p').take v.toNat := by
            rw [Lib.extract_data, left, show (p' + v).toNat - p'.toNat = v.toNat by omega]
          rw [e1, left, left, show (p' + v).toNat = p'.toNat + v.toNat by omega, ← List.drop_drop, List.take_append_drop]
      · obtain ⟨e2, he2, ht⟩ := take_bad s p' v e' hw' (by omega)
        rw [ht]
        simp only [Option.bind_some]
        exact ⟨_, _, _, rfl, hw', trivial, fun h => absurd h he2⟩
  · intro s p t rest hw hv hL
    rw [List.append_assoc] at hL
    obtain ⟨q, h1, hw1, hl1⟩ := num_good.comp s p (t.size : Int) (t.data.toList ++ rest) hw ⟨by omega, by omega⟩ (by simpa using hL)
    show ∃ p', varint_Reader_Text.f s p 0 200 = _ ∧ _
    unfold varint_Reader_Text.f
    rw [h1]
    simp only [Option.bind_some]
    have hll := left_len s q
    rw [hl1, List.length_append] at hll
    have htl : t.data.toList.length = t.size := by simp
    have hla := left_add hw1 hl1
    rw [htl] at hla hll
    obtain ⟨h0, h1', h2⟩ := hw1
    rw [hmx, if_neg (by omega), wrap_in (by omega) (by omega), take_f s q t.size ⟨h0, h1', h2⟩ (by omega) (by omega)]
    simp only [Option.bind_some]
    have e1 : s.extract q.toNat (q + (t.size : Int)).toNat = t := by
      apply list_ext
      rw [Lib.extract_data, show (q + (t.size : Int)).toNat - q.toNat = t.size by omega]
      show (left s q).take t.size = _
      rw [hl1, ← htl, List.take_left]
    rw [e1]
    exact ⟨_, rfl, hla.1, hla.2⟩
end Go.Proofs.YteilnbnnhocciaaDoor.E

/-! K5 -/
namespace Go.Proofs.YteilnbnnhocciaaDoor.K
open Go.RowKit Go.Proofs.YteilnbnnhocciaaDoorW.PrintWords Go.Proofs.YteilnbnnhocciaaDoorW.PrintLast Go.Proofs.YteilnbnnhocciaaDoorW.PrintMore Go.Proofs.YteilnbnnhocciaaDoorM
attribute [local go_sem] max2_int min2_int max_two min_two max_three min_three max_four min_four
set_option linter.unusedVariables false
set_option linter.unusedSimpArgs false
attribute [local go_sem] gtr_run leq_run geq_run
def edit_levelB (n : Int) : Bool := decide (0 ≤ n ∧ n < 4)
def edit_keyedB (s : ByteArray) : Bool := decide (0 < s.size ∧ s.size ≤ 200)
def edit_wrong.val (lv num : Int) (least most : ByteArray) : Int :=
  if edit_levelB lv = false then 21 else if (edit_keyedB least && edit_keyedB most && !Op.bytesLess most.toList least.toList) = false then 19 else if num = 0 then 8 else 0
set_option maxHeartbeats 1000000 in
theorem edit_level.any (n : Int) (w : World) : Calls Tryd.prog 70 #[.int .i64 n] w fun e w' => e = .returned (.bool (edit_levelB n)) ∧ w = w' := by
  unfold edit_levelB
  by_cases h0 : 0 ≤ n <;> by_cases h1 : n < 4
  all_goals
    go_enter Tryd.func70, Tryd.ntmps70
    go_wp2
    go_ret
    exact ⟨by simp [h0, h1], rfl⟩
set_option maxHeartbeats 1000000 in
theorem edit_keyed.any (s : ByteArray) (w : World) : Calls Tryd.prog 113 #[.string s] w fun e w' => e = .returned (.bool (edit_keyedB s)) ∧ w = w' := by
  unfold edit_keyedB
  by_cases h0 : s.toList = []
  · have h2 := (toList_nil_iff s).1 h0
    go_enter Tryd.func113, Tryd.ntmps113
    go_wp2
    go_ret
    exact ⟨by simp [h2], rfl⟩
  · have h2 : ¬ s.size = 0 := fun h => h0 ((toList_nil_iff s).2 h)
    have h3 : s.toList.isEmpty = false := by simpa using h0
    have h4 : (s.toList == []) = false := by simpa using h0
    go_enter Tryd.func113, Tryd.ntmps113
    go_wp2
    go_ret
    exact ⟨by simp [Nat.pos_of_ne_zero h2]; omega, rfl⟩
def edit_wrong.Post (w : World) (r : Int) (e : Ending) (w' : World) : Prop := e = .returned (.int .i64 r) ∧ Below w.heap.size w w'
set_option maxHeartbeats 2000000 in
set_option maxRecDepth 100000 in
theorem edit_wrong.walk (a0_0 : Int) (a0_1 : Int) (a0_2 : Int) (a0_3 : Int) (a0_4 : ByteArray) (a0_5 : ByteArray) (w : World) :
    Calls Tryd.prog 67 #[.agg #[.int .i64 a0_0, .int .u64 a0_1, .int .u64 a0_2, .int .u64 a0_3, .string a0_4, .string a0_5]] w (edit_wrong.Post w (edit_wrong.val a0_0 a0_1 a0_4 a0_5)) := by
  have B2 := fun (o o' : Obj) => Hush.mk (((Below.refl w.heap.size w).alloc (Nat.le_refl _) o).alloc (by simp) o')
  by_cases hl : edit_levelB a0_0 = true
  · by_cases hk : edit_keyedB a0_4 = true
    · by_cases hk2 : edit_keyedB a0_5 = true
      · by_cases hg : Op.bytesLess a0_5.toList a0_4.toList = true
        · have hv : Hush (edit_wrong.val a0_0 a0_1 a0_4 a0_5 = 19) := ⟨by simp [edit_wrong.val, hl, hk, hk2, hg]⟩
          go_enter Tryd.func67, Tryd.ntmps67
          go_wp2_with fail
          refine (edit_level.any _ _).mono ?_
          rintro e w1 ⟨rfl, rfl⟩
          go_wp2_with fail
          refine (edit_keyed.any _ _).mono ?_
          rintro e w1 ⟨rfl, rfl⟩
          go_wp2_with fail
          refine (edit_keyed.any _ _).mono ?_
          rintro e w1 ⟨rfl, rfl⟩
          go_wp2
          go_ret
          exact ⟨by rw [hv.out]; rfl, (B2 _ _).out⟩
        · have hg' : Op.bytesLess a0_5.toList a0_4.toList = false := by simpa using hg
          by_cases hz : a0_1 = 0
          · have hv : Hush (edit_wrong.val a0_0 a0_1 a0_4 a0_5 = 8) := ⟨by simp [edit_wrong.val, hl, hk, hk2, hg', hz]⟩
            have hz' : (a0_1 == 0) = true := by simpa using hz
            clear hg hz
            go_enter Tryd.func67, Tryd.ntmps67
            go_wp2_with fail
            refine (edit_level.any _ _).mono ?_
            rintro e w1 ⟨rfl, rfl⟩
            go_wp2_with fail
            refine (edit_keyed.any _ _).mono ?_
            rintro e w1 ⟨rfl, rfl⟩
            go_wp2_with fail
            refine (edit_keyed.any _ _).mono ?_
            rintro e w1 ⟨rfl, rfl⟩
            go_wp2
            go_ret
            exact ⟨by rw [hv.out]; rfl, (B2 _ _).out⟩
          · have hv : Hush (edit_wrong.val a0_0 a0_1 a0_4 a0_5 = 0) := ⟨by simp [edit_wrong.val, hl, hk, hk2, hg', hz]⟩
            have hz' : (a0_1 == 0) = false := by simpa using hz
            clear hg hz
            go_enter Tryd.func67, Tryd.ntmps67
            go_wp2_with fail
            refine (edit_level.any _ _).mono ?_
            rintro e w1 ⟨rfl, rfl⟩
            go_wp2_with fail
            refine (edit_keyed.any _ _).mono ?_
            rintro e w1 ⟨rfl, rfl⟩
            go_wp2_with fail
            refine (edit_keyed.any _ _).mono ?_
            rintro e w1 ⟨rfl, rfl⟩
            go_wp2
            go_ret
            exact ⟨by rw [hv.out]; rfl, (B2 _ _).out⟩
      · have hk2' : edit_keyedB a0_5 = false := by simpa using hk2
        have hv : Hush (edit_wrong.val a0_0 a0_1 a0_4 a0_5 = 19) := ⟨by simp [edit_wrong.val, hl, hk, hk2']⟩
        clear hk2
        go_enter Tryd.func67, Tryd.ntmps67
        go_wp2_with fail
        refine (edit_level.any _ _).mono ?_
        rintro e w1 ⟨rfl, rfl⟩
        go_wp2_with fail
        refine (edit_keyed.any _ _).mono ?_
        rintro e w1 ⟨rfl, rfl⟩
        go_wp2_with fail
        refine (edit_keyed.any _ _).mono ?_
        rintro e w1 ⟨rfl, rfl⟩
        go_wp2
        go_ret
        exact ⟨by rw [hv.out]; rfl, (B2 _ _).out⟩
    · have hk' : edit_keyedB a0_4 = false := by simpa using hk
      have hv : Hush (edit_wrong.val a0_0 a0_1 a0_4 a0_5 = 19) := ⟨by simp [edit_wrong.val, hl, hk']⟩
      clear hk
      go_enter Tryd.func67, Tryd.ntmps67
      go_wp2_with fail
      refine (edit_level.any _ _).mono ?_
      rintro e w1 ⟨rfl, rfl⟩
      go_wp2_with fail
      refine (edit_keyed.any _ _).mono ?_
      rintro e w1 ⟨rfl, rfl⟩
      go_wp2
      go_ret
      exact ⟨by rw [hv.out]; rfl, (B2 _ _).out⟩
  · have hl' : edit_levelB a0_0 = false := by simpa using hl
    have hv : Hush (edit_wrong.val a0_0 a0_1 a0_4 a0_5 = 21) := ⟨by simp [edit_wrong.val, hl']⟩
    clear hl
    go_enter Tryd.func67, Tryd.ntmps67
    go_wp2_with fail
    refine (edit_level.any _ _).mono ?_
    rintro e w1 ⟨rfl, rfl⟩
    go_wp2
    go_ret
    exact ⟨by rw [hv.out]; rfl, (B2 _ _).out⟩
end Go.Proofs.YteilnbnnhocciaaDoor.K

/-! K6 -/
namespace Go.Proofs.YteilnbnnhocciaaDoor.K
open Go.RowKit Go.Proofs.YteilnbnnhocciaaDoorW.PrintWords Go.Proofs.YteilnbnnhocciaaDoorW.PrintLast Go.Proofs.YteilnbnnhocciaaDoorW.PrintMore Go.Proofs.YteilnbnnhocciaaDoorM
attribute [local go_sem] max2_int min2_int max_two min_two max_three min_three max_four min_four
set_option linter.unusedVariables false
set_option linter.unusedSimpArgs false
def edit_goneB (g : S111) : Bool := !edit_levelB g.f0
def edit_firstWrong : List S107 → Int
  | [] => 0
  | a :: r => if edit_wrong.val a.f0 a.f1.f0 a.f1.f3 a.f1.f4 = 0 then edit_firstWrong r else edit_wrong.val a.f0 a.f1.f0 a.f1.f3 a.f1.f4
def edit_Edit_Check.val (come : List S107) (gone : List S111) : Int :=
  if 200 < come.length ∨ 200 < gone.length then 6 else if edit_firstWrong come ≠ 0 then edit_firstWrong come else if gone.any edit_goneB then 21 else 0
def edit_Edit_Check.f (a0_0 : Int) (a0_1 : Int) (a0_2 : Int) (l0_3 : List (S107)) (l0_4 : List (S111)) : Option (Int) := some (edit_Edit_Check.val l0_3 l0_4)
set_option maxHeartbeats 1000000 in
theorem edit_check1.any (a b : Int) (w : World) : Calls Tryd.prog 69 #[.agg #[.int .i64 a, .int .u64 b]] w fun e w' => e = .returned (.bool (!edit_levelB a)) ∧ Below w.heap.size w w' := by
  have B1 := fun (o : Obj) => Hush.mk ((Below.refl w.heap.size w).alloc (Nat.le_refl _) o)
  go_enter Tryd.func69, Tryd.ntmps69
  go_wp2_with fail
  refine (edit_level.any _ _).mono ?_
  rintro e w1 ⟨rfl, rfl⟩
  go_wp2
  go_ret
  exact ⟨rfl, (B1 _).out⟩
def edit_index.Post (w : World) (l : List S111) (e : Ending) (w' : World) : Prop := ∃ r : Int, e = .returned (.int .i64 r) ∧ -1 ≤ r ∧ decide (0 ≤ r) = l.any edit_goneB ∧ Below w.heap.size w w'
def edit_index.J (w : World) (l : List S111) (i : Nat) (wr : World) : Prop := i ≤ l.length ∧ (l.take i).any edit_goneB = false ∧ Below w.heap.size w wr
set_option maxHeartbeats 2000000 in
set_option maxRecDepth 100000 in
theorem edit_index.any (A : Option Addr) (c : Nat) (l : List S111) (w : World) (hr : Kd.C k111 w A l.length l) :
    Calls Tryd.prog 114 #[.slice A l.length c, .func (.func 69) #[] #[]] w (edit_index.Post w l) := by
  have hlen := Kd.C_max hr
  have HR := Hush.mk hr
  clear hr
  go_enter Tryd.func114, Tryd.ntmps114
  go_wp2
  go_loopw [5, 8] (fun _ i wr => ∃ k' : Nat, i = .int .i64 k' ∧ edit_index.J w l k' wr) (fun _ i _ => l.length - (intOf i).toNat)
  case atStart => exact ⟨0, rfl, by omega, by simp, Below.refl _ _⟩
  case round =>
    obtain ⟨i, rfl, hi, hany, hbl⟩ := hrel
    by_cases hlt : i < l.length
    · obtain ⟨ad, rfl, hx0, hx1⟩ := at_T111 HR.out i (by omega) (by omega)
      have hn : (i : Int).toNat = i := by omega
      rw [hn] at hx0 hx1
      have hx0' := (hbl.cell (World.block_lt_of_cell? w _ hx0)).trans hx0
      have hx1' := (hbl.cell (World.block_lt_of_cell? w _ hx1)).trans hx1
      obtain ⟨g, hg⟩ : ∃ g, g = rd_T111 l i := ⟨_, rfl⟩
      rw [← hg] at hx0' hx1'
      have hgl : g = l[i] := by rw [hg]; simp [rd_T111, List.getD, hlt]
      have HG := Hush.mk hgl
      clear hx0 hx1 hn hg hgl
      have HA := Hush.mk hany
      clear hany
      have hsn : (l.take (i + 1)).any edit_goneB = edit_goneB g := by
        rw [List.take_succ_eq_append_getElem hlt, List.any_append, HA.out, ← HG.out]; simp
      by_cases hb : edit_levelB g.f0 = true
      · have hb' : (!edit_levelB g.f0) = false := by rw [hb]; rfl
        have HS : Hush ((l.take (i + 1)).any edit_goneB = false) := ⟨by rw [hsn]; exact hb'⟩
        clear hsn hb
        go_wp2_with fail
        refine (edit_check1.any _ _ _).mono ?_
        rintro e w1 ⟨rfl, hb1⟩
        go_wp2
        go_roundw
        case rel => exact ⟨i + 1, by go_num, by omega, HS.out, hbl.trans (hb1.mono hbl.size)⟩
        case measure => simp [intOf]; omega
      · have hb' : (!edit_levelB g.f0) = true := by simpa using hb
        have HS : Hush (l.any edit_goneB = true) := ⟨by
          rw [← List.take_append_drop (i + 1) l, List.any_append, hsn]
          have : edit_goneB g = true := hb'
          rw [this]; rfl⟩
        clear hsn hb
        go_wp2_with fail
        refine (edit_check1.any _ _ _).mono ?_
        rintro e w1 ⟨rfl, hb1⟩
        go_wp2
        go_ret
        exact ⟨i, rfl, by omega, by rw [HS.out]; simp, hbl.trans (hb1.mono hbl.size)⟩
    · have HA := Hush.mk hany
      clear hany
      go_wp2
      go_ret
      have := HA.out
      rw [List.take_of_length_le (by omega)] at this
      exact ⟨-1, rfl, by omega, by rw [this]; rfl, hbl⟩
def edit_contains.Post (w : World) (l : List S111) (e : Ending) (w' : World) : Prop := e = .returned (.bool (l.any edit_goneB)) ∧ Below w.heap.size w w'
set_option maxHeartbeats 1000000 in
theorem edit_contains.any (A : Option Addr) (c : Nat) (l : List S111) (w : World) (hr : Kd.C k111 w A l.length l) :
    Calls Tryd.prog 68 #[.slice A l.length c, .func (.func 69) #[] #[]] w (edit_contains.Post w l) := by
  have HR := Hush.mk hr
  clear hr
  go_enter Tryd.func68, Tryd.ntmps68
  go_wp2_with fail
  refine (edit_index.any _ _ _ _ HR.out).mono ?_
  rintro e w1 ⟨r, rfl, hr1, hr2, hb⟩
  have HR2 := Hush.mk hr2
  clear hr2
  go_wp2
  go_ret
  exact ⟨by rw [← HR2.out]; rfl, hb⟩
def edit_Edit_Check.Post (w : World) (r : Int) (e : Ending) (w' : World) : Prop := e = .returned (.int .i64 r) ∧ Below w.heap.size w w'
def edit_Edit_Check.J (w : World) (l : List S107) (i : Nat) (wr : World) : Prop := i ≤ l.length ∧ edit_firstWrong l = edit_firstWrong (l.drop i) ∧ Below w.heap.size w wr
set_option maxHeartbeats 3000000 in
set_option maxRecDepth 100000 in
theorem edit_Edit_Check.walk (a0_0 : Int) (a0_1 : Int) (a0_2 : Int) (A0_3 : Option Addr) (c0_3 : Nat) (l0_3 : List (S107)) (A0_4 : Option Addr) (c0_4 : Nat) (l0_4 : List (S111)) (w : World) (hr0_3 : Kd.C k107 w A0_3 l0_3.length l0_3) (hr0_4 : Kd.C k111 w A0_4 l0_4.length l0_4) :
    Calls Tryd.prog 20 #[.agg #[.int .u64 a0_0, .int .u64 a0_1, .int .u64 a0_2, .slice A0_3 l0_3.length c0_3, .slice A0_4 l0_4.length c0_4]] w (edit_Edit_Check.Post w (edit_Edit_Check.val l0_3 l0_4)) := by
  have hlen := Kd.C_max hr0_3
  have hlen4 := Kd.C_max hr0_4
  have B1 := fun (o : Obj) => Hush.mk ((Below.refl w.heap.size w).alloc (Nat.le_refl _) o)
  have HR3 := Hush.mk hr0_3
  have HR4 := Hush.mk hr0_4
  clear hr0_3 hr0_4
  by_cases h3 : 200 < l0_3.length
  · have hv : Hush (edit_Edit_Check.val l0_3 l0_4 = 6) := ⟨by rw [edit_Edit_Check.val, if_pos (.inl h3)]⟩
    go_enter Tryd.func20, Tryd.ntmps20
    go_wp2
    go_ret
    exact ⟨by rw [hv.out]; rfl, (B1 _).out⟩
  · by_cases h4 : 200 < l0_4.length
    · have hv : Hush (edit_Edit_Check.val l0_3 l0_4 = 6) := ⟨by rw [edit_Edit_Check.val, if_pos (.inr h4)]⟩
      go_enter Tryd.func20, Tryd.ntmps20
      go_wp2
      go_ret
      exact ⟨by rw [hv.out]; rfl, (B1 _).out⟩
    · go_enter Tryd.func20, Tryd.ntmps20
      go_wp2
      have hk : Below w.heap.size w (w.alloc (.cells #[.int .u64 a0_0, .int .u64 a0_1, .int .u64 a0_2, .slice A0_3 l0_3.length c0_3, .slice A0_4 l0_4.length c0_4] 26)) := (B1 _).out
      have hcell4 : (w.alloc (.cells #[.int .u64 a0_0, .int .u64 a0_1, .int .u64 a0_2, .slice A0_3 l0_3.length c0_3, .slice A0_4 l0_4.length c0_4] 26)).cell? ⟨w.heap.size, 4, none⟩ = some (.slice A0_4 l0_4.length c0_4) := by
        rw [World.cell?_alloc_at _ _ _ _ rfl]; rfl
      obtain ⟨W, hW⟩ : ∃ W, W = w.alloc (.cells #[.int .u64 a0_0, .int .u64 a0_1, .int .u64 a0_2, .slice A0_3 l0_3.length c0_3, .slice A0_4 l0_4.length c0_4] 26) := ⟨_, rfl⟩
      have hWs : W.heap.size = w.heap.size + 1 := by rw [hW]; simp
      rw [← hW] at hk hcell4 ⊢
      have HW := Hush.mk hW
      have HWs := Hush.mk hWs
      clear hW hWs B1
      go_loopw [4, 5, 19] (fun _ _ i wr => ∃ k' : Nat, i = .int .i64 k' ∧ edit_Edit_Check.J W l0_3 k' wr) (fun _ _ i _ => l0_3.length - (intOf i).toNat)
      case atStart => exact ⟨0, rfl, by omega, by simp, Below.refl _ _⟩
      case round =>
        obtain ⟨i, rfl, hi, hfw, hbl⟩ := hrel
        by_cases hlt : i < l0_3.length
        · obtain ⟨ad, rfl, hx0, hx1, hx2, hx3, hx4, hx5⟩ := at_T107 (Kd.C_below (Kd.C_below HR3.out (HW.out ▸ below_alloc (Below.refl _ _) _)) hbl) i (by omega) (by omega)
          have hn : (i : Int).toNat = i := by omega
          rw [hn] at hx0 hx1 hx2 hx3 hx4 hx5
          have hgl : rd_T107 l0_3 i = l0_3[i] := by simp [rd_T107, List.getD, hlt]
          rw [hgl] at hx0 hx1 hx2 hx3 hx4 hx5
          rw [List.drop_eq_getElem_cons hlt, edit_firstWrong] at hfw
          obtain ⟨a, ha⟩ : ∃ a, a = l0_3[i] := ⟨_, rfl⟩
          rw [← ha] at hx0 hx1 hx2 hx3 hx4 hx5 hfw
          clear ha hgl hn
          obtain ⟨v, hv⟩ : ∃ v, v = edit_wrong.val a.f0 a.f1.f0 a.f1.f3 a.f1.f4 := ⟨_, rfl⟩
          rw [← hv] at hfw
          have HV := Hush.mk hv
          clear hv
          by_cases hz : v = 0
          · rw [if_pos hz] at hfw
            have HF := Hush.mk hfw
            have hz' : (v == 0) = true := by simpa using hz
            have hz2 : (v != 0) = false := by simpa using hz
            clear hfw hz
            go_wp2_with fail
            refine (edit_wrong.walk _ _ _ _ _ _ _).mono ?_
            rintro e w1 ⟨he, hb1⟩
            rw [← HV.out] at he
            subst he
            go_wp2
            go_roundw
            case rel => exact ⟨i + 1, by go_num, by omega, HF.out, hbl.trans ((((Below.refl _ wr).alloc (Nat.le_refl _) _).trans (hb1.mono (by simp))).mono hbl.size)⟩
            case measure => simp [intOf]; omega
          · rw [if_neg hz] at hfw
            have hr : Hush (edit_Edit_Check.val l0_3 l0_4 = v) := ⟨by rw [edit_Edit_Check.val, if_neg (by omega), if_pos (by rw [hfw]; exact hz), hfw]⟩
            have hz' : (v == 0) = false := by simpa using hz
            have hz2 : (v != 0) = true := by simpa using hz
            clear hfw hz
            go_wp2_with fail
            refine (edit_wrong.walk _ _ _ _ _ _ _).mono ?_
            rintro e w1 ⟨he, hb1⟩
            rw [← HV.out] at he
            subst he
            go_wp2
            go_ret
            exact ⟨by rw [hr.out]; rfl, hk.trans ((hbl.trans ((((Below.refl _ wr).alloc (Nat.le_refl _) _).trans (hb1.mono (by simp))).mono hbl.size)).mono hk.size)⟩
        · have hf0 : edit_firstWrong l0_3 = 0 := by rw [hfw, List.drop_of_length_le (by omega)]; rfl
          have hv : edit_Edit_Check.val l0_3 l0_4 = if l0_4.any edit_goneB then 21 else 0 := by rw [edit_Edit_Check.val, if_neg (by omega), if_neg (by rw [hf0]; exact fun h => h rfl)]
          have hc4 := (hbl.cell (p := ⟨w.heap.size, 4, none⟩) (by rw [HWs.out]; exact Nat.lt_succ_self _)).trans hcell4
          have hb2 := hk.trans (hbl.mono hk.size)
          clear hfw hf0
          have hR4 := Hush.mk (Kd.C_below (Kd.C_below HR4.out (HW.out ▸ below_alloc (Below.refl _ _) _)) hbl)
          cases hany : l0_4.any edit_goneB
          · rw [hany] at hv
            have HV := Hush.mk hv
            have HA := Hush.mk hany
            clear hv hany
            go_wp2_with fail
            refine (edit_contains.any _ _ _ _ hR4.out).mono ?_
            rintro e w1 ⟨he, hb1⟩
            rw [HA.out] at he
            subst he
            go_wp2
            go_ret
            exact ⟨by rw [HV.out]; rfl, hb2.trans (hb1.mono hb2.size)⟩
          · rw [hany] at hv
            have HV := Hush.mk hv
            have HA := Hush.mk hany
            clear hv hany
            go_wp2_with fail
            refine (edit_contains.any _ _ _ _ hR4.out).mono ?_
            rintro e w1 ⟨he, hb1⟩
            rw [HA.out] at he
            subst he
            go_wp2
            go_ret
            exact ⟨by rw [HV.out]; rfl, hb2.trans (hb1.mono hb2.size)⟩
theorem edit_Edit_Check.calls (a0_0 : Int) (a0_1 : Int) (a0_2 : Int) (A0_3 : Option Addr) (c0_3 : Nat) (l0_3 : List (S107)) (A0_4 : Option Addr) (c0_4 : Nat) (l0_4 : List (S111)) (r : Int) (w : World) (hr0_3 : Kd.C k107 w A0_3 l0_3.length l0_3) (hc0_3 : l0_3.length ≤ c0_3) (hr0_4 : Kd.C k111 w A0_4 l0_4.length l0_4) (hc0_4 : l0_4.length ≤ c0_4) (h : edit_Edit_Check.f a0_0 a0_1 a0_2 l0_3 l0_4 = some r) :
    Calls Tryd.prog 20 #[.agg #[.int .u64 a0_0, .int .u64 a0_1, .int .u64 a0_2, .slice A0_3 l0_3.length c0_3, .slice A0_4 l0_4.length c0_4]] w fun e w' => e = .returned (.int .i64 r) ∧ Below w.heap.size w w' := by
  obtain rfl := Option.some.inj h
  exact edit_Edit_Check.walk _ _ _ _ _ _ _ _ _ _ hr0_3 hr0_4
end Go.Proofs.YteilnbnnhocciaaDoor.K
