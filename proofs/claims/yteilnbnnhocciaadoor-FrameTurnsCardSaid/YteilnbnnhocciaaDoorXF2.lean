/- FrameTurns answers true for every row of texts, every place and every turn handed in: behind a byte of the last record's turned, that isn't one of its lengths, all records ahead of it are told, and it isn't; no condition beyond the card's own. (part 2 of 5; packed by program out of the texts named below) -/
import Derived.Test.YteilnbnnhocciaaDoorXF1
import Derived.Below
import Derived.WalkKit
import Derived.ScopeJumps
import Derived.RowKit
import Derived.Laws.BytesArg
import Derived.Laws.Strings
import Derived.Laws.OwnMore
import Derived.Test.YteilnbnnhocciaaDoorProg
import Derived.Shelf.Strings.Builder1
import Derived.KernelRfl
import Derived.Laws.Externs
import Derived.Shelf.Strings.Repeat
import Derived.Shelf.Strings.Trim
import Derived.Deep.Draws
import Derived.Deep.AppendLies
import Derived.Maps.AppendAt
import Derived.OwnWalk
import Derived.Laws.MakeOwn
import Derived.Deep.OwnRows
import Derived.Tactics
import Derived.Lib.ConvBytes
import Derived.Laws.Slices
import Derived.RowKit3
import Derived.Deep.LoopGhost
import Derived.Deep.QuietTactic
import Derived.BigQuiet
import Derived.WideLaws
import Derived.Deep.DeepCutAuto
import Derived.Deep.CutBlock
import Derived.Deep.RegionHeld3
import Derived.Laws.Rows
import Derived.Lib.AppendStr
import Derived.ArgAppend
import Derived.Laws.IdiomCopy
import Derived.OrdersHeld
import Derived.Laws.BitsLemmas
import Derived.Deep.WholeRow
import Derived.Laws.BitsAllLaws
import Derived.RangeFuncNested
import Derived.RangeFuncBound
import Derived.RangeFuncCalls
import Derived.RangeFuncLeaves
import Derived.Shelf.Abstract
import Derived.Shelf.RegionOpen
import Derived.OwnWalkIn
import Derived.TacticsInMore
import Derived.LoopNIn
import Derived.LoopIn

/-! M0 -/
set_option linter.unusedVariables false
namespace Go.Proofs.YteilnbnnhocciaaDoorM
open Go.RowKit
structure Hush (p : Prop) : Prop where mk :: (out : p)
theorem Exit.jump_mono {l : Nat} {J J' : Act → World → Prop} {Q : Exit → Act → World → Prop} (h : ∀ a w, J a w → J' a w) : ∀ e a w, Exit.jump l J Q e a w → Exit.jump l J' Q e a w := by
  intro e a w hq
  cases e with
  | goto l' => exact ⟨hq.1, h _ _ hq.2⟩
  | _ => exact hq
theorem wp_scope_first {P : Program} {a : Act} {w : World} {Q : Exit → Act → World → Prop} {c R : Code} (l : Nat) (J : Act → World → Prop) (μ : Act → World → Nat) (hf : findLabel c l = some (Code.skip.seq R))
    (pass : ∀ a w, J a w → R.wp P (Exit.jump l (fun a' w' => J a' w' ∧ μ a' w' < μ a w) Q) a w)
    (first : Hush (∀ a w, J a w → R.wp P (Exit.jump l J Q) a w) → c.wp P (Exit.jump l J Q) a w) : (Code.scope c).wp P Q a w :=
  wp_scope_jumps l J μ hf (first ⟨fun a w hj => wp_mono (pass a w hj) (Exit.jump_mono fun _ _ h => h.1)⟩) fun a w hj => wp_seq (wp_skip (pass a w hj))
end Go.Proofs.YteilnbnnhocciaaDoorM

/-! M1 -/
set_option linter.unusedVariables false
namespace Go.Proofs
open Go.Shelf
def Tryd.lays169_ren : Go.Shelf.Ren := ⟨fun | 169 => 83 | n => n, fun | 70 => 138 | 9 => 9 | 0 => 0 | 72 => 140 | 37 => 64 | 127 => 188 | 3 => 3 | 5 => 5 | n => n, fun | n => n⟩
theorem Tryd.lays169 : Go.Proofs.Lays.n169 Tryd.prog Tryd.lays169_ren := {
  mixed := by kernel_rfl
  f169 := Tryd.func83.trans (congrArg some (by kernel_rfl))
  t0 := Tryd.underlying0
  a0 := Tryd.isAgg0
  z0 := Tryd.sizeOf0
  v0 := Tryd.zeroValue0
  t3 := Tryd.underlying3
  a3 := Tryd.isAgg3
  z3 := Tryd.sizeOf3
  v3 := Tryd.zeroValue3
  t9 := Tryd.underlying9
  a9 := Tryd.isAgg9
  z9 := Tryd.sizeOf9
  v9 := Tryd.zeroValue9
  t37 := Tryd.underlying64
  a37 := Tryd.isAgg64
  z37 := Tryd.sizeOf64
  v37 := Tryd.zeroValue64
  t70 := Tryd.underlying138
  a70 := Tryd.isAgg138
  z70 := Tryd.sizeOf138
  v70 := Tryd.zeroValue138
  t72 := Tryd.underlying140
  a72 := Tryd.isAgg140
  z72 := Tryd.sizeOf140
  v72 := Tryd.zeroValue140
  t127 := Tryd.underlying188
  a127 := Tryd.isAgg188
  z127 := Tryd.sizeOf188
  v127 := Tryd.zeroValue188 }
theorem Tryd.Builder_Extra_169 : Builder.Extra Tryd.prog Tryd.lays169_ren := {
  sizeBuilder := by kernel_rfl
  liesBuilder := by kernel_rfl
  t5 := Tryd.underlying5
  a5 := Tryd.isAgg5
  z5 := Tryd.sizeOf5
  v5 := Tryd.zeroValue5
  infoByte := by kernel_rfl
  cellsByte := by kernel_rfl
  sizeByte := by kernel_rfl
  neB5 := by decide }
open Go.RowKit in
open Go.RowKit in
open Go.RowKit in
theorem Tryd.Builder_String_any (B b : Nat) (l : List UInt8) (w : World) (h : Lib.IsBuilder 140 5 B b (Lib.byteCells l) w) (hBw : B ≤ w.heap.size) :
    Calls Tryd.prog 83 #[.pointer (some ⟨b, 0, none⟩)] w fun e w' => e = .returned (.string ⟨l.toArray⟩) ∧ Below B w w' := Any.Builder_String_any Tryd.lays169 Tryd.Builder_Extra_169 B b l w h hBw
end Go.Proofs
namespace Go.Proofs.YteilnbnnhocciaaDoorM
open Go.RowKit
theorem infoB : (Tryd.prog.info? 140).map (fun i => i.size) = some 2 := by kernel_rfl
theorem info5 : (Tryd.prog.info? 5).map (fun i => (i.zero, i.size, i.bytes)) = some (some (.int .u8 0), 1, 1) := by kernel_rfl
theorem liesB : liesAt Tryd.prog Tryd.prog.depth 140 (2 / Tryd.prog.cellsOf 140) 0 140 1 = true := by kernel_rfl
set_option maxHeartbeats 1000000 in
set_option maxRecDepth 100000 in
theorem copyCheck_used (b : Nat) (w : World) (h0 : w.cell? ⟨b, 0, none⟩ = some (.pointer (some ⟨b, 0, none⟩))) :
    Calls Tryd.prog 118 #[.pointer (some ⟨b, 0, none⟩)] w fun e w' => e = .returned (.tuple #[]) ∧ w' = w := by
  obtain ⟨j, hj, _⟩ := Option.map_eq_some_iff.1 infoB
  go_enter Tryd.func118, Tryd.ntmps118
  go_wp2
  rw [Lib.run_neq_ptr_same w _ Tryd.underlying138 hj]
  go_wp2
  go_end0
  exact ⟨rfl, rfl⟩
set_option maxHeartbeats 1000000 in
set_option maxRecDepth 100000 in
theorem copyCheck_fresh (b : Nat) (w : World) (h0 : w.cell? ⟨b, 0, none⟩ = some (.pointer none)) (hsh : w.shape? b = some (140, 2)) (hfz : w.frozen? ⟨b, 0, none⟩ = false) :
    Calls Tryd.prog 118 #[.pointer (some ⟨b, 0, none⟩)] w fun e w' => e = .returned (.tuple #[]) ∧ w' = w.setCell ⟨b, 0, none⟩ (.pointer (some ⟨b, 0, none⟩)) := by
  obtain ⟨j, hj, hjs⟩ := Option.map_eq_some_iff.1 infoB
  go_enter Tryd.func118, Tryd.ntmps118
  go_wp2
  rw [Lib.run_to_unsafe w ⟨b, 0, none⟩ Tryd.underlying138 Tryd.underlying203 hj (by rw [hjs]; decide) hsh (Nat.zero_lt_succ 1)]
  simp only [Result.andThen]
  rw [Oper.upon_value]
  go_wp2
  rw [run_callFunc_extern Tryd.func143 (by kernel_rfl) (by kernel_rfl) (by kernel_rfl) (e := Extern.AbiNoEscape.same) (by kernel_rfl)]
  rw [Lib.run_noEscape]
  simp only [Result.andThen]
  rw [Oper.upon_value]
  go_wp2
  rw [Lib.run_from_unsafe w ⟨b, 0, none⟩ Tryd.underlying203 Tryd.underlying138 hj hsh liesB]
  simp only [Result.andThen]
  rw [Oper.upon_value]
  go_wp2
  go_end0
  exact ⟨rfl, rfl⟩
theorem copyCheck (B b : Nat) (bs : List Value) (w : World) (h : Lib.IsBuilder 140 5 B b bs w) :
    Calls Tryd.prog 118 #[.pointer (some ⟨b, 0, none⟩)] w fun e w' => e = .returned (.tuple #[]) ∧ (Lib.BuilderAt 140 5 B b (.pointer (some ⟨b, 0, none⟩)) bs w' ∧ Below B w w') := by
  rcases h with h | h
  · refine (copyCheck_fresh b w h.cell0 h.shape h.frozen0).mono ?_
    rintro e w' ⟨rfl, rfl⟩
    exact ⟨rfl, h.used _, (Below.refl B w).setCell (p := ⟨b, 0, none⟩) h.1 _⟩
  · refine (copyCheck_used b w h.cell0).mono ?_
    rintro e w' ⟨rfl, rfl⟩
    exact ⟨rfl, h, Below.refl B _⟩
set_option maxHeartbeats 2000000 in
set_option maxRecDepth 100000 in
theorem writeString (B b : Nat) (bs : List Value) (s : ByteArray) (w : World) (h : Lib.IsBuilder 140 5 B b bs w) (hlen : bs.length + s.size ≤ 140737488355328) (hBw : B ≤ w.heap.size) :
    Calls Tryd.prog 78 #[.pointer (some ⟨b, 0, none⟩), .string s] w fun e w' => e = .returned (.tuple #[.int .i64 s.size, .nilIface]) ∧ (Lib.BuilderAt 140 5 B b (.pointer (some ⟨b, 0, none⟩)) (bs ++ Lib.strCells s) w' ∧ Below B w w') := by
  obtain ⟨i0, hi, hz0, hz1, hz2⟩ := info_parts info5
  go_enter Tryd.func78, Tryd.ntmps78
  go_wp2_with (go_at_call 118; refine (copyCheck B b bs _ h).mono ?_)
  rintro e w1 ⟨rfl, h1, hb1⟩
  obtain ⟨hB, v, hbk, hown, hne⟩ := h1
  have c0 : w1.cell? ⟨b, 0, none⟩ = some (.pointer (some ⟨b, 0, none⟩)) := by rw [Lib.cell_of_heap hbk]; rfl
  have c1 : w1.cell? ⟨b, 1, none⟩ = some v := by rw [Lib.cell_of_heap hbk]; rfl
  go_wp2_with (at_builtin; refine Lib.wpList_append_own_string _ rfl _ _ 64 9 rfl B 5 i0 Tryd.underlying64 Tryd.underlying9 hi hz0 hz1 hz2 _ _ _ rfl hown s rfl ?c3 ?c4 ?c5 ?_)
  case c3 => unfold maxLen; omega
  case c4 => omega
  case c5 => have := hb1.size; omega
  intro v' w2 hown' hgrow _
  have hlt : b < w1.heap.size := by
    rcases Nat.lt_or_ge b w1.heap.size with h' | h'
    · exact h'
    · simp [Array.getElem?_eq_none h'] at hbk
  have hb2 : w2.heap[b]? = some (.cells #[.pointer (some ⟨b, 0, none⟩), v] 140 (0, 0)) := by
    rw [hgrow.block b hlt (fun e => hne e.symm)]
    exact hbk
  have d0 : w2.cell? ⟨b, 0, none⟩ = some (.pointer (some ⟨b, 0, none⟩)) := by rw [Lib.cell_of_heap hb2]; rfl
  have d1 : w2.cell? ⟨b, 1, none⟩ = some v := by rw [Lib.cell_of_heap hb2]; rfl
  have f1 : w2.frozen? ⟨b, 1, none⟩ = false := Lib.frozen_of_heap hb2 1
  obtain ⟨ao, n', cap, rfl⟩ : ∃ ao n' cap, v' = .slice ao n' cap := by
    rcases hown'.2 with ⟨hv, _⟩ | ⟨g, cap, cur, hv, _⟩
    · exact ⟨_, _, _, hv⟩
    · exact ⟨_, _, _, hv⟩
  go_wp2
  go_ret2
  refine ⟨rfl, ?_, ?_⟩
  · exact Lib.BuilderAt.put (T := 140) (e := 5) hB hb2 (bs' := bs ++ Lib.strCells s) (by simpa [Lib.strCells_length] using hown') (by decide)
  · exact (hb1.grown hgrow (by have := hb1.size; omega) (fun k hk => (hown.lt k hk).1)).setCell (p := ⟨b, 1, none⟩) hB _
theorem builderAt_below {T e : TypeId} {B b : Nat} {p : Value} {bs : List Value} {w w1 : World} (h : Lib.BuilderAt T e B b p bs w) (hb : Below w.heap.size w w1) : Lib.BuilderAt T e B b p bs w1 := by
  obtain ⟨hB, v, hbk, hown, hne⟩ := h
  have hlt : b < w.heap.size := Lib.BuilderAt.lt ⟨hB, v, hbk, hown, hne⟩
  exact ⟨hB, v, (hb.block b hlt).trans hbk, hown.kept (row := none) ⟨hb.os, hb.tape, hb.output, hb.size, fun i hi _ => hb.block i hi⟩ (by cases v.ownBlock <;> simp), hne⟩
theorem builder_below {T e : TypeId} {B b : Nat} {bs : List Value} {w w1 : World} (h : Lib.IsBuilder T e B b bs w) (hb : Below w.heap.size w w1) : Lib.IsBuilder T e B b bs w1 :=
  h.elim (fun h => .inl (builderAt_below h hb)) (fun h => .inr (builderAt_below h hb))
end Go.Proofs.YteilnbnnhocciaaDoorM

/-! M5 -/
set_option linter.unusedVariables false
namespace Go.Proofs
open Go.Shelf Go.RowKit Go.Lib
def Tryd.lays160_ren : Go.Shelf.Ren := ⟨fun | 160 => 141 | 232 => 167 | 231 => 166 | 227 => 168 | 234 => 170 | 233 => 169 | 236 => 172 | 235 => 171 | 228 => 186 | 271 => 189 | 151 => 188 | 197 => 187 | 120 => 197 | 152 => 196 | 260 => 195 | 137 => 199 | 119 => 200 | 224 => 201 | 225 => 202 | 217 => 203 | 266 => 204 | n => n, fun | 9 => 9 | 4 => 4 | 3 => 3 | 5 => 5 | 117 => 225 | 116 => 224 | 0 => 0 | 124 => 228 | 21 => 21 | 105 => 239 | 46 => 62 | 119 => 252 | 139 => 255 | 138 => 254 | n => n, fun | 3 => 6 | 4 => 7 | n => n⟩
theorem Tryd.lays160 : Go.Proofs.Lays.n160 Tryd.prog Tryd.lays160_ren := {
  mixed := by kernel_rfl
  f119 := Tryd.func200.trans (congrArg some (by kernel_rfl))
  f120 := Tryd.func197.trans (congrArg some (by kernel_rfl))
  f137 := Tryd.func199.trans (congrArg some (by kernel_rfl))
  f151 := Tryd.func188.trans (congrArg some (by kernel_rfl))
  f152 := Tryd.func196.trans (congrArg some (by kernel_rfl))
  f160 := Tryd.func141.trans (congrArg some (by kernel_rfl))
  f197 := Tryd.func187.trans (congrArg some (by kernel_rfl))
  f217 := Tryd.func203.trans (congrArg some (by kernel_rfl))
  f224 := Tryd.func201.trans (congrArg some (by kernel_rfl))
  f225 := Tryd.func202.trans (congrArg some (by kernel_rfl))
  f227 := Tryd.func168.trans (congrArg some (by kernel_rfl))
  f228 := Tryd.func186.trans (congrArg some (by kernel_rfl))
  f231 := Tryd.func166.trans (congrArg some (by kernel_rfl))
  f232 := Tryd.func167.trans (congrArg some (by kernel_rfl))
  f233 := Tryd.func169.trans (congrArg some (by kernel_rfl))
  f234 := Tryd.func170.trans (congrArg some (by kernel_rfl))
  f235 := Tryd.func171.trans (congrArg some (by kernel_rfl))
  f236 := Tryd.func172.trans (congrArg some (by kernel_rfl))
  f260 := Tryd.func195.trans (congrArg some (by kernel_rfl))
  f266 := Tryd.func204.trans (congrArg some (by kernel_rfl))
  f271 := Tryd.func189.trans (congrArg some (by kernel_rfl))
  t0 := Tryd.underlying0
  a0 := Tryd.isAgg0
  z0 := Tryd.sizeOf0
  v0 := Tryd.zeroValue0
  t3 := Tryd.underlying3
  a3 := Tryd.isAgg3
  z3 := Tryd.sizeOf3
  v3 := Tryd.zeroValue3
  t4 := Tryd.underlying4
  a4 := Tryd.isAgg4
  z4 := Tryd.sizeOf4
  v4 := Tryd.zeroValue4
  t5 := Tryd.underlying5
  a5 := Tryd.isAgg5
  z5 := Tryd.sizeOf5
  v5 := Tryd.zeroValue5
  t9 := Tryd.underlying9
  a9 := Tryd.isAgg9
  z9 := Tryd.sizeOf9
  v9 := Tryd.zeroValue9
  t21 := Tryd.underlying21
  a21 := Tryd.isAgg21
  z21 := Tryd.sizeOf21
  v21 := Tryd.zeroValue21
  t46 := Tryd.underlying62
  a46 := Tryd.isAgg62
  z46 := Tryd.sizeOf62
  v46 := Tryd.zeroValue62
  t105 := Tryd.underlying239
  a105 := Tryd.isAgg239
  z105 := Tryd.sizeOf239
  v105 := Tryd.zeroValue239
  t116 := Tryd.underlying224
  a116 := Tryd.isAgg224
  z116 := Tryd.sizeOf224
  t117 := Tryd.underlying225
  a117 := Tryd.isAgg225
  z117 := Tryd.sizeOf225
  v117 := Tryd.zeroValue225
  t119 := Tryd.underlying252
  a119 := Tryd.isAgg252
  z119 := Tryd.sizeOf252
  t124 := Tryd.underlying228
  a124 := Tryd.isAgg228
  z124 := Tryd.sizeOf228
  v124 := Tryd.zeroValue228
  t138 := Tryd.underlying254
  a138 := Tryd.isAgg254
  z138 := Tryd.sizeOf254
  v138 := Tryd.zeroValue254
  t139 := Tryd.underlying255
  a139 := Tryd.isAgg255
  z139 := Tryd.sizeOf255
  v139 := Tryd.zeroValue255
  g3 := by kernel_rfl
  g4 := by kernel_rfl }
theorem Tryd.strings_Trim_one (s : ByteArray) (c : UInt8) (hc : c.toNat < 128) (w : World) (hs : s.size ≤ 9223372036854775807) :
    Calls Tryd.prog 141 #[.string s, .string ⟨#[c]⟩] w fun e w' => e = .returned (.string ⟨(Lib.trimB s.data.toList c).toArray⟩) ∧ (w' = w ∨ w' = w.drew) := Any.strings_Trim_one Tryd.lays160 s c hc w hs
def Tryd.lays105_ren : Go.Shelf.Ren := ⟨fun | 105 => 79 | 212 => 119 | 99 => 120 | 165 => 121 | 166 => 78 | 170 => 122 | 169 => 83 | 263 => 144 | 264 => 145 | 206 => 146 | 240 => 118 | 241 => 147 | 276 => 143 | 277 => 174 | n => n, fun | 9 => 9 | 3 => 3 | 4 => 4 | 20 => 20 | 0 => 0 | 46 => 62 | 109 => 183 | 5 => 5 | 72 => 140 | 76 => 143 | 51 => 178 | 146 => 205 | 53 => 22 | 148 => 207 | 70 => 138 | 37 => 64 | 75 => 142 | 127 => 188 | 164 => 203 | 80 => 147 | n => n, fun | n => n⟩
theorem Tryd.lays105 : Go.Proofs.Lays.n105 Tryd.prog Tryd.lays105_ren := {
  mixed := by kernel_rfl
  f99 := Tryd.func120.trans (congrArg some (by kernel_rfl))
  f105 := Tryd.func79.trans (congrArg some (by kernel_rfl))
  f165 := Tryd.func121.trans (congrArg some (by kernel_rfl))
  f166 := Tryd.func78.trans (congrArg some (by kernel_rfl))
  f169 := Tryd.func83.trans (congrArg some (by kernel_rfl))
  f170 := Tryd.func122.trans (congrArg some (by kernel_rfl))
  f206 := Tryd.func146.trans (congrArg some (by kernel_rfl))
  f212 := Tryd.func119.trans (congrArg some (by kernel_rfl))
  f240 := Tryd.func118.trans (congrArg some (by kernel_rfl))
  f241 := Tryd.func147.trans (congrArg some (by kernel_rfl))
  f263 := Tryd.func144.trans (congrArg some (by kernel_rfl))
  f264 := Tryd.func145.trans (congrArg some (by kernel_rfl))
  f276 := Tryd.func143.trans (congrArg some (by kernel_rfl))
  f277 := Tryd.func174.trans (congrArg some (by kernel_rfl))
  t0 := Tryd.underlying0
  a0 := Tryd.isAgg0
  z0 := Tryd.sizeOf0
  v0 := Tryd.zeroValue0
  t3 := Tryd.underlying3
  a3 := Tryd.isAgg3
  z3 := Tryd.sizeOf3
  v3 := Tryd.zeroValue3
  t4 := Tryd.underlying4
  a4 := Tryd.isAgg4
  z4 := Tryd.sizeOf4
  v4 := Tryd.zeroValue4
  t5 := Tryd.underlying5
  a5 := Tryd.isAgg5
  z5 := Tryd.sizeOf5
  v5 := Tryd.zeroValue5
  t9 := Tryd.underlying9
  a9 := Tryd.isAgg9
  z9 := Tryd.sizeOf9
  v9 := Tryd.zeroValue9
  t20 := Tryd.underlying20
  a20 := Tryd.isAgg20
  z20 := Tryd.sizeOf20
  v20 := Tryd.zeroValue20
  t37 := Tryd.underlying64
  a37 := Tryd.isAgg64
  z37 := Tryd.sizeOf64
  v37 := Tryd.zeroValue64
  t46 := Tryd.underlying62
  a46 := Tryd.isAgg62
  z46 := Tryd.sizeOf62
  v46 := Tryd.zeroValue62
  t51 := Tryd.underlying178
  a51 := Tryd.isAgg178
  z51 := Tryd.sizeOf178
  v51 := Tryd.zeroValue178
  t53 := Tryd.underlying22
  a53 := Tryd.isAgg22
  z53 := Tryd.sizeOf22
  v53 := Tryd.zeroValue22
  t70 := Tryd.underlying138
  a70 := Tryd.isAgg138
  z70 := Tryd.sizeOf138
  v70 := Tryd.zeroValue138
  t72 := Tryd.underlying140
  a72 := Tryd.isAgg140
  z72 := Tryd.sizeOf140
  v72 := Tryd.zeroValue140
  t75 := Tryd.underlying142
  a75 := Tryd.isAgg142
  z75 := Tryd.sizeOf142
  v75 := Tryd.zeroValue142
  t76 := Tryd.underlying143
  a76 := Tryd.isAgg143
  z76 := Tryd.sizeOf143
  v76 := Tryd.zeroValue143
  t109 := Tryd.underlying183
  a109 := Tryd.isAgg183
  z109 := Tryd.sizeOf183
  v109 := Tryd.zeroValue183
  t127 := Tryd.underlying188
  a127 := Tryd.isAgg188
  z127 := Tryd.sizeOf188
  v127 := Tryd.zeroValue188
  t146 := Tryd.underlying205
  a146 := Tryd.isAgg205
  z146 := Tryd.sizeOf205
  v146 := Tryd.zeroValue205
  t148 := Tryd.underlying207
  a148 := Tryd.isAgg207
  z148 := Tryd.sizeOf207
  v148 := Tryd.zeroValue207
  t164 := Tryd.underlying203
  a164 := Tryd.isAgg203
  z164 := Tryd.sizeOf203
  v164 := Tryd.zeroValue203 }
theorem Tryd.Builder_Extra_105 : Builder.Extra Tryd.prog Tryd.lays105_ren := {
  sizeBuilder := by kernel_rfl
  liesBuilder := by kernel_rfl
  t5 := Tryd.underlying5
  a5 := Tryd.isAgg5
  z5 := Tryd.sizeOf5
  v5 := Tryd.zeroValue5
  infoByte := by kernel_rfl
  cellsByte := by kernel_rfl
  sizeByte := by kernel_rfl
  neB5 := by decide }
theorem Tryd.strings_Repeat (s : ByteArray) (c : Nat) (w : World) (hc : c ≤ 9223372036854775807) (hlen : s.size * c ≤ 140737488355328) :
    Calls Tryd.prog 79 #[.string s, .int .i64 c] w fun e w' => e = .returned (.string ⟨(Lib.repeatL s.data.toList c).toArray⟩) ∧ Below w.heap.size w w' := Any.strings_Repeat Tryd.lays105 Tryd.Builder_Extra_105 s c w hc hlen
end Go.Proofs

/-! M6 -/
set_option linter.unusedVariables false
namespace Go.Proofs.YteilnbnnhocciaaDoorM
open Go.RowKit
theorem least_of (p : Nat → Prop) : (∃ k, p k) → ∃ k, p k ∧ ∀ j, j < k → ¬ p j := by
  rintro ⟨k, hk⟩
  induction k using Nat.strongRecOn with
  | _ k ih =>
    by_cases h : ∃ j, j < k ∧ p j
    · obtain ⟨j, hj, hp⟩ := h
      exact ih j hj hp
    · exact ⟨k, hk, fun j hj hp => h ⟨j, hj, hp⟩⟩
open Classical in
noncomputable def leastN (p : Nat → Prop) : Nat := if h : ∃ k, p k then Classical.choose (least_of p h) else 0
theorem leastN_spec {p : Nat → Prop} (h : ∃ k, p k) : p (leastN p) := by
  unfold leastN
  rw [dif_pos h]
  exact (Classical.choose_spec (least_of p h)).1
theorem leastN_le {p : Nat → Prop} {k : Nat} (h : p k) : leastN p ≤ k := by
  have hx : ∃ k, p k := ⟨k, h⟩
  unfold leastN
  rw [dif_pos hx]
  rcases Nat.lt_or_ge k (Classical.choose (least_of p hx)) with h2 | h2
  · exact absurd h ((Classical.choose_spec (least_of p hx)).2 k h2)
  · exact h2
theorem wp_scope_ghost {P : Program} {a : Act} {w : World} {Q : Exit → Act → World → Prop} {c R : Code} (l : Nat) (J : Nat → Act → World → Prop) (hf : findLabel c l = some (Code.skip.seq R))
    (pass : ∀ k a w, J k a w → R.wp P (Exit.jump l (fun a' w' => ∃ k', k' < k ∧ J k' a' w') Q) a w)
    (first : Hush (∀ a w, (∃ k, J k a w) → R.wp P (Exit.jump l (fun a w => ∃ k, J k a w) Q) a w) → c.wp P (Exit.jump l (fun a w => ∃ k, J k a w) Q) a w) : (Code.scope c).wp P Q a w :=
  wp_scope_first l (fun a w => ∃ k, J k a w) (fun a w => leastN fun k => J k a w) hf
    (fun a w hj => wp_mono (pass _ a w (leastN_spec hj)) (Exit.jump_mono fun a' w' ⟨k', hlt, hj'⟩ => ⟨⟨k', hj'⟩, Nat.lt_of_le_of_lt (leastN_le hj') hlt⟩)) first
end Go.Proofs.YteilnbnnhocciaaDoorM

/-! KF0 -/
namespace Go.Proofs.YteilnbnnhocciaaDoor.KF
open Go.RowKit Go.Proofs.YteilnbnnhocciaaDoorW.PrintWords Go.Proofs.YteilnbnnhocciaaDoorW.PrintLast Go.Proofs.YteilnbnnhocciaaDoorW.PrintMore Go.Proofs.YteilnbnnhocciaaDoorM
attribute [local go_sem] max2_int min2_int max_two min_two max_three min_three max_four min_four
set_option linter.unusedVariables false
set_option linter.unusedSimpArgs false
def errW : Option Int → Value
  | none => .nilIface
  | some c => .iface 0 (.int .i64 c)
theorem errW_none : errW none = .nilIface := rfl
theorem errW_some (c : Int) : errW (some c) = .iface 0 (.int .i64 c) := rfl
theorem info3 : (Tryd.prog.info? 3).map (fun i => (i.zero, i.size, i.bytes)) = some (some (.int .i64 0), 1, 8) := by kernel_rfl
theorem info5 : (Tryd.prog.info? 5).map (fun i => (i.zero, i.size, i.bytes)) = some (some (.int .u8 0), 1, 1) := by kernel_rfl
structure S55 where
  f0 : ByteArray
  f1 : Int
end Go.Proofs.YteilnbnnhocciaaDoor.KF

/-! KF3 -/
namespace Go.Proofs.YteilnbnnhocciaaDoor.KF
open Go.RowKit Go.Proofs.YteilnbnnhocciaaDoorW.PrintWords Go.Proofs.YteilnbnnhocciaaDoorW.PrintLast Go.Proofs.YteilnbnnhocciaaDoorW.PrintMore Go.Proofs.YteilnbnnhocciaaDoorM
attribute [local go_sem] max2_int min2_int max_two min_two max_three min_three max_four min_four
set_option linter.unusedVariables false
set_option linter.unusedSimpArgs false
def frame_left.f (a0 : Int) : Option (Int) := some (wrap64 (512 - (Int.tmod a0 512)))
set_option maxHeartbeats 8000000 in
set_option maxRecDepth 100000 in
theorem frame_left.calls (a0 : Int) (r : Int) (w : World) (h : frame_left.f a0 = some r) :
    Calls Tryd.prog 80 #[.int .i64 a0] w fun e w' => e = .returned (.int .i64 r) ∧ Drawn0 w w' := by
  have H : (some (wrap64 (512 - (Int.tmod a0 512)))) = some r := h
  clear h
  obtain rfl := Option.some.inj H
  go_enter Tryd.func80, Tryd.ntmps80
  go_wp2
  go_ret
  exact ⟨by first | rfl | (simp; done) | (simp [*]; done), by repeat (first | exact Drawn0.refl _ | apply Drawn0.step)⟩
end Go.Proofs.YteilnbnnhocciaaDoor.KF

/-! KF4 -/
namespace Go.Proofs.YteilnbnnhocciaaDoor.KF
open Go.RowKit Go.Proofs.YteilnbnnhocciaaDoorW.PrintWords Go.Proofs.YteilnbnnhocciaaDoorW.PrintLast Go.Proofs.YteilnbnnhocciaaDoorW.PrintMore Go.Proofs.YteilnbnnhocciaaDoorM
attribute [local go_sem] max2_int min2_int max_two min_two max_three min_three max_four min_four
set_option linter.unusedVariables false
set_option linter.unusedSimpArgs false
def frame_pad.f (a0 : Int) : Option (Int) := (frame_left.f a0).bind fun t101 => (if t101 < 7 then (some t101) else (some 0))
set_option maxHeartbeats 8000000 in
set_option maxRecDepth 100000 in
theorem frame_pad.calls (a0 : Int) (r : Int) (w : World) (h : frame_pad.f a0 = some r) :
    Calls Tryd.prog 77 #[.int .i64 a0] w fun e w' => e = .returned (.int .i64 r) ∧ Drawn0 w w' := by
  have H : ((frame_left.f a0).bind fun t101 => (if t101 < 7 then (some t101) else (some 0))) = some r := h
  clear h
  replace H := Option.bind_eq_some_iff.mp H
  obtain ⟨t101, A20, H⟩ := H
  replace H : (if t101 < 7 then (some t101) else (some 0)) = some r := H
  have A2 := Aside0.mk A20
  clear A20
  by_cases c3 : t101 < 7
  · rw [if_pos c3] at H
    have c3b0 : decide (t101 < 7) = true := decide_eq_true c3
    clear c3
    obtain rfl := Option.some.inj H
    go_enter Tryd.func77, Tryd.ntmps77
    go_wp2_with (first | ((with_reducible refine gate_callee (f := 80) rfl ?_); refine goesL_ (some 5) rfl rfl Tryd.func80 (by kernel_rfl) rfl #[.int .i64 a0] rfl (by (try simp only [List.map_toArray, List.map_cons, List.map_nil]); first | done | rfl | (simp only [List.length_drop, List.length_take]; rfl)) ?_; (with_reducible refine (frame_left.calls a0 t101 _ A2.out).mono ?_); rintro e w' ⟨rfl, ⟨nd, rfl⟩⟩; refine ⟨_, rfl, ?_⟩))
    go_ret
    exact ⟨by first | rfl | (simp; done) | (simp [*]; done), by repeat (first | exact Drawn0.refl _ | apply Drawn0.step)⟩
  · rw [if_neg c3] at H
    have c3b0 : decide (t101 < 7) = false := decide_eq_false c3
    clear c3
    obtain rfl := Option.some.inj H
    go_enter Tryd.func77, Tryd.ntmps77
    go_wp2_with (first | ((with_reducible refine gate_callee (f := 80) rfl ?_); refine goesL_ (some 5) rfl rfl Tryd.func80 (by kernel_rfl) rfl #[.int .i64 a0] rfl (by (try simp only [List.map_toArray, List.map_cons, List.map_nil]); first | done | rfl | (simp only [List.length_drop, List.length_take]; rfl)) ?_; (with_reducible refine (frame_left.calls a0 t101 _ A2.out).mono ?_); rintro e w' ⟨rfl, ⟨nd, rfl⟩⟩; refine ⟨_, rfl, ?_⟩))
    go_ret
    exact ⟨by first | rfl | (simp; done) | (simp [*]; done), by repeat (first | exact Drawn0.refl _ | apply Drawn0.step)⟩
end Go.Proofs.YteilnbnnhocciaaDoor.KF

/-! KF7 -/
namespace Go.Proofs.YteilnbnnhocciaaDoor.KF
open Go.RowKit Go.Proofs.YteilnbnnhocciaaDoorW.PrintWords Go.Proofs.YteilnbnnhocciaaDoorW.PrintLast Go.Proofs.YteilnbnnhocciaaDoorW.PrintMore Go.Proofs.YteilnbnnhocciaaDoorM
attribute [local go_sem] max2_int min2_int max_two min_two max_three min_three max_four min_four
set_option linter.unusedVariables false
set_option linter.unusedSimpArgs false
def crc_Mask.f (a0 : Int) : Option (Int) := some (((Go.bits .or .u32 (a0 / 32768) ((a0 * 131072) % 4294967296)) + 2726488792) % 4294967296)
set_option maxHeartbeats 8000000 in
set_option maxRecDepth 100000 in
theorem crc_Mask.calls (a0 : Int) (r : Int) (w : World) (h : crc_Mask.f a0 = some r) :
    Calls Tryd.prog 149 #[.int .u32 a0] w fun e w' => e = .returned (.int .u32 r) ∧ Drawn0 w w' := by
  have H : (some (((Go.bits .or .u32 (a0 / 32768) ((a0 * 131072) % 4294967296)) + 2726488792) % 4294967296)) = some r := h
  clear h
  obtain rfl := Option.some.inj H
  go_enter Tryd.func149, Tryd.ntmps149
  go_wp2
  go_ret
  exact ⟨by first | rfl | (simp; done) | (simp [*]; done), by repeat (first | exact Drawn0.refl _ | apply Drawn0.step)⟩
end Go.Proofs.YteilnbnnhocciaaDoor.KF

/-! KF8 -/
namespace Go.Proofs.YteilnbnnhocciaaDoor.KF
open Go.RowKit Go.Proofs.YteilnbnnhocciaaDoorW.PrintWords Go.Proofs.YteilnbnnhocciaaDoorW.PrintLast Go.Proofs.YteilnbnnhocciaaDoorW.PrintMore Go.Proofs.YteilnbnnhocciaaDoorM
attribute [local go_sem] max2_int min2_int max_two min_two max_three min_three max_four min_four
set_option linter.unusedVariables false
set_option linter.unusedSimpArgs false
def crc_step (n : Nat) : Nat := if n % 2 = 1 then (n / 2) ^^^ 2197175160 else n / 2
def crc_byte (n : Nat) : Nat := crc_step (crc_step (crc_step (crc_step (crc_step (crc_step (crc_step (crc_step n)))))))
def crc_steps : Nat → Nat → Nat
  | 0, n => n
  | k + 1, n => crc_steps k (crc_step n)
def crc_part (i : Nat) : Array Value := ((List.range 256).map fun j => Value.int .u32 (if j < i then (crc_byte j : Int) else 0)).toArray
theorem crc_part_size (i : Nat) : (crc_part i).size = 256 := by simp [crc_part]
theorem crc_part_set (i : Nat) (hi : i < 256) : (crc_part i).setIfInBounds i (.int .u32 (crc_byte i : Int)) = crc_part (i + 1) := by
  apply Array.ext_getElem?
  intro j
  rw [Array.getElem?_setIfInBounds, crc_part_size]
  by_cases h : i = j
  · subst h
    simp [crc_part, hi]
  · rw [if_neg h]
    unfold crc_part
    by_cases hj : j < 256
    · have h2 : (j < i + 1) = (j < i) := by apply propext; omega
      simp [hj, h2]
    · simp [hj]
theorem crc_zero : (∀ w, (zeroValue 242).run Tryd.prog w = .ok (.agg (crc_part 0)) w) ∧ (Tryd.prog.info? 242).map (·.size) = some 256 := zero_of_info (v := .agg (crc_part 0)) (by kernel_rfl)
theorem crc_one : (crc_part 256).all (·.oneCell') = true := by kernel_rfl
theorem crc_setRow_at (W : World) (g : Nat) (c c' : Array Value) (h : W.heap[g]? = some (.cells c 242 (0, 0))) : (W.setRow g c').heap[g]? = some (.cells c' 242 (0, 0)) := by
  simp [World.setRow, Array.getElem?_modify, h]
theorem crc_setRow_below (W : World) (B g : Nat) (c' : Array Value) (h : B ≤ g) : Below B W (W.setRow g c') := by
  refine ⟨rfl, rfl, rfl, by simp [World.setRow], fun k hk => ?_⟩
  simp only [World.setRow, Array.getElem?_modify]
  rw [if_neg (by omega)]
theorem crc_step_lt {n : Nat} (h : n < 4294967296) : crc_step n < 4294967296 := by
  unfold crc_step
  split
  · exact Nat.xor_lt_two_pow (n := 32) (by omega) (by decide)
  · omega
def crc_table.J (w : World) (i : Nat) (a' : Act) (w' : World) : Prop := w' = (w.alloc (.cells (crc_part 0) 242)).alloc (.cells (crc_part i) 242) ∧ ∃ (k n : Nat) (u5 u7 u9 u10 u11 u12 u13 u14 u15 u16 u17 u18 u19 u20 u21 u22 u23 u24 u25 u26 : Value),
  a' = { tmps := #[.pointer (some ⟨w.heap.size, 0, none⟩), .pointer (some ⟨w.heap.size + 1, 0, none⟩), .int .i64 (i : Nat), .int .u32 (n : Nat), .int .i64 (k : Nat), u5, .int .i64 (i : Nat), u7, .int .i64 (i : Nat), u9, u10, u11, u12, u13, u14, u15, u16, u17, u18, u19, u20, u21, u22, u23, u24, u25, u26, undef], defers := [] } ∧ k < 8 ∧ n < 4294967296 ∧ crc_steps (8 - k) n = crc_byte i
set_option maxHeartbeats 1000000 in
set_option maxRecDepth 100000 in
theorem crc_table.walk (w : World) : Calls Tryd.prog 190 #[] w fun e w' => e = .returned (.agg (crc_part 256)) ∧ Below w.heap.size w w' := by
  obtain ⟨hz, hi⟩ := crc_zero
  obtain ⟨Z, hZ⟩ : ∃ Z, Z = crc_part 0 := ⟨_, rfl⟩
  rw [← hZ] at hz
  go_enter Tryd.func190, Tryd.ntmps190
  go_wp2_with fail
  go_loopw [2, 3, 4, 5, 6] (fun _ _ _ _ i wr => ∃ k : Nat, i = .int .i64 k ∧ k ≤ 256 ∧ wr = (w.alloc (.cells (crc_part 0) 242)).alloc (.cells (crc_part k) 242)) (fun _ _ _ _ i _ => 256 - (intOf i).toNat)
  case atStart => exact ⟨0, rfl, by omega, rfl⟩
  case round =>
    obtain ⟨k, rfl, hk, rfl⟩ := hrel
    by_cases hlt : k < 256
    · go_wp2
      refine wp_scope_first 0 (crc_table.J w k) (fun a' _ => 8 - (intOf (a'.tmps.getD 4 undef)).toNat) rfl ?pass ?first
      case first =>
        intro hq
        go_wp2
        go_step3
        have hj : crc_table.J w k { tmps := #[.pointer (some ⟨w.heap.size, 0, none⟩), .pointer (some ⟨w.heap.size + 1, 0, none⟩), .int .i64 (k : Nat), .int .u32 (k : Nat), .int .i64 0, u5, .int .i64 (k : Nat), .bool (decide ((k : Int) < 256)), .int .i64 (k : Nat), .int .i64 (k : Nat), .int .u32 (k : Nat), u11, u12, u13, u14, u15, u16, u17, u18, u19, u20, u21, u22, u23, u24, u25, u26, undef], defers := [] } ((w.alloc (.cells (crc_part 0) 242)).alloc (.cells (crc_part k) 242)) :=
          ⟨rfl, 0, k, _, _, _, _, _, _, _, _, _, _, _, _, _, _, _, _, _, _, _, _, rfl, by omega, by omega, rfl⟩
        exact (by assumption : ∀ a w, Code.wp _ _ _ a w → _) _ _ (hq.out _ _ hj)
      case pass =>
        rintro a' w' ⟨rfl, j, n, u5, u7, u9, u10, u11, u12, u13, u14, u15, u16, u17, u18, u19, u20, u21, u22, u23, u24, u25, u26, rfl, hj, hn, hs⟩
        have HS := Hush.mk hs
        clear hs
        have hck : (crc_part k)[k]? = some (.int .u32 0) := by simp [crc_part, hlt]
        have hrel : ∀ m, crc_steps (8 - j) m = crc_steps (8 - (j + 1)) (crc_step m) := fun m => by
          rw [show 8 - j = (8 - (j + 1)) + 1 by omega]; rfl
        have HS2 := Hush.mk ((hrel n).symm.trans HS.out)
        have HL := Hush.mk (crc_step_lt hn)
        clear hrel HS
        have hand : Go.bits .and .u32 (n : Int) 1 = ((n % 2 : Nat) : Int) := by
          have h := u32_and_nat n 1 hn (by decide)
          rw [Nat.and_one_is_mod] at h
          exact h
        obtain ⟨s, hs⟩ : ∃ s, s = crc_step n := ⟨_, rfl⟩
        have HE := Hush.mk hs
        rw [← hs] at HS2 HL
        by_cases hodd : n % 2 = 1
        · have hb : (Go.bits .and .u32 (n : Int) 1 == 1) = true := by rw [hand, hodd]; rfl
          have hx : Go.bits .xor .u32 ((n : Int) / 2) 2197175160 = (s : Int) := by
            have h := u32_xor_nat (n / 2) 2197175160 (by omega) (by decide)
            rw [hs, crc_step, if_pos hodd]
            exact h
          clear hand hodd hs
          by_cases hlast : j + 1 < 8
          · go_wp2
            go_step3
            exact ⟨rfl, ⟨rfl, j + 1, s, _, _, _, _, _, _, _, _, _, _, _, _, _, _, _, _, _, _, _, _, rfl, hlast, HL.out, HS2.out⟩, by simp [intOf]; omega⟩
          · have he : s = crc_byte k := by have h := HS2.out; rw [show 8 - (j + 1) = 0 by omega] at h; exact h
            have HW := Hush.mk (congrArg (fun c => (w.alloc (.cells (crc_part 0) 242)).alloc (.cells c 242)) (show (crc_part k).setIfInBounds k (.int .u32 (s : Int)) = crc_part (k + 1) by rw [he, crc_part_set k hlt]))
            clear he
            go_wp2
            simp only [Exit.jump, Exit.inBlock, Exit.then]
            refine (by assumption : ∀ a w, Code.wp _ _ _ a w → _) _ _ ?_
            go_wp2
            go_roundw
            case rel => exact ⟨k + 1, by go_num, by omega, HW.out⟩
            case measure => simp [intOf]; omega
        · have hb : (Go.bits .and .u32 (n : Int) 1 == 1) = false := by rw [hand]; simp; omega
          have hx : (n : Int) / 2 = (s : Int) := by rw [hs, crc_step, if_neg hodd]; omega
          clear hand hodd hs
          by_cases hlast : j + 1 < 8
          · go_wp2
            go_step3
            exact ⟨rfl, ⟨rfl, j + 1, s, _, _, _, _, _, _, _, _, _, _, _, _, _, _, _, _, _, _, _, _, rfl, hlast, HL.out, HS2.out⟩, by simp [intOf]; omega⟩
          · have he : s = crc_byte k := by have h := HS2.out; rw [show 8 - (j + 1) = 0 by omega] at h; exact h
            have HW := Hush.mk (congrArg (fun c => (w.alloc (.cells (crc_part 0) 242)).alloc (.cells c 242)) (show (crc_part k).setIfInBounds k (.int .u32 (s : Int)) = crc_part (k + 1) by rw [he, crc_part_set k hlt]))
            clear he
            go_wp2
            simp only [Exit.jump, Exit.inBlock, Exit.then]
            refine (by assumption : ∀ a w, Code.wp _ _ _ a w → _) _ _ ?_
            go_wp2
            go_roundw
            case rel => exact ⟨k + 1, by go_num, by omega, HW.out⟩
            case measure => simp [intOf]; omega
    · have he : k = 256 := by omega
      subst he
      have hg1 : ((w.alloc (.cells (crc_part 0) 242)).alloc (.cells (crc_part 256) 242)).heap[w.heap.size + 1]? = some (.cells (crc_part 256) 242 (0, 0)) := by simpa using heap_alloc_new (w.alloc (.cells (crc_part 0) 242)) (.cells (crc_part 256) 242)
      have hg0 : ((w.alloc (.cells (crc_part 0) 242)).alloc (.cells (crc_part 256) 242)).heap[w.heap.size]? = some (.cells (crc_part 0) 242 (0, 0)) := blk_alloc (heap_alloc_new w (.cells (crc_part 0) 242)) _
      have hsz : (Tryd.prog.info? 242).map (·.size) = some (crc_part 256).size := by rw [crc_part_size]; exact crc_zero.2
      have HG1 := Hush.mk hg1
      have HG0 := Hush.mk hg0
      have HSZ := Hush.mk hsz
      have HB : Hush (Below w.heap.size w ((w.alloc (.cells (crc_part 0) 242)).alloc (.cells (crc_part 256) 242))) := ⟨below_alloc (below_alloc (Below.refl _ _) _) _⟩
      clear hg1 hg0 hsz hi hz hZ
      obtain ⟨T, hT⟩ : ∃ T, T = crc_part 256 := ⟨_, rfl⟩
      have HT := Hush.mk hT
      go_wp2_with fail
      refine wp_load_row 242 _ rfl (w.heap.size + 1) rfl 242 (crc_part 256) (0, 0) _ HG1.out Tryd.underlying242 rfl HSZ.out ?_
      refine (by assumption : ∀ a w, wpList _ _ _ _ a w → _) _ _ ?_
      refine wpList_store_row rfl 242 (.tmp 0) (.tmp 27) rfl w.heap.size (crc_part 256) rfl rfl 242 (crc_part 0) HG0.out HSZ.out (by rw [crc_part_size, crc_part_size]) crc_one ?_
      obtain ⟨W, hW⟩ : ∃ W, W = ((w.alloc (.cells (crc_part 0) 242)).alloc (.cells (crc_part 256) 242)).setRow w.heap.size (crc_part 256) := ⟨_, rfl⟩
      have hB : Below w.heap.size w W := by rw [hW]; exact HB.out.trans (crc_setRow_below _ _ _ _ (Nat.le_refl _))
      have hg : W.heap[w.heap.size]? = some (.cells (crc_part 256) 242 (0, 0)) := by rw [hW, crc_setRow_at _ _ _ _ HG0.out]
      rw [← hW]
      have HB := Hush.mk hB
      have HG := Hush.mk hg
      clear hT hW hB hg
      go_wp2_with fail
      exact bodyPost_ret (v := .agg (crc_part 256)) (results_cell_row rfl _ _ w.heap.size 242 (crc_part 256) (0, 0) _ rfl HG.out Tryd.underlying242 rfl HSZ.out) rfl ⟨rfl, HB.out⟩
def crc_go : Nat → List UInt8 → Nat
  | n, [] => n
  | n, c :: r => crc_go (crc_byte ((n % 256) ^^^ c.toNat) ^^^ (n / 256)) r
def crc_Add.f (a0 : Int) (a1 : ByteArray) : Option Int := if 0 ≤ a0 ∧ a0 < 4294967296 ∧ a1.size ≤ 9223372036854775807 then some ((4294967295 - crc_go (4294967295 - a0.toNat) a1.data.toList : Nat) : Int) else none
theorem crc_byte_lt {n : Nat} (h : n < 4294967296) : crc_byte n < 4294967296 := crc_step_lt (crc_step_lt (crc_step_lt (crc_step_lt (crc_step_lt (crc_step_lt (crc_step_lt (crc_step_lt h)))))))
theorem crc_not {n : Nat} (h : n < 4294967296) : 4294967295 ^^^ n = 4294967295 - n := by
  have h1 : (BitVec.allOnes 32 ^^^ BitVec.ofNat 32 n).toNat = (~~~ (BitVec.ofNat 32 n)).toNat := by rw [BitVec.not_def]
  rw [BitVec.toNat_xor, BitVec.toNat_not, BitVec.toNat_allOnes, BitVec.toNat_ofNat, Nat.mod_eq_of_lt (by simpa using h)] at h1
  simpa using h1
theorem crc_not_run {n : Nat} (h : n < 4294967296) : Go.bits .xor .u32 IntKind.u32.max (n : Int) = ((4294967295 - n : Nat) : Int) := by
  have h2 := u32_xor_nat 4294967295 n (by decide) h
  rw [crc_not h] at h2
  exact h2
theorem crc_part_at {m : Nat} (h : m < 256) : (crc_part 256)[m]? = some (.int .u32 (crc_byte m : Int)) := by simp [crc_part, h]
set_option maxHeartbeats 1000000 in
set_option maxRecDepth 100000 in
theorem crc_add.walk (n : Nat) (hn : n < 4294967296) (s : ByteArray) (hs : s.size ≤ 9223372036854775807) (w : World) : Calls Tryd.prog 175 #[.int .u32 (n : Nat), .string s] w fun e w' => e = .returned (.int .u32 ((4294967295 - crc_go (4294967295 - n) s.data.toList : Nat) : Int)) ∧ Below w.heap.size w w' := by
  obtain ⟨hz, hi⟩ := crc_zero
  have HI := Hush.mk hi
  clear hi
  obtain ⟨T, hT⟩ : ∃ T, T = crc_part 256 := ⟨_, rfl⟩
  have HT := Hush.mk hT
  have hTs : T.size = 256 := by rw [hT, crc_part_size]
  have hT1 : T.all (·.oneCell') = true := by rw [hT]; exact crc_one
  have HW := Hush.mk (crc_table.walk w)
  have hst := fun w1 : World => run_storeCells_new (P := Tryd.prog) w1 242 (crc_part 0) T (by rw [hTs]; exact HI.out) (by rw [hTs, crc_part_size]) hT1
  clear hT hT1
  have hx0 := crc_not_run hn
  have hN : 4294967295 - n < 4294967296 := by omega
  obtain ⟨N, hNe⟩ : ∃ N, N = 4294967295 - n := ⟨_, rfl⟩
  rw [← hNe] at hx0 hN ⊢
  clear hNe hn
  go_enter Tryd.func175, Tryd.ntmps175
  go_wp2_with fail
  refine HW.out.mono ?_
  rintro e w1 ⟨rfl, hb⟩
  rw [← HT.out]
  have HB := Hush.mk hb
  clear hb
  go_wp2_with fail
  go_loopw [0, 6, 12] (fun u _ i wr => ∃ m k : Nat, u = .int .u32 (m : Nat) ∧ i = .int .i64 (k : Nat) ∧ k ≤ s.size ∧ m < 4294967296 ∧ crc_go N s.data.toList = crc_go m (s.data.toList.drop k) ∧ wr = w1.alloc (.cells T 242)) (fun _ _ i _ => s.size - (intOf i).toNat)
  case atStart => exact ⟨N, 0, rfl, rfl, by omega, hN, rfl, rfl⟩
  case round =>
    obtain ⟨m, k, rfl, rfl, hk, hm, he, rfl⟩ := hrel
    clear hx0 hN
    by_cases hlt : k < s.size
    · have hl : s.data.toList.length = s.size := by simp
      have hkl : k < s.data.toList.length := by omega
      rw [List.drop_eq_getElem_cons hkl, crc_go] at he
      have hbt := bt_at s (k : Int) (by omega)
      obtain ⟨c, hc⟩ : ∃ c, c = (s.data.toList[k]).toNat := ⟨_, rfl⟩
      have hc256 : c < 256 := by rw [hc]; exact (s.data.toList[k]).toNat_lt
      have hcb : bt s (k : Int) = (c : Int) := by rw [← hbt, hc]; rfl
      rw [← hc] at he
      have hix : ∀ W, (Instr.index 9 (.string s) (.int .i64 (k : Int))).run Tryd.prog W = .ok (.int .u8 (c : Int)) W := by
        intro W
        rw [run_index_string W 9 s .i64 _ Tryd.underlying9, dif_pos ⟨by omega, by omega⟩, bt_at s (k : Int) (by omega), hcb]
      have hx1 : Go.bits .xor .u8 ((m : Int) % 256) (c : Int) = (((m % 256) ^^^ c : Nat) : Int) := u8_xor_nat (m % 256) c (by omega) hc256
      have hlt8 : (m % 256) ^^^ c < 256 := Nat.xor_lt_two_pow (n := 8) (by omega) hc256
      obtain ⟨q, hq⟩ : ∃ q, q = (m % 256) ^^^ c := ⟨_, rfl⟩
      rw [← hq] at hx1 hlt8 he
      have hcell : (w1.alloc (.cells T 242)).cell? ⟨w1.heap.size, q, none⟩ = some (.int .u32 (crc_byte q : Int)) := by
        rw [World.cell?_alloc_at _ _ _ _ rfl, HT.out]
        simpa using crc_part_at hlt8
      have hTq : T[q]? = some (.int .u32 (crc_byte q : Int)) := by rw [HT.out]; exact crc_part_at hlt8
      have hblt : crc_byte q < 4294967296 := crc_byte_lt (by omega)
      obtain ⟨b, hb⟩ : ∃ b, b = crc_byte q := ⟨_, rfl⟩
      rw [← hb] at hcell hTq hblt he
      have hx2 : Go.bits .xor .u32 (b : Int) ((m : Int) / 256) = ((b ^^^ (m / 256) : Nat) : Int) := u32_xor_nat b (m / 256) hblt (by omega)
      have hlt32 : b ^^^ (m / 256) < 4294967296 := Nat.xor_lt_two_pow (n := 32) hblt (by omega)
      have HE := Hush.mk he
      have HL := Hush.mk hlt32
      clear he hbt hc hcb hq hb hl hkl hlt32
      go_wp2
      go_roundw
      case rel => exact ⟨_, k + 1, rfl, by go_num, by omega, HL.out, HE.out, trivial⟩
      case measure => simp [intOf]; omega
    · have hk2 : k = s.size := by omega
      subst hk2
      rw [List.drop_of_length_le (by simp), crc_go] at he
      have hxm := crc_not_run hm
      have HE := Hush.mk he
      clear he
      go_wp2
      go_ret
      exact ⟨by rw [HE.out]; rfl, below_alloc HB.out _⟩
theorem crc_Add.calls (a0 : Int) (a1 : ByteArray) (r : Int) (w : World) (h : crc_Add.f a0 a1 = some r) :
    Calls Tryd.prog 175 #[.int .u32 a0, .string a1] w fun e w' => e = .returned (.int .u32 r) ∧ Below w.heap.size w w' := by
  unfold crc_Add.f at h
  by_cases hc : 0 ≤ a0 ∧ a0 < 4294967296 ∧ a1.size ≤ 9223372036854775807
  · rw [if_pos hc] at h
    obtain rfl := Option.some.inj h
    obtain ⟨n, rfl⟩ := Int.eq_ofNat_of_zero_le hc.1
    exact crc_add.walk n (by omega) a1 hc.2.2 w
  · rw [if_neg hc] at h
    cases h
end Go.Proofs.YteilnbnnhocciaaDoor.KF

/-! KF9 -/
namespace Go.Proofs.YteilnbnnhocciaaDoor.KF
open Go.RowKit Go.Proofs.YteilnbnnhocciaaDoorW.PrintWords Go.Proofs.YteilnbnnhocciaaDoorW.PrintLast Go.Proofs.YteilnbnnhocciaaDoorW.PrintMore Go.Proofs.YteilnbnnhocciaaDoorM
attribute [local go_sem] max2_int min2_int max_two min_two max_three min_three max_four min_four
set_option linter.unusedVariables false
set_option linter.unusedSimpArgs false
def crc_Of.f (a0 : ByteArray) : Option (Int) := (crc_Add.f 0 a0).bind fun t107 => (some t107)
set_option maxHeartbeats 8000000 in
set_option maxRecDepth 100000 in
theorem crc_Of.calls (a0 : ByteArray) (r : Int) (w : World) (h : crc_Of.f a0 = some r) :
    Calls Tryd.prog 150 #[.string a0] w fun e w' => e = .returned (.int .u32 r) ∧ Below w.heap.size w w' := by
  have HB := Aside0.mk (Below.refl w.heap.size w)
  have H : ((crc_Add.f 0 a0).bind fun t107 => (some t107)) = some r := h
  clear h
  replace H := Option.bind_eq_some_iff.mp H
  obtain ⟨t107, A20, H⟩ := H
  replace H : (some t107) = some r := H
  have A2 := Aside0.mk A20
  clear A20
  obtain rfl := Option.some.inj H
  go_enter Tryd.func150, Tryd.ntmps150
  go_wp2_with (first | ((with_reducible refine gate_callee (f := 175) rfl ?_); refine goesL_ (some 4) rfl rfl Tryd.func175 (by kernel_rfl) rfl #[.int .u32 0, .string a0] rfl (by (try simp only [List.map_toArray, List.map_cons, List.map_nil]); first | done | rfl | (simp only [List.length_drop, List.length_take]; rfl)) ?_; (with_reducible refine (crc_Add.calls 0 a0 t107 _ A2.out).mono ?_); rintro e w3 ⟨rfl, hb⟩; refine ⟨_, rfl, ?_⟩; have n0_ := Aside0.mk (below_step (by repeat (first | (with_reducible first | exact HB.out | apply below_alloc | apply pw_below_drewN | apply below_drew1) | exact HB.out)) hb); clear HB; have HB := n0_; clear n0_; (try clear hb); (try clear hb2); (try clear hk); (try clear hi)))
  go_ret
  exact ⟨by first | rfl | (simp [errW_none, errW_some] <;> rfl) | (simp [*, errW_none, errW_some] <;> rfl), by repeat (first | (with_reducible first | exact HB.out | apply below_alloc | apply pw_below_drewN | apply below_drew1) | exact HB.out)⟩
end Go.Proofs.YteilnbnnhocciaaDoor.KF

/-! KF10 -/
namespace Go.Proofs.YteilnbnnhocciaaDoor.KF
open Go.RowKit Go.Proofs.YteilnbnnhocciaaDoorW.PrintWords Go.Proofs.YteilnbnnhocciaaDoorW.PrintLast Go.Proofs.YteilnbnnhocciaaDoorW.PrintMore Go.Proofs.YteilnbnnhocciaaDoorM
attribute [local go_sem] max2_int min2_int max_two min_two max_three min_three max_four min_four
set_option linter.unusedVariables false
set_option linter.unusedSimpArgs false
def frame_sum.f (a0 : Int) (a1 : ByteArray) : Option (Int) := (some (([a0] : List Int) : List Int)).bind fun y108 => (if (strOfNums y108).size + a1.size ≤ 9223372036854775807 then ((crc_Of.f ((strOfNums y108) ++ a1)).bind fun t111 => ((crc_Mask.f t111).bind fun t112 => (some t112))) else (none))
set_option maxHeartbeats 8000000 in
set_option maxRecDepth 100000 in
theorem frame_sum.calls (a0 : Int) (a1 : ByteArray) (r : Int) (w : World) (h : frame_sum.f a0 a1 = some r) :
    Calls Tryd.prog 124 #[.int .u8 a0, .string a1] w fun e w' => e = .returned (.int .u32 r) ∧ Below w.heap.size w w' := by
  have HB := Aside0.mk (Below.refl w.heap.size w)
  have H : ((some (([a0] : List Int) : List Int)).bind fun y108 => (if (strOfNums y108).size + a1.size ≤ 9223372036854775807 then ((crc_Of.f ((strOfNums y108) ++ a1)).bind fun t111 => ((crc_Mask.f t111).bind fun t112 => (some t112))) else (none))) = some r := h
  clear h
  obtain ⟨y108, hy108⟩ : ∃ y_ : List Int, y_ = (([a0] : List Int)) := ⟨_, rfl⟩
  replace H : (if (strOfNums y108).size + a1.size ≤ 9223372036854775807 then ((crc_Of.f ((strOfNums y108) ++ a1)).bind fun t111 => ((crc_Mask.f t111).bind fun t112 => (some t112))) else (none)) = some r := by first | (rw [hy108]; with_reducible exact H) | (have H2_ := (Option.bind_some _ _).symm.trans H; rw [hy108]; with_reducible exact H2_) | (have H2_ := (Option.bind_some _ _).symm.trans H; with_reducible exact H2_) | with_reducible exact H | (rw [hy108]; exact H) | exact H
  have Ny108 := Aside0.mk hy108
  clear hy108
  by_cases c3 : (strOfNums y108).size + a1.size ≤ 9223372036854775807
  · rw [if_pos c3] at H
    have c3b0 := eq_true c3
    have c3b1 : decide ((strOfNums y108).size + a1.size ≤ 9223372036854775807) = true := decide_eq_true c3
    try have c3b2 : (9223372036854775807 < (strOfNums y108).size + a1.size) = False := eq_false (Nat.not_lt.2 c3)
    replace H := Option.bind_eq_some_iff.mp H
    obtain ⟨t111, A40, H⟩ := H
    replace H : ((crc_Mask.f t111).bind fun t112 => (some t112)) = some r := H
    have A4 := Aside0.mk A40
    clear A40
    replace H := Option.bind_eq_some_iff.mp H
    obtain ⟨t112, A50, H⟩ := H
    replace H : (some t112) = some r := H
    have A5 := Aside0.mk A50
    clear A50
    obtain rfl := Option.some.inj H
    go_enter Tryd.func124, Tryd.ntmps124
    go_wp2_with (first | ((with_reducible refine gate_dst (N := 6) rfl ?_); refine Kd.R_lit (Kd.int .u8) _ 5 ?hg (N := 6) ?hd (xs := ([a0] : List Int)) (inner := [.int .u8 a0]) (ok := fun _ => True) (okp := fun _ => True) ?hr ?hp (fun _ hk => hk) trivial (Below.refl _ _) (Nat.le_refl _) (by simp) ?_; (case hd => rfl); (case hg => rfl); (case hr => first | (go_simp; done) | (go_simp; rfl)); (case hp => exact (Reps.one (show Kd.M (Kd.int .u8) _ _ _ a0 [.int .u8 a0] from rfl) (Reps.none _ _))); intro v109 w6 ho7 hb hg_ hnew_; clear hg_ hnew_; (first | rw [← Ny108.out] at ho7 | (simp only [Int.reduceToNat] at ho7; rw [← Ny108.out] at ho7)); have n0_ := Aside0.mk (Kd.R_lower ho7 (below_size (by repeat (first | (with_reducible first | exact HB.out | apply below_alloc | apply pw_below_drewN | apply below_drew1) | exact HB.out)))); have n1_ := Aside0.mk (below_step (by repeat (first | (with_reducible first | exact HB.out | apply below_alloc | apply pw_below_drewN | apply below_drew1) | exact HB.out)) hb); clear HB; have HO110 := n0_; have HB := n1_; clear n0_ n1_; clear hb ho7; have hcv8 := own_string (P := Tryd.prog) Tryd.underlying64 Tryd.underlying5 Tryd.underlying9 (Kd.own_of_R HO110.out)) | ((with_reducible refine gate_callee (f := 150) rfl ?_); refine goesL_ (some 10) rfl rfl Tryd.func150 (by kernel_rfl) rfl #[.string ((strOfNums y108) ++ a1)] rfl (by (try simp only [List.map_toArray, List.map_cons, List.map_nil]); first | done | rfl | (simp only [List.length_drop, List.length_take]; rfl)) ?_; (with_reducible refine (crc_Of.calls ((strOfNums y108) ++ a1) t111 _ A4.out).mono ?_); rintro e w9 ⟨rfl, hb⟩; refine ⟨_, rfl, ?_⟩; have n0_ := Aside0.mk (Kd.R_below (by (with_reducible repeat (first | apply Kd.R_alloc | apply Kd.R_drewN | apply Kd.R_drew)); exact HO110.out) hb); have n1_ := Aside0.mk (below_step (by repeat (first | (with_reducible first | exact HB.out | apply below_alloc | apply pw_below_drewN | apply below_drew1) | exact HB.out)) hb); clear HO110; clear HB; have HO110 := n0_; have HB := n1_; clear n0_ n1_; (try clear hb); (try clear hb2); (try clear hk); (try clear hi)) | ((with_reducible refine gate_callee (f := 149) rfl ?_); refine goesL_ (some 11) rfl rfl Tryd.func149 (by kernel_rfl) rfl #[.int .u32 t111] rfl (by (try simp only [List.map_toArray, List.map_cons, List.map_nil]); first | done | rfl | (simp only [List.length_drop, List.length_take]; rfl)) ?_; (with_reducible refine (crc_Mask.calls t111 t112 _ A5.out).mono ?_); rintro e w' ⟨rfl, ⟨nd, rfl⟩⟩; refine ⟨_, rfl, ?_⟩))
    go_ret
    exact ⟨by first | rfl | (simp [errW_none, errW_some] <;> rfl) | (simp [*, errW_none, errW_some] <;> rfl), by repeat (first | (with_reducible first | exact HB.out | apply below_alloc | apply pw_below_drewN | apply below_drew1) | exact HB.out)⟩
  · rw [if_neg c3] at H
    exact absurd H (by simp)
end Go.Proofs.YteilnbnnhocciaaDoor.KF

/-! KF31 -/
namespace Go.Proofs.YteilnbnnhocciaaDoor.KF
open Go.RowKit Go.Proofs.YteilnbnnhocciaaDoorW.PrintWords Go.Proofs.YteilnbnnhocciaaDoorW.PrintLast Go.Proofs.YteilnbnnhocciaaDoorW.PrintMore Go.Proofs.YteilnbnnhocciaaDoorM
attribute [local go_sem] max2_int min2_int max_two min_two max_three min_three max_four min_four
set_option linter.unusedVariables false
set_option linter.unusedSimpArgs false
def IsS171 (w0 W : World) (g : Nat) (f0 : ByteArray) (f1 : Int) (f2 : Int) : Prop := W.heap[g]? = some (.cells #[.string f0, .int .i64 f1, .int .i64 f2] 171 (0, 0)) ∧ w0.heap.size ≤ g
theorem IsS171.grown {w0 W : World} {g : Nat} {f0 : ByteArray} {f1 : Int} {f2 : Int} {W1 : World} {row : Option Nat} (h : IsS171 w0 W g f0 f1 f2) (hw : W.grownBy W1 row) (hne : some g ≠ row) : IsS171 w0 W1 g f0 f1 f2 := by
  obtain ⟨hb, hg⟩ := h
  exact ⟨blk_grown hb hw hne, hg⟩
theorem IsS171.kept {w0 W : World} {g : Nat} {f0 : ByteArray} {f1 : Int} {f2 : Int} {W1 : World} {S : Nat → Prop} (h : IsS171 w0 W g f0 f1 f2) (hk : Kept W W1 S) (hne : ¬ S g) : IsS171 w0 W1 g f0 f1 f2 := by
  obtain ⟨hb, hg⟩ := h
  exact ⟨blk_kept hb hk hne, hg⟩
theorem IsS171.below {w0 W : World} {g : Nat} {f0 : ByteArray} {f1 : Int} {f2 : Int} {W1 : World} (h : IsS171 w0 W g f0 f1 f2) (hw : Below W.heap.size W W1) : IsS171 w0 W1 g f0 f1 f2 := h.grown (grown_of_below hw none) (by simp)
theorem IsS171.alloc {w0 W : World} {g : Nat} {f0 : ByteArray} {f1 : Int} {f2 : Int} (h : IsS171 w0 W g f0 f1 f2) (o : Obj) : IsS171 w0 (W.alloc o) g f0 f1 f2 := h.below (below_alloc (Below.refl _ _) o)
theorem IsS171.drewN {w0 W : World} {g : Nat} {f0 : ByteArray} {f1 : Int} {f2 : Int} (h : IsS171 w0 W g f0 f1 f2) (m : Nat) : IsS171 w0 (W.drewN m) g f0 f1 f2 := h
theorem IsS171.drew {w0 W : World} {g : Nat} {f0 : ByteArray} {f1 : Int} {f2 : Int} (h : IsS171 w0 W g f0 f1 f2) : IsS171 w0 W.drew g f0 f1 f2 := h
theorem IsS171.at_ {w0 W : World} {g : Nat} {f0 : ByteArray} {f1 : Int} {f2 : Int} {w' : World} {m : Nat} (hq : W.drewN m = w') (h : IsS171 w0 W g f0 f1 f2) : IsS171 w0 w' g f0 f1 f2 := by subst hq; exact IsS171.drewN h m
theorem IsS171.apart {w0 W : World} {g : Nat} {f0 : ByteArray} {f1 : Int} {f2 : Int} {α : Type} {d : Kd α} {e : Nat} {base : Nat} {ok : Nat → Prop} {v : Value} {xs : List α} (h : IsS171 w0 W g f0 f1 f2) (ho : d.R e W base ok v xs) (ht : ∀ q, q ∈ e :: d.E → q ≠ 171) : d.R e W base (fun k => ok k ∧ k ≠ g) v xs := by
  obtain ⟨hb, hg⟩ := h
  exact Kd.R_types ho hb ht
theorem IsS171.own_ne {w0 W : World} {g : Nat} {f0 : ByteArray} {f1 : Int} {f2 : Int} {α : Type} {d : Kd α} {e : Nat} {base : Nat} {ok : Nat → Prop} {v : Value} {xs : List α} (h : IsS171 w0 W g f0 f1 f2) (ho : d.R e W base ok v xs) (ht : e ≠ 171) : some g ≠ v.ownBlock := by
  obtain ⟨hb, hg⟩ := h
  exact Kd.R_ne ho hb ht
theorem IsS171.lt {w0 W : World} {g : Nat} {f0 : ByteArray} {f1 : Int} {f2 : Int} (h : IsS171 w0 W g f0 f1 f2) : g < W.heap.size := by
  obtain ⟨hb, hg⟩ := h
  exact blk_lt hb
theorem IsS171.ge {w0 W : World} {g : Nat} {f0 : ByteArray} {f1 : Int} {f2 : Int} (h : IsS171 w0 W g f0 f1 f2) : w0.heap.size ≤ g := by
  obtain ⟨hb, hg⟩ := h
  exact hg
theorem cellS171_0 {W : World} {g : Nat} {f0 : ByteArray} {f1 : Int} {f2 : Int} (h : W.heap[g]? = some (.cells #[.string f0, .int .i64 f1, .int .i64 f2] 171 (0, 0))) : W.cell? ⟨g, 0, none⟩ = some (.string f0) := (blk_cell h 0).trans rfl
theorem IsS171.set_0 {w0 W : World} {g : Nat} {f0 : ByteArray} {f1 : Int} {f2 : Int} (h : IsS171 w0 W g f0 f1 f2) (x : ByteArray) : IsS171 w0 (W.setCell ⟨g, 0, none⟩ (.string x)) g x f1 f2 := by
  obtain ⟨hb, hg⟩ := h
  exact ⟨by simpa using blk_set hb 0 (.string x), hg⟩
theorem cellS171_1 {W : World} {g : Nat} {f0 : ByteArray} {f1 : Int} {f2 : Int} (h : W.heap[g]? = some (.cells #[.string f0, .int .i64 f1, .int .i64 f2] 171 (0, 0))) : W.cell? ⟨g, 1, none⟩ = some (.int .i64 f1) := (blk_cell h 1).trans rfl
theorem IsS171.set_1 {w0 W : World} {g : Nat} {f0 : ByteArray} {f1 : Int} {f2 : Int} (h : IsS171 w0 W g f0 f1 f2) (x : Int) : IsS171 w0 (W.setCell ⟨g, 1, none⟩ (.int .i64 x)) g f0 x f2 := by
  obtain ⟨hb, hg⟩ := h
  exact ⟨by simpa using blk_set hb 1 (.int .i64 x), hg⟩
theorem cellS171_2 {W : World} {g : Nat} {f0 : ByteArray} {f1 : Int} {f2 : Int} (h : W.heap[g]? = some (.cells #[.string f0, .int .i64 f1, .int .i64 f2] 171 (0, 0))) : W.cell? ⟨g, 2, none⟩ = some (.int .i64 f2) := (blk_cell h 2).trans rfl
theorem IsS171.set_2 {w0 W : World} {g : Nat} {f0 : ByteArray} {f1 : Int} {f2 : Int} (h : IsS171 w0 W g f0 f1 f2) (x : Int) : IsS171 w0 (W.setCell ⟨g, 2, none⟩ (.int .i64 x)) g f0 f1 x := by
  obtain ⟨hb, hg⟩ := h
  exact ⟨by simpa using blk_set hb 2 (.int .i64 x), hg⟩
theorem IsS171.new (w0 W : World) (f0 : ByteArray) (f1 : Int) (f2 : Int) (hB : Below w0.heap.size w0 W) : IsS171 w0 (W.alloc (.cells #[.string f0, .int .i64 f1, .int .i64 f2] 171)) W.heap.size f0 f1 f2 := ⟨by simpa using heap_alloc_new W _, hB.size⟩
def varint_Over.f (a0 : ByteArray) : Option (ByteArray × Int × Int) := some (a0, 0, 0)
set_option maxHeartbeats 8000000 in
set_option maxRecDepth 100000 in
theorem varint_Over.calls (a0 : ByteArray) (r1 : ByteArray) (r2 : Int) (r3 : Int) (w0 w : World) (hB : Below w0.heap.size w0 w) (h : varint_Over.f a0 = some (r1, r2, r3)) :
    Calls Tryd.prog 55 #[.string a0] w fun e w' => ∃ g_ : Nat, e = .returned (.pointer (some ⟨g_, 0, none⟩)) ∧ IsS171 w0 w' g_ r1 r2 r3 ∧ Below w0.heap.size w0 w' ∧ Below w.heap.size w w' := by
  have hu171 := Tryd.underlying171
  have HBW := Aside0.mk (Below.refl w.heap.size w)
  have HW0 := Aside0.mk hB.size
  have HB := Aside0.mk hB
  clear hB
  have H : (some (a0, 0, 0)) = some (r1, r2, r3) := h
  clear h
  simp only [Option.some.injEq, Prod.mk.injEq] at H
  obtain ⟨rfl, rfl, rfl⟩ := H
  go_enter Tryd.func55, Tryd.ntmps55
  go_wp2_with (first | ((with_reducible refine gate_dst (N := 5) rfl ?_); refine box_event ?hg (N := 5) ?hd (cs := #[.string a0, .int .i64 0, .int .i64 0]) (t := 171) ?hr ?_; (case hd => rfl); (case hg => rfl); (case hr => first | (go_simp; done) | (go_simp; rfl)); intro gb153 hg w2 hbox hb; have n0_ := Aside0.mk (below_step HBW.out hb); have n1_ := Aside0.mk (below_step (by repeat (first | (with_reducible first | exact HB.out | apply below_alloc | apply pw_below_drewN | apply below_drew1) | exact HB.out)) hb); have n2_ := Aside0.mk (hbox); have n3_ := Aside0.mk ((by rw [hg]; exact (below_size (by repeat (first | (with_reducible first | exact HBW.out | apply below_alloc | apply pw_below_drewN | apply below_drew1) | exact HBW.out))) : w.heap.size ≤ gb153)); have n4_ := Aside0.mk ((Nat.le_trans HW0.out (by rw [hg]; exact (below_size (by repeat (first | (with_reducible first | exact HBW.out | apply below_alloc | apply pw_below_drewN | apply below_drew1) | exact HBW.out))) : w.heap.size ≤ gb153) : w0.heap.size ≤ gb153)); clear HBW; clear HB; have HBW := n0_; have HB := n1_; have BK153 := n2_; have GW153 := n3_; have GE153 := n4_; clear n0_ n1_ n2_ n3_ n4_; clear hb hbox hg))
  go_ret
  exact ⟨_, rfl, (show IsS171 w0 _ gb153 a0 0 0 from ⟨by (with_reducible repeat (first | refine blk_drewN ?_ _ | refine blk_drew ?_ | refine blk_alloc ?_ _)); exact BK153.out, GE153.out⟩), by repeat (first | (with_reducible first | exact HB.out | apply below_alloc | apply pw_below_drewN | apply below_drew1 | refine below_set ?_ GE153.out) | exact HB.out), by repeat (first | (with_reducible first | exact HBW.out | apply below_alloc | apply pw_below_drewN | apply below_drew1 | refine below_set ?_ GW153.out) | exact HBW.out)⟩
end Go.Proofs.YteilnbnnhocciaaDoor.KF

/-! KF32 -/
namespace Go.Proofs.YteilnbnnhocciaaDoor.KF
open Go.RowKit Go.Proofs.YteilnbnnhocciaaDoorW.PrintWords Go.Proofs.YteilnbnnhocciaaDoorW.PrintLast Go.Proofs.YteilnbnnhocciaaDoorW.PrintMore Go.Proofs.YteilnbnnhocciaaDoorM
attribute [local go_sem] max2_int min2_int max_two min_two max_three min_three max_four min_four
set_option linter.unusedVariables false
set_option linter.unusedSimpArgs false
def strings_Trim.f (a0 : ByteArray) (a1 : ByteArray) : Option ByteArray := if a1.data.toList = [0] ∧ a0.size ≤ 9223372036854775807 then some ⟨(Lib.trimB a0.data.toList 0).toArray⟩ else none
theorem strings_Trim.calls (a0 : ByteArray) (a1 : ByteArray) (r : ByteArray) (w : World) (h : strings_Trim.f a0 a1 = some r) :
    Calls Tryd.prog 141 #[.string a0, .string a1] w fun e w' => e = .returned (.string r) ∧ Below w.heap.size w w' := by
  unfold strings_Trim.f at h
  by_cases hc : a1.data.toList = [0] ∧ a0.size ≤ 9223372036854775807
  · rw [if_pos hc] at h
    obtain rfl := Option.some.inj h
    obtain ⟨a1⟩ := a1
    obtain ⟨a1⟩ := a1
    obtain rfl : a1 = [0] := hc.1
    refine (Tryd.strings_Trim_one a0 0 (by decide) w hc.2).mono ?_
    rintro e w' ⟨rfl, rfl | rfl⟩
    · exact ⟨rfl, Below.refl _ _⟩
    · exact ⟨rfl, below_drew1 (Below.refl _ _)⟩
  · rw [if_neg hc] at h
    cases h
end Go.Proofs.YteilnbnnhocciaaDoor.KF

/-! KF33 -/
namespace Go.Proofs.YteilnbnnhocciaaDoor.KF
open Go.RowKit Go.Proofs.YteilnbnnhocciaaDoorW.PrintWords Go.Proofs.YteilnbnnhocciaaDoorW.PrintLast Go.Proofs.YteilnbnnhocciaaDoorW.PrintMore Go.Proofs.YteilnbnnhocciaaDoorM
attribute [local go_sem] max2_int min2_int max_two min_two max_three min_three max_four min_four
set_option linter.unusedVariables false
set_option linter.unusedSimpArgs false
def varint_Reader_ok.f (s0_0 : ByteArray) (s0_1 : Int) (s0_2 : Int) : Option (Bool × ByteArray × Int × Int) := some ((s0_2 == 0), s0_0, s0_1, s0_2)
set_option maxHeartbeats 8000000 in
set_option maxRecDepth 100000 in
theorem varint_Reader_ok.calls (g : Nat) (s0_0 : ByteArray) (s0_1 : Int) (s0_2 : Int) (r1 : Bool) (r2 : ByteArray) (r3 : Int) (r4 : Int) (w0 w : World) (hI : IsS171 w0 w g s0_0 s0_1 s0_2) (hB : Below w0.heap.size w0 w) (h : varint_Reader_ok.f s0_0 s0_1 s0_2 = some (r1, r2, r3, r4)) :
    Calls Tryd.prog 106 #[.pointer (some ⟨g, 0, none⟩)] w fun e w' => e = .returned (.bool r1) ∧ IsS171 w0 w' g r2 r3 r4 ∧ Below w0.heap.size w0 w' ∧ KeepBut w w' g none := by
  have HI0 := Aside0.mk hI
  have HK := Aside0.mk (KeepBut.refl w g none)
  have HL := Aside0.mk hB.size
  clear hI
  have HW0 := Aside0.mk hB.size
  have HB := Aside0.mk hB
  clear hB
  have H : (some ((s0_2 == 0), s0_0, s0_1, s0_2)) = some (r1, r2, r3, r4) := h
  clear h
  simp only [Option.some.injEq, Prod.mk.injEq] at H
  obtain ⟨rfl, rfl, rfl, rfl⟩ := H
  obtain ⟨HGz2, hgz2⟩ := HI0.out
  have hcz2_0 := cellS171_0 HGz2
  have hcz2_1 := cellS171_1 HGz2
  have hcz2_2 := cellS171_2 HGz2
  have hfz2_0 := blk_frozen HGz2 0
  have hfz2_1 := blk_frozen HGz2 1
  have hfz2_2 := blk_frozen HGz2 2
  clear HGz2 hgz2
  go_enter Tryd.func106, Tryd.ntmps106
  go_wp2
  go_ret
  exact ⟨by first | rfl | (simp [errW_none, errW_some] <;> rfl) | (simp [*, errW_none, errW_some] <;> rfl), by repeat (first | (with_reducible first | exact HI0.out | apply IsS171.alloc | apply IsS171.drewN | apply IsS171.drew | apply IsS171.set_0 | apply IsS171.set_1 | apply IsS171.set_2) | exact HI0.out), by repeat (first | (with_reducible first | exact HB.out | apply below_alloc | apply pw_below_drewN | apply below_drew1 | refine below_set ?_ (IsS171.ge HI0.out)) | exact HB.out), by repeat (first | (with_reducible first | exact HK.out | apply KeepBut.set_ | apply keep_drewN | apply keep_drew | apply keep_alloc) | exact HK.out)⟩
end Go.Proofs.YteilnbnnhocciaaDoor.KF

/-! KF34 -/
namespace Go.Proofs.YteilnbnnhocciaaDoor.KF
open Go.RowKit Go.Proofs.YteilnbnnhocciaaDoorW.PrintWords Go.Proofs.YteilnbnnhocciaaDoorW.PrintLast Go.Proofs.YteilnbnnhocciaaDoorW.PrintMore Go.Proofs.YteilnbnnhocciaaDoorM
attribute [local go_sem] max2_int min2_int max_two min_two max_three min_three max_four min_four
set_option linter.unusedVariables false
set_option linter.unusedSimpArgs false
def varint_Reader_Take.f (s0_0 : ByteArray) (s0_1 : Int) (s0_2 : Int) (a1 : Int) : Option (ByteArray × ByteArray × Int × Int) := (varint_Reader_ok.f s0_0 s0_1 s0_2).bind fun bt154 => (if bt154.1 = true then (if a1 < 0 then (some ((⟨#[]⟩ : ByteArray), bt154.2.1, bt154.2.2.1, 3)) else (if a1 > (wrap64 ((bt154.2.1.size : Int) - bt154.2.2.1)) then (some ((⟨#[]⟩ : ByteArray), bt154.2.1, bt154.2.2.1, 3)) else (if 0 ≤ bt154.2.2.1 then (if bt154.2.2.1 ≤ (wrap64 (bt154.2.2.1 + a1)) then (if (wrap64 (bt154.2.2.1 + a1)) ≤ (bt154.2.1.size : Int) then (some (bt154.2.1.extract (bt154.2.2.1 : Int).toNat ((wrap64 (bt154.2.2.1 + a1)) : Int).toNat, bt154.2.1, wrap64 (bt154.2.2.1 + a1), bt154.2.2.2)) else (none)) else (none)) else (none)))) else (some ((⟨#[]⟩ : ByteArray), bt154.2.1, bt154.2.2.1, bt154.2.2.2)))
set_option maxHeartbeats 8000000 in
set_option maxRecDepth 100000 in
theorem varint_Reader_Take.calls (g : Nat) (s0_0 : ByteArray) (s0_1 : Int) (s0_2 : Int) (a1 : Int) (r1 : ByteArray) (r2 : ByteArray) (r3 : Int) (r4 : Int) (w0 w : World) (hI : IsS171 w0 w g s0_0 s0_1 s0_2) (hB : Below w0.heap.size w0 w) (h : varint_Reader_Take.f s0_0 s0_1 s0_2 a1 = some (r1, r2, r3, r4)) :
    Calls Tryd.prog 109 #[.pointer (some ⟨g, 0, none⟩), .int .i64 a1] w fun e w' => e = .returned (.string r1) ∧ IsS171 w0 w' g r2 r3 r4 ∧ Below w0.heap.size w0 w' ∧ KeepBut w w' g none := by
  have HI0 := Aside0.mk hI
  have HK := Aside0.mk (KeepBut.refl w g none)
  have HL := Aside0.mk hB.size
  clear hI
  have HW0 := Aside0.mk hB.size
  have HB := Aside0.mk hB
  clear hB
  have H : ((varint_Reader_ok.f s0_0 s0_1 s0_2).bind fun bt154 => (if bt154.1 = true then (if a1 < 0 then (some ((⟨#[]⟩ : ByteArray), bt154.2.1, bt154.2.2.1, 3)) else (if a1 > (wrap64 ((bt154.2.1.size : Int) - bt154.2.2.1)) then (some ((⟨#[]⟩ : ByteArray), bt154.2.1, bt154.2.2.1, 3)) else (if 0 ≤ bt154.2.2.1 then (if bt154.2.2.1 ≤ (wrap64 (bt154.2.2.1 + a1)) then (if (wrap64 (bt154.2.2.1 + a1)) ≤ (bt154.2.1.size : Int) then (some (bt154.2.1.extract (bt154.2.2.1 : Int).toNat ((wrap64 (bt154.2.2.1 + a1)) : Int).toNat, bt154.2.1, wrap64 (bt154.2.2.1 + a1), bt154.2.2.2)) else (none)) else (none)) else (none)))) else (some ((⟨#[]⟩ : ByteArray), bt154.2.1, bt154.2.2.1, bt154.2.2.2)))) = some (r1, r2, r3, r4) := h
  clear h
  replace H := Option.bind_eq_some_iff.mp H
  obtain ⟨⟨t154, t155, t156, t157⟩, A30, H⟩ := H
  replace H : (if t154 = true then (if a1 < 0 then (some ((⟨#[]⟩ : ByteArray), t155, t156, 3)) else (if a1 > (wrap64 ((t155.size : Int) - t156)) then (some ((⟨#[]⟩ : ByteArray), t155, t156, 3)) else (if 0 ≤ t156 then (if t156 ≤ (wrap64 (t156 + a1)) then (if (wrap64 (t156 + a1)) ≤ (t155.size : Int) then (some (t155.extract (t156 : Int).toNat ((wrap64 (t156 + a1)) : Int).toNat, t155, wrap64 (t156 + a1), t157)) else (none)) else (none)) else (none)))) else (some ((⟨#[]⟩ : ByteArray), t155, t156, t157))) = some (r1, r2, r3, r4) := H
  have A3 := Aside0.mk A30
  clear A30
  by_cases c4 : t154 = true
  · subst c4
    have H1 : (if a1 < 0 then (some ((⟨#[]⟩ : ByteArray), t155, t156, 3)) else (if a1 > (wrap64 ((t155.size : Int) - t156)) then (some ((⟨#[]⟩ : ByteArray), t155, t156, 3)) else (if 0 ≤ t156 then (if t156 ≤ (wrap64 (t156 + a1)) then (if (wrap64 (t156 + a1)) ≤ (t155.size : Int) then (some (t155.extract (t156 : Int).toNat ((wrap64 (t156 + a1)) : Int).toNat, t155, wrap64 (t156 + a1), t157)) else (none)) else (none)) else (none)))) = some (r1, r2, r3, r4) := by rw [if_pos rfl] at H; exact H
    clear H
    have H := H1
    clear H1
    by_cases c5 : a1 < 0
    · rw [if_pos c5] at H
      have c5b0 : decide (a1 < 0) = true := decide_eq_true c5
      clear c5
      simp only [Option.some.injEq, Prod.mk.injEq] at H
      obtain ⟨rfl, rfl, rfl, rfl⟩ := H
      go_enter Tryd.func109, Tryd.ntmps109
      go_wp2_with (first | (go_at_call 106; (with_reducible refine (varint_Reader_ok.calls g s0_0 s0_1 s0_2 true t155 t156 t157 w0 _ ?side1 ?side2 A3.out).mono ?_); (case side1 => repeat (first | (with_reducible first | exact HI0.out | apply IsS171.alloc | apply IsS171.drewN | apply IsS171.drew | apply IsS171.set_0 | apply IsS171.set_1 | apply IsS171.set_2) | exact HI0.out)); (case side2 => repeat (first | (with_reducible first | exact HB.out | apply below_alloc | apply pw_below_drewN | apply below_drew1 | refine below_set ?_ (IsS171.ge HI0.out)) | exact HB.out)); rintro e w6 ⟨rfl, hi, hb, hk⟩; have n0_ := Aside0.mk (KeepBut.trans (by repeat (first | (with_reducible first | exact HK.out | apply KeepBut.set_ | apply keep_drewN | apply keep_drew | apply keep_alloc) | exact HK.out)) hk (.inl rfl)); have n1_ := Aside0.mk (hb); have n2_ := Aside0.mk (hi); clear HK; clear HB; clear HI0; have HK := n0_; have HB := n1_; have HI0 := n2_; clear n0_ n1_ n2_; (try clear hb); (try clear hb2); (try clear hk); (try clear hi); obtain ⟨HGz7, hgz7⟩ := HI0.out; have hcz7_0 := cellS171_0 HGz7; have hcz7_1 := cellS171_1 HGz7; have hcz7_2 := cellS171_2 HGz7; have hfz7_0 := blk_frozen HGz7 0; have hfz7_1 := blk_frozen HGz7 1; have hfz7_2 := blk_frozen HGz7 2; clear HGz7 hgz7))
      repeat (go_quiet (first | (go_at_call 106; (with_reducible refine (varint_Reader_ok.calls g s0_0 s0_1 s0_2 true t155 t156 t157 w0 _ ?side1 ?side2 A3.out).mono ?_); (case side1 => repeat (first | (with_reducible first | exact HI0.out | apply IsS171.alloc | apply IsS171.drewN | apply IsS171.drew | apply IsS171.set_0 | apply IsS171.set_1 | apply IsS171.set_2) | exact HI0.out)); (case side2 => repeat (first | (with_reducible first | exact HB.out | apply below_alloc | apply pw_below_drewN | apply below_drew1 | refine below_set ?_ (IsS171.ge HI0.out)) | exact HB.out)); rintro e w6 ⟨rfl, hi, hb, hk⟩; have n0_ := Aside0.mk (KeepBut.trans (by repeat (first | (with_reducible first | exact HK.out | apply KeepBut.set_ | apply keep_drewN | apply keep_drew | apply keep_alloc) | exact HK.out)) hk (.inl rfl)); have n1_ := Aside0.mk (hb); have n2_ := Aside0.mk (hi); clear HK; clear HB; clear HI0; have HK := n0_; have HB := n1_; have HI0 := n2_; clear n0_ n1_ n2_; (try clear hb); (try clear hb2); (try clear hk); (try clear hi); obtain ⟨HGz7, hgz7⟩ := HI0.out; have hcz7_0 := cellS171_0 HGz7; have hcz7_1 := cellS171_1 HGz7; have hcz7_2 := cellS171_2 HGz7; have hfz7_0 := blk_frozen HGz7 0; have hfz7_1 := blk_frozen HGz7 1; have hfz7_2 := blk_frozen HGz7 2; clear HGz7 hgz7)); try go_wp2_with (first | (go_at_call 106; (with_reducible refine (varint_Reader_ok.calls g s0_0 s0_1 s0_2 true t155 t156 t157 w0 _ ?side1 ?side2 A3.out).mono ?_); (case side1 => repeat (first | (with_reducible first | exact HI0.out | apply IsS171.alloc | apply IsS171.drewN | apply IsS171.drew | apply IsS171.set_0 | apply IsS171.set_1 | apply IsS171.set_2) | exact HI0.out)); (case side2 => repeat (first | (with_reducible first | exact HB.out | apply below_alloc | apply pw_below_drewN | apply below_drew1 | refine below_set ?_ (IsS171.ge HI0.out)) | exact HB.out)); rintro e w6 ⟨rfl, hi, hb, hk⟩; have n0_ := Aside0.mk (KeepBut.trans (by repeat (first | (with_reducible first | exact HK.out | apply KeepBut.set_ | apply keep_drewN | apply keep_drew | apply keep_alloc) | exact HK.out)) hk (.inl rfl)); have n1_ := Aside0.mk (hb); have n2_ := Aside0.mk (hi); clear HK; clear HB; clear HI0; have HK := n0_; have HB := n1_; have HI0 := n2_; clear n0_ n1_ n2_; (try clear hb); (try clear hb2); (try clear hk); (try clear hi); obtain ⟨HGz7, hgz7⟩ := HI0.out; have hcz7_0 := cellS171_0 HGz7; have hcz7_1 := cellS171_1 HGz7; have hcz7_2 := cellS171_2 HGz7; have hfz7_0 := blk_frozen HGz7 0; have hfz7_1 := blk_frozen HGz7 1; have hfz7_2 := blk_frozen HGz7 2; clear HGz7 hgz7)))
      go_ret
      exact ⟨by first | rfl | (simp [errW_none, errW_some] <;> rfl) | (simp [*, errW_none, errW_some] <;> rfl), by repeat (first | (with_reducible first | exact HI0.out | apply IsS171.alloc | apply IsS171.drewN | apply IsS171.drew | apply IsS171.set_0 | apply IsS171.set_1 | apply IsS171.set_2) | exact HI0.out), by repeat (first | (with_reducible first | exact HB.out | apply below_alloc | apply pw_below_drewN | apply below_drew1 | refine below_set ?_ (IsS171.ge HI0.out)) | exact HB.out), by repeat (first | (with_reducible first | exact HK.out | apply KeepBut.set_ | apply keep_drewN | apply keep_drew | apply keep_alloc) | exact HK.out)⟩
    · rw [if_neg c5] at H
      have c5b0 : decide (a1 < 0) = false := decide_eq_false c5
      clear c5
      by_cases c8 : a1 > (wrap64 ((t155.size : Int) - t156))
      · rw [if_pos c8] at H
        have c8b0 : decide ((wrap64 ((t155.size : Int) - t156)) < a1) = true := decide_eq_true c8
        clear c8
        simp only [Option.some.injEq, Prod.mk.injEq] at H
        obtain ⟨rfl, rfl, rfl, rfl⟩ := H
        go_enter Tryd.func109, Tryd.ntmps109
        go_wp2_with (first | (go_at_call 106; (with_reducible refine (varint_Reader_ok.calls g s0_0 s0_1 s0_2 true t155 t156 t157 w0 _ ?side1 ?side2 A3.out).mono ?_); (case side1 => repeat (first | (with_reducible first | exact HI0.out | apply IsS171.alloc | apply IsS171.drewN | apply IsS171.drew | apply IsS171.set_0 | apply IsS171.set_1 | apply IsS171.set_2) | exact HI0.out)); (case side2 => repeat (first | (with_reducible first | exact HB.out | apply below_alloc | apply pw_below_drewN | apply below_drew1 | refine below_set ?_ (IsS171.ge HI0.out)) | exact HB.out)); rintro e w9 ⟨rfl, hi, hb, hk⟩; have n0_ := Aside0.mk (KeepBut.trans (by repeat (first | (with_reducible first | exact HK.out | apply KeepBut.set_ | apply keep_drewN | apply keep_drew | apply keep_alloc) | exact HK.out)) hk (.inl rfl)); have n1_ := Aside0.mk (hb); have n2_ := Aside0.mk (hi); clear HK; clear HB; clear HI0; have HK := n0_; have HB := n1_; have HI0 := n2_; clear n0_ n1_ n2_; (try clear hb); (try clear hb2); (try clear hk); (try clear hi); obtain ⟨HGz10, hgz10⟩ := HI0.out; have hcz10_0 := cellS171_0 HGz10; have hcz10_1 := cellS171_1 HGz10; have hcz10_2 := cellS171_2 HGz10; have hfz10_0 := blk_frozen HGz10 0; have hfz10_1 := blk_frozen HGz10 1; have hfz10_2 := blk_frozen HGz10 2; clear HGz10 hgz10))
        repeat (go_quiet (first | (go_at_call 106; (with_reducible refine (varint_Reader_ok.calls g s0_0 s0_1 s0_2 true t155 t156 t157 w0 _ ?side1 ?side2 A3.out).mono ?_); (case side1 => repeat (first | (with_reducible first | exact HI0.out | apply IsS171.alloc | apply IsS171.drewN | apply IsS171.drew | apply IsS171.set_0 | apply IsS171.set_1 | apply IsS171.set_2) | exact HI0.out)); (case side2 => repeat (first | (with_reducible first | exact HB.out | apply below_alloc | apply pw_below_drewN | apply below_drew1 | refine below_set ?_ (IsS171.ge HI0.out)) | exact HB.out)); rintro e w9 ⟨rfl, hi, hb, hk⟩; have n0_ := Aside0.mk (KeepBut.trans (by repeat (first | (with_reducible first | exact HK.out | apply KeepBut.set_ | apply keep_drewN | apply keep_drew | apply keep_alloc) | exact HK.out)) hk (.inl rfl)); have n1_ := Aside0.mk (hb); have n2_ := Aside0.mk (hi); clear HK; clear HB; clear HI0; have HK := n0_; have HB := n1_; have HI0 := n2_; clear n0_ n1_ n2_; (try clear hb); (try clear hb2); (try clear hk); (try clear hi); obtain ⟨HGz10, hgz10⟩ := HI0.out; have hcz10_0 := cellS171_0 HGz10; have hcz10_1 := cellS171_1 HGz10; have hcz10_2 := cellS171_2 HGz10; have hfz10_0 := blk_frozen HGz10 0; have hfz10_1 := blk_frozen HGz10 1; have hfz10_2 := blk_frozen HGz10 2; clear HGz10 hgz10)); try go_wp2_with (first | (go_at_call 106; (with_reducible refine (varint_Reader_ok.calls g s0_0 s0_1 s0_2 true t155 t156 t157 w0 _ ?side1 ?side2 A3.out).mono ?_); (case side1 => repeat (first | (with_reducible first | exact HI0.out | apply IsS171.alloc | apply IsS171.drewN | apply IsS171.drew | apply IsS171.set_0 | apply IsS171.set_1 | apply IsS171.set_2) | exact HI0.out)); (case side2 => repeat (first | (with_reducible first | exact HB.out | apply below_alloc | apply pw_below_drewN | apply below_drew1 | refine below_set ?_ (IsS171.ge HI0.out)) | exact HB.out)); rintro e w9 ⟨rfl, hi, hb, hk⟩; have n0_ := Aside0.mk (KeepBut.trans (by repeat (first | (with_reducible first | exact HK.out | apply KeepBut.set_ | apply keep_drewN | apply keep_drew | apply keep_alloc) | exact HK.out)) hk (.inl rfl)); have n1_ := Aside0.mk (hb); have n2_ := Aside0.mk (hi); clear HK; clear HB; clear HI0; have HK := n0_; have HB := n1_; have HI0 := n2_; clear n0_ n1_ n2_; (try clear hb); (try clear hb2); (try clear hk); (try clear hi); obtain ⟨HGz10, hgz10⟩ := HI0.out; have hcz10_0 := cellS171_0 HGz10; have hcz10_1 := cellS171_1 HGz10; have hcz10_2 := cellS171_2 HGz10; have hfz10_0 := blk_frozen HGz10 0; have hfz10_1 := blk_frozen HGz10 1; have hfz10_2 := blk_frozen HGz10 2; clear HGz10 hgz10)))
        go_ret
        exact ⟨by first | rfl | (simp [errW_none, errW_some] <;> rfl) | (simp [*, errW_none, errW_some] <;> rfl), by repeat (first | (with_reducible first | exact HI0.out | apply IsS171.alloc | apply IsS171.drewN | apply IsS171.drew | apply IsS171.set_0 | apply IsS171.set_1 | apply IsS171.set_2) | exact HI0.out), by repeat (first | (with_reducible first | exact HB.out | apply below_alloc | apply pw_below_drewN | apply below_drew1 | refine below_set ?_ (IsS171.ge HI0.out)) | exact HB.out), by repeat (first | (with_reducible first | exact HK.out | apply KeepBut.set_ | apply keep_drewN | apply keep_drew | apply keep_alloc) | exact HK.out)⟩
      · rw [if_neg c8] at H
        have c8b0 : decide ((wrap64 ((t155.size : Int) - t156)) < a1) = false := decide_eq_false c8
        clear c8
        by_cases c11 : 0 ≤ t156
        · rw [if_pos c11] at H
          have c11b0 := eq_true c11
          have c11b1 : decide (0 ≤ t156) = true := decide_eq_true c11
          clear c11
          by_cases c12 : t156 ≤ (wrap64 (t156 + a1))
          · rw [if_pos c12] at H
            have c12b0 := eq_true c12
            have c12b1 : decide (t156 ≤ (wrap64 (t156 + a1))) = true := decide_eq_true c12
            by_cases c13 : (wrap64 (t156 + a1)) ≤ (t155.size : Int)
            · rw [if_pos c13] at H
              have c13b0 := eq_true c13
              have c13b1 : decide ((wrap64 (t156 + a1)) ≤ (t155.size : Int)) = true := decide_eq_true c13
              simp only [Option.some.injEq, Prod.mk.injEq] at H
              obtain ⟨rfl, rfl, rfl, rfl⟩ := H
              go_enter Tryd.func109, Tryd.ntmps109
              go_wp2_with (first | (go_at_call 106; (with_reducible refine (varint_Reader_ok.calls g s0_0 s0_1 s0_2 true t155 t156 t157 w0 _ ?side1 ?side2 A3.out).mono ?_); (case side1 => repeat (first | (with_reducible first | exact HI0.out | apply IsS171.alloc | apply IsS171.drewN | apply IsS171.drew | apply IsS171.set_0 | apply IsS171.set_1 | apply IsS171.set_2) | exact HI0.out)); (case side2 => repeat (first | (with_reducible first | exact HB.out | apply below_alloc | apply pw_below_drewN | apply below_drew1 | refine below_set ?_ (IsS171.ge HI0.out)) | exact HB.out)); rintro e w14 ⟨rfl, hi, hb, hk⟩; have n0_ := Aside0.mk (KeepBut.trans (by repeat (first | (with_reducible first | exact HK.out | apply KeepBut.set_ | apply keep_drewN | apply keep_drew | apply keep_alloc) | exact HK.out)) hk (.inl rfl)); have n1_ := Aside0.mk (hb); have n2_ := Aside0.mk (hi); clear HK; clear HB; clear HI0; have HK := n0_; have HB := n1_; have HI0 := n2_; clear n0_ n1_ n2_; (try clear hb); (try clear hb2); (try clear hk); (try clear hi); obtain ⟨HGz15, hgz15⟩ := HI0.out; have hcz15_0 := cellS171_0 HGz15; have hcz15_1 := cellS171_1 HGz15; have hcz15_2 := cellS171_2 HGz15; have hfz15_0 := blk_frozen HGz15 0; have hfz15_1 := blk_frozen HGz15 1; have hfz15_2 := blk_frozen HGz15 2; clear HGz15 hgz15))
              repeat (go_quiet (first | (go_at_call 106; (with_reducible refine (varint_Reader_ok.calls g s0_0 s0_1 s0_2 true t155 t156 t157 w0 _ ?side1 ?side2 A3.out).mono ?_); (case side1 => repeat (first | (with_reducible first | exact HI0.out | apply IsS171.alloc | apply IsS171.drewN | apply IsS171.drew | apply IsS171.set_0 | apply IsS171.set_1 | apply IsS171.set_2) | exact HI0.out)); (case side2 => repeat (first | (with_reducible first | exact HB.out | apply below_alloc | apply pw_below_drewN | apply below_drew1 | refine below_set ?_ (IsS171.ge HI0.out)) | exact HB.out)); rintro e w14 ⟨rfl, hi, hb, hk⟩; have n0_ := Aside0.mk (KeepBut.trans (by repeat (first | (with_reducible first | exact HK.out | apply KeepBut.set_ | apply keep_drewN | apply keep_drew | apply keep_alloc) | exact HK.out)) hk (.inl rfl)); have n1_ := Aside0.mk (hb); have n2_ := Aside0.mk (hi); clear HK; clear HB; clear HI0; have HK := n0_; have HB := n1_; have HI0 := n2_; clear n0_ n1_ n2_; (try clear hb); (try clear hb2); (try clear hk); (try clear hi); obtain ⟨HGz15, hgz15⟩ := HI0.out; have hcz15_0 := cellS171_0 HGz15; have hcz15_1 := cellS171_1 HGz15; have hcz15_2 := cellS171_2 HGz15; have hfz15_0 := blk_frozen HGz15 0; have hfz15_1 := blk_frozen HGz15 1; have hfz15_2 := blk_frozen HGz15 2; clear HGz15 hgz15)); try go_wp2_with (first | (go_at_call 106; (with_reducible refine (varint_Reader_ok.calls g s0_0 s0_1 s0_2 true t155 t156 t157 w0 _ ?side1 ?side2 A3.out).mono ?_); (case side1 => repeat (first | (with_reducible first | exact HI0.out | apply IsS171.alloc | apply IsS171.drewN | apply IsS171.drew | apply IsS171.set_0 | apply IsS171.set_1 | apply IsS171.set_2) | exact HI0.out)); (case side2 => repeat (first | (with_reducible first | exact HB.out | apply below_alloc | apply pw_below_drewN | apply below_drew1 | refine below_set ?_ (IsS171.ge HI0.out)) | exact HB.out)); rintro e w14 ⟨rfl, hi, hb, hk⟩; have n0_ := Aside0.mk (KeepBut.trans (by repeat (first | (with_reducible first | exact HK.out | apply KeepBut.set_ | apply keep_drewN | apply keep_drew | apply keep_alloc) | exact HK.out)) hk (.inl rfl)); have n1_ := Aside0.mk (hb); have n2_ := Aside0.mk (hi); clear HK; clear HB; clear HI0; have HK := n0_; have HB := n1_; have HI0 := n2_; clear n0_ n1_ n2_; (try clear hb); (try clear hb2); (try clear hk); (try clear hi); obtain ⟨HGz15, hgz15⟩ := HI0.out; have hcz15_0 := cellS171_0 HGz15; have hcz15_1 := cellS171_1 HGz15; have hcz15_2 := cellS171_2 HGz15; have hfz15_0 := blk_frozen HGz15 0; have hfz15_1 := blk_frozen HGz15 1; have hfz15_2 := blk_frozen HGz15 2; clear HGz15 hgz15)))
              go_ret
              exact ⟨by first | rfl | (simp [errW_none, errW_some] <;> rfl) | (simp [*, errW_none, errW_some] <;> rfl), by repeat (first | (with_reducible first | exact HI0.out | apply IsS171.alloc | apply IsS171.drewN | apply IsS171.drew | apply IsS171.set_0 | apply IsS171.set_1 | apply IsS171.set_2) | exact HI0.out), by repeat (first | (with_reducible first | exact HB.out | apply below_alloc | apply pw_below_drewN | apply below_drew1 | refine below_set ?_ (IsS171.ge HI0.out)) | exact HB.out), by repeat (first | (with_reducible first | exact HK.out | apply KeepBut.set_ | apply keep_drewN | apply keep_drew | apply keep_alloc) | exact HK.out)⟩
            · rw [if_neg c13] at H
              exact absurd H (by simp)
          · rw [if_neg c12] at H
            exact absurd H (by simp)
        · rw [if_neg c11] at H
          exact absurd H (by simp)
  · replace c4 := Bool.eq_false_iff.mpr c4
    subst c4
    have H1 : (some ((⟨#[]⟩ : ByteArray), t155, t156, t157)) = some (r1, r2, r3, r4) := by rw [if_neg (show ¬ (false = true) by decide)] at H; exact H
    clear H
    have H := H1
    clear H1
    simp only [Option.some.injEq, Prod.mk.injEq] at H
    obtain ⟨rfl, rfl, rfl, rfl⟩ := H
    go_enter Tryd.func109, Tryd.ntmps109
    go_wp2_with (first | (go_at_call 106; (with_reducible refine (varint_Reader_ok.calls g s0_0 s0_1 s0_2 false t155 t156 t157 w0 _ ?side1 ?side2 A3.out).mono ?_); (case side1 => repeat (first | (with_reducible first | exact HI0.out | apply IsS171.alloc | apply IsS171.drewN | apply IsS171.drew | apply IsS171.set_0 | apply IsS171.set_1 | apply IsS171.set_2) | exact HI0.out)); (case side2 => repeat (first | (with_reducible first | exact HB.out | apply below_alloc | apply pw_below_drewN | apply below_drew1 | refine below_set ?_ (IsS171.ge HI0.out)) | exact HB.out)); rintro e w16 ⟨rfl, hi, hb, hk⟩; have n0_ := Aside0.mk (KeepBut.trans (by repeat (first | (with_reducible first | exact HK.out | apply KeepBut.set_ | apply keep_drewN | apply keep_drew | apply keep_alloc) | exact HK.out)) hk (.inl rfl)); have n1_ := Aside0.mk (hb); have n2_ := Aside0.mk (hi); clear HK; clear HB; clear HI0; have HK := n0_; have HB := n1_; have HI0 := n2_; clear n0_ n1_ n2_; (try clear hb); (try clear hb2); (try clear hk); (try clear hi)))
    repeat (go_quiet (first | (go_at_call 106; (with_reducible refine (varint_Reader_ok.calls g s0_0 s0_1 s0_2 false t155 t156 t157 w0 _ ?side1 ?side2 A3.out).mono ?_); (case side1 => repeat (first | (with_reducible first | exact HI0.out | apply IsS171.alloc | apply IsS171.drewN | apply IsS171.drew | apply IsS171.set_0 | apply IsS171.set_1 | apply IsS171.set_2) | exact HI0.out)); (case side2 => repeat (first | (with_reducible first | exact HB.out | apply below_alloc | apply pw_below_drewN | apply below_drew1 | refine below_set ?_ (IsS171.ge HI0.out)) | exact HB.out)); rintro e w16 ⟨rfl, hi, hb, hk⟩; have n0_ := Aside0.mk (KeepBut.trans (by repeat (first | (with_reducible first | exact HK.out | apply KeepBut.set_ | apply keep_drewN | apply keep_drew | apply keep_alloc) | exact HK.out)) hk (.inl rfl)); have n1_ := Aside0.mk (hb); have n2_ := Aside0.mk (hi); clear HK; clear HB; clear HI0; have HK := n0_; have HB := n1_; have HI0 := n2_; clear n0_ n1_ n2_; (try clear hb); (try clear hb2); (try clear hk); (try clear hi))); try go_wp2_with (first | (go_at_call 106; (with_reducible refine (varint_Reader_ok.calls g s0_0 s0_1 s0_2 false t155 t156 t157 w0 _ ?side1 ?side2 A3.out).mono ?_); (case side1 => repeat (first | (with_reducible first | exact HI0.out | apply IsS171.alloc | apply IsS171.drewN | apply IsS171.drew | apply IsS171.set_0 | apply IsS171.set_1 | apply IsS171.set_2) | exact HI0.out)); (case side2 => repeat (first | (with_reducible first | exact HB.out | apply below_alloc | apply pw_below_drewN | apply below_drew1 | refine below_set ?_ (IsS171.ge HI0.out)) | exact HB.out)); rintro e w16 ⟨rfl, hi, hb, hk⟩; have n0_ := Aside0.mk (KeepBut.trans (by repeat (first | (with_reducible first | exact HK.out | apply KeepBut.set_ | apply keep_drewN | apply keep_drew | apply keep_alloc) | exact HK.out)) hk (.inl rfl)); have n1_ := Aside0.mk (hb); have n2_ := Aside0.mk (hi); clear HK; clear HB; clear HI0; have HK := n0_; have HB := n1_; have HI0 := n2_; clear n0_ n1_ n2_; (try clear hb); (try clear hb2); (try clear hk); (try clear hi))))
    go_ret
    exact ⟨by first | rfl | (simp [errW_none, errW_some] <;> rfl) | (simp [*, errW_none, errW_some] <;> rfl), by repeat (first | (with_reducible first | exact HI0.out | apply IsS171.alloc | apply IsS171.drewN | apply IsS171.drew | apply IsS171.set_0 | apply IsS171.set_1 | apply IsS171.set_2) | exact HI0.out), by repeat (first | (with_reducible first | exact HB.out | apply below_alloc | apply pw_below_drewN | apply below_drew1 | refine below_set ?_ (IsS171.ge HI0.out)) | exact HB.out), by repeat (first | (with_reducible first | exact HK.out | apply KeepBut.set_ | apply keep_drewN | apply keep_drew | apply keep_alloc) | exact HK.out)⟩
end Go.Proofs.YteilnbnnhocciaaDoor.KF

/-! KF35 -/
namespace Go.Proofs.YteilnbnnhocciaaDoor.KF
open Go.RowKit Go.Proofs.YteilnbnnhocciaaDoorW.PrintWords Go.Proofs.YteilnbnnhocciaaDoorW.PrintLast Go.Proofs.YteilnbnnhocciaaDoorW.PrintMore Go.Proofs.YteilnbnnhocciaaDoorM
attribute [local go_sem] max2_int min2_int max_two min_two max_three min_three max_four min_four
set_option linter.unusedVariables false
set_option linter.unusedSimpArgs false
def varint_big.l0 : Nat → ByteArray → Int → Int → Int → Option (Int)
  | 0, _, _, _, _ => none
  | k + 1, x0, x3, x6, x7 => if x7 < x6 then (if 0 ≤ x7 then (if x7 < (x0.size : Int) then (if 0 ≤ (wrap64 (8 * x7)) then (varint_big.l0 k x0 (Go.bits .or .u64 x3 (shl .u64 (IntKind.u64.wrap (bt x0 x7)) (wrap64 (8 * x7)))) x6 (wrap64 (x7 + 1))) else (none)) else (none)) else (none)) else (some x3)
def varint_big.f (k : Nat) (a0 : ByteArray) : Option (Int) := varint_big.l0 k a0 0 (a0.size : Int) 0
set_option maxHeartbeats 8000000 in
set_option maxRecDepth 100000 in
theorem varint_big.calls (k : Nat) (a0 : ByteArray) (r : Int) (w : World) (h : varint_big.f k a0 = some r) :
    Calls Tryd.prog 173 #[.string a0] w fun e w' => e = .returned (.int .u64 r) ∧ Drawn0 w w' := by
  have H : (varint_big.l0 k a0 0 (a0.size : Int) 0) = some r := h
  clear h
  have H' := Aside0.mk H
  clear H
  go_enter Tryd.func173, Tryd.ntmps173
  go_wp2
  go_loopg [3, 7] k (fun kq v3 v7 w' => ∃ (x3_1 : Int) (x7_1 : Int), v3 = .int .u64 x3_1 ∧ v7 = .int .i64 x7_1 ∧ Aside0 (varint_big.l0 kq a0 x3_1 (a0.size : Int) x7_1 = some r) ∧ Aside0 (kq ≤ k) ∧ Drawn0 w w')
  case atStart => exact ⟨(0), (0), (by first | rfl | (simp; done) | (simp [*]; done)), (by first | rfl | (simp; done) | (simp [*]; done)), H', ⟨Nat.le_refl _⟩, by repeat (first | exact Drawn0.refl _ | apply Drawn0.step)⟩
  case round =>
    clear H'
    try clear c1
    obtain ⟨x3_1, x7_1, rfl, rfl, HA, HK1, ⟨m1, rfl⟩⟩ := hrel
    cases gk with
    | zero => exact absurd HA.out (by simp [varint_big.l0])
    | succ k1 =>
      have H := HA.out
      clear HA
      simp only [varint_big.l0] at H
      by_cases c2 : x7_1 < (a0.size : Int)
      · rw [if_pos c2] at H
        have c2b0 : decide (x7_1 < (a0.size : Int)) = true := decide_eq_true c2
        clear c2
        by_cases c3 : 0 ≤ x7_1
        · rw [if_pos c3] at H
          have c3b0 : decide (0 ≤ x7_1) = true := decide_eq_true c3
          clear c3
          by_cases c4 : x7_1 < (a0.size : Int)
          · rw [if_pos c4] at H
            have c4b0 : decide (x7_1 < (a0.size : Int)) = true := decide_eq_true c4
            clear c4
            obtain ⟨ji6, hji6⟩ : ∃ j_ : Int, (wrap64 (8 * x7_1)) = j_ := ⟨_, rfl⟩
            replace H : (if 0 ≤ (ji6) then (varint_big.l0 k1 a0 (Go.bits .or .u64 x3_1 (shl .u64 (IntKind.u64.wrap (bt a0 x7_1)) (ji6))) (a0.size : Int) (wrap64 (x7_1 + 1))) else (none)) = some r := by first | (rw [hji6] at H; exact H) | (simp only [hji6] at H ⊢; exact H)
            have hji6w : (IntKind.i64.wrap (8 * x7_1)) = ji6 := (i64_w _).trans hji6
            by_cases c7 : 0 ≤ (ji6)
            · rw [if_pos c7] at H
              have c7b0 := eq_true c7
              have c7b1 : decide (0 ≤ (ji6)) = true := decide_eq_true c7
              clear c7
              obtain ⟨ji8, hji8⟩ : ∃ j_ : Int, (shl .u64 (IntKind.u64.wrap (bt a0 x7_1)) (ji6)) = j_ := ⟨_, rfl⟩
              replace H : (varint_big.l0 k1 a0 (Go.bits .or .u64 x3_1 (ji8)) (a0.size : Int) (wrap64 (x7_1 + 1))) = some r := by first | (rw [hji8] at H; exact H) | (simp only [hji8] at H ⊢; exact H)
              have hji8_ : (IntKind.u64.wrap ((IntKind.u64.wrap (bt a0 x7_1)) * 2 ^ min (ji6).toNat 64)) = ji8 := hji8
              have hji8z : (ji6) ≤ 64 → (IntKind.u64.wrap ((IntKind.u64.wrap (bt a0 x7_1)) * 2 ^ (ji6).toNat)) = ji8 := shl_small hji8
              have H' := Aside0.mk H
              clear H
              have p5 : 0 ≤ (x7_1 : Int) := of_decide_eq_true (by first | (with_reducible assumption) | assumption)
              have q5 : x7_1 < (a0.size : Int) := of_decide_eq_true (by first | (with_reducible assumption) | assumption)
              have hx5 := bt_at a0 x7_1
              replace p5 := eq_true p5
              replace q5 := eq_true q5
              go_wp2
              go_roundg k1
              case measure => have := HK1.out; omega
              case rel => exact ⟨(Go.bits .or .u64 x3_1 (ji8)), (wrap64 (x7_1 + 1)), (by first | rfl | (simp; done) | (simp only [← hji8] <;> (first | rfl | simp)) | (simp [*]; done)), (by first | rfl | (simp; done) | (simp [*]; done)), H', ⟨by have := HK1.out; omega⟩, by repeat (first | exact Drawn0.refl _ | apply Drawn0.step)⟩
            · rw [if_neg c7] at H
              exact absurd H (by simp)
          · rw [if_neg c4] at H
            exact absurd H (by simp)
        · rw [if_neg c3] at H
          exact absurd H (by simp)
      · rw [if_neg c2] at H
        have c2b0 : decide (x7_1 < (a0.size : Int)) = false := decide_eq_false c2
        clear c2
        obtain rfl := Option.some.inj H
        go_wp2
        go_ret
        exact ⟨by first | rfl | (simp; done) | (simp [*]; done), by repeat (first | exact Drawn0.refl _ | apply Drawn0.step)⟩
end Go.Proofs.YteilnbnnhocciaaDoor.KF

/-! KF36 -/
namespace Go.Proofs.YteilnbnnhocciaaDoor.KF
open Go.RowKit Go.Proofs.YteilnbnnhocciaaDoorW.PrintWords Go.Proofs.YteilnbnnhocciaaDoorW.PrintLast Go.Proofs.YteilnbnnhocciaaDoorW.PrintMore Go.Proofs.YteilnbnnhocciaaDoorM
attribute [local go_sem] max2_int min2_int max_two min_two max_three min_three max_four min_four
set_option linter.unusedVariables false
set_option linter.unusedSimpArgs false
def varint_Reader_Fixed.f (k : Nat) (s0_0 : ByteArray) (s0_1 : Int) (s0_2 : Int) : Option (Int × ByteArray × Int × Int) := (varint_Reader_Take.f s0_0 s0_1 s0_2 4).bind fun bt158 => ((varint_big.f k bt158.1).bind fun t162 => (some ((t162) % 4294967296, bt158.2.1, bt158.2.2.1, bt158.2.2.2)))
set_option maxHeartbeats 8000000 in
set_option maxRecDepth 100000 in
theorem varint_Reader_Fixed.calls (k : Nat) (g : Nat) (s0_0 : ByteArray) (s0_1 : Int) (s0_2 : Int) (r1 : Int) (r2 : ByteArray) (r3 : Int) (r4 : Int) (w0 w : World) (hI : IsS171 w0 w g s0_0 s0_1 s0_2) (hB : Below w0.heap.size w0 w) (h : varint_Reader_Fixed.f k s0_0 s0_1 s0_2 = some (r1, r2, r3, r4)) :
    Calls Tryd.prog 142 #[.pointer (some ⟨g, 0, none⟩)] w fun e w' => e = .returned (.int .u32 r1) ∧ IsS171 w0 w' g r2 r3 r4 ∧ Below w0.heap.size w0 w' ∧ KeepBut w w' g none := by
  have HI0 := Aside0.mk hI
  have HK := Aside0.mk (KeepBut.refl w g none)
  have HL := Aside0.mk hB.size
  clear hI
  have HW0 := Aside0.mk hB.size
  have HB := Aside0.mk hB
  clear hB
  have H : ((varint_Reader_Take.f s0_0 s0_1 s0_2 4).bind fun bt158 => ((varint_big.f k bt158.1).bind fun t162 => (some ((t162) % 4294967296, bt158.2.1, bt158.2.2.1, bt158.2.2.2)))) = some (r1, r2, r3, r4) := h
  clear h
  replace H := Option.bind_eq_some_iff.mp H
  obtain ⟨⟨t158, t159, t160, t161⟩, A20, H⟩ := H
  replace H : ((varint_big.f k t158).bind fun t162 => (some ((t162) % 4294967296, t159, t160, t161))) = some (r1, r2, r3, r4) := H
  have A2 := Aside0.mk A20
  clear A20
  replace H := Option.bind_eq_some_iff.mp H
  obtain ⟨t162, A30, H⟩ := H
  replace H : (some ((t162) % 4294967296, t159, t160, t161)) = some (r1, r2, r3, r4) := H
  have A3 := Aside0.mk A30
  clear A30
  simp only [Option.some.injEq, Prod.mk.injEq] at H
  obtain ⟨rfl, rfl, rfl, rfl⟩ := H
  go_enter Tryd.func142, Tryd.ntmps142
  go_wp2_with (first | ((with_reducible refine gate_callee (f := 109) rfl ?_); refine goesL_ (some 4) rfl rfl Tryd.func109 (by kernel_rfl) rfl #[.pointer (some ⟨g, 0, none⟩), .int .i64 4] rfl (by (try simp only [List.map_toArray, List.map_cons, List.map_nil]); first | done | rfl | (simp only [List.length_drop, List.length_take]; rfl)) ?_; (with_reducible refine (varint_Reader_Take.calls g s0_0 s0_1 s0_2 4 t158 t159 t160 t161 w0 _ ?side1 ?side2 A2.out).mono ?_); (case side1 => repeat (first | (with_reducible first | exact HI0.out | apply IsS171.alloc | apply IsS171.drewN | apply IsS171.drew | apply IsS171.set_0 | apply IsS171.set_1 | apply IsS171.set_2) | exact HI0.out)); (case side2 => repeat (first | (with_reducible first | exact HB.out | apply below_alloc | apply pw_below_drewN | apply below_drew1 | refine below_set ?_ (IsS171.ge HI0.out)) | exact HB.out)); rintro e w4 ⟨rfl, hi, hb, hk⟩; refine ⟨_, rfl, ?_⟩; have n0_ := Aside0.mk (KeepBut.trans (by repeat (first | (with_reducible first | exact HK.out | apply KeepBut.set_ | apply keep_drewN | apply keep_drew | apply keep_alloc) | exact HK.out)) hk (.inl rfl)); have n1_ := Aside0.mk (hb); have n2_ := Aside0.mk (hi); clear HK; clear HB; clear HI0; have HK := n0_; have HB := n1_; have HI0 := n2_; clear n0_ n1_ n2_; (try clear hb); (try clear hb2); (try clear hk); (try clear hi)) | ((with_reducible refine gate_callee (f := 173) rfl ?_); refine goesL_ (some 5) rfl rfl Tryd.func173 (by kernel_rfl) rfl #[.string t158] rfl (by (try simp only [List.map_toArray, List.map_cons, List.map_nil]); first | done | rfl | (simp only [List.length_drop, List.length_take]; rfl)) ?_; (with_reducible refine (varint_big.calls k t158 t162 _ A3.out).mono ?_); rintro e w' ⟨rfl, ⟨nd, rfl⟩⟩; refine ⟨_, rfl, ?_⟩))
  go_ret
  exact ⟨by first | rfl | (simp [errW_none, errW_some] <;> rfl) | (simp [*, errW_none, errW_some] <;> rfl), by repeat (first | (with_reducible first | exact HI0.out | apply IsS171.alloc | apply IsS171.drewN | apply IsS171.drew | apply IsS171.set_0 | apply IsS171.set_1 | apply IsS171.set_2) | exact HI0.out), by repeat (first | (with_reducible first | exact HB.out | apply below_alloc | apply pw_below_drewN | apply below_drew1 | refine below_set ?_ (IsS171.ge HI0.out)) | exact HB.out), by repeat (first | (with_reducible first | exact HK.out | apply KeepBut.set_ | apply keep_drewN | apply keep_drew | apply keep_alloc) | exact HK.out)⟩
end Go.Proofs.YteilnbnnhocciaaDoor.KF

/-! KF37 -/
namespace Go.Proofs.YteilnbnnhocciaaDoor.KF
open Go.RowKit Go.Proofs.YteilnbnnhocciaaDoorW.PrintWords Go.Proofs.YteilnbnnhocciaaDoorW.PrintLast Go.Proofs.YteilnbnnhocciaaDoorW.PrintMore Go.Proofs.YteilnbnnhocciaaDoorM
attribute [local go_sem] max2_int min2_int max_two min_two max_three min_three max_four min_four
set_option linter.unusedVariables false
set_option linter.unusedSimpArgs false
mutual
def frame_take.j0 : Nat → ByteArray → Int → Int → Bool → Option (Int × ByteArray × Int)
  | 0, _, _, _, _ => none
  | k + 1, x0, x1, x7, x30 => if x30 = true then (some (0, (⟨#[]⟩ : ByteArray), 0)) else (if 0 ≤ (wrap64 (x1 + x7)) then (if (wrap64 (x1 + x7)) ≤ (wrap64 ((wrap64 (x1 + x7)) + 7)) then (if (wrap64 ((wrap64 (x1 + x7)) + 7)) ≤ (x0.size : Int) then ((varint_Over.f (x0.extract ((wrap64 (x1 + x7)) : Int).toNat ((wrap64 ((wrap64 (x1 + x7)) + 7)) : Int).toNat)).bind fun bt165 => ((varint_Reader_Fixed.f k bt165.1 bt165.2.1 bt165.2.2).bind fun bt169 => (if 0 ≤ (wrap64 ((wrap64 (x1 + x7)) + 4)) then (if (wrap64 ((wrap64 (x1 + x7)) + 4)) < (x0.size : Int) then (if 0 ≤ (wrap64 ((wrap64 (x1 + x7)) + 5)) then (if (wrap64 ((wrap64 (x1 + x7)) + 5)) < (x0.size : Int) then (if 0 ≤ (wrap64 ((wrap64 (x1 + x7)) + 6)) then (if (wrap64 ((wrap64 (x1 + x7)) + 6)) < (x0.size : Int) then (if (bt x0 (wrap64 ((wrap64 (x1 + x7)) + 6))) < 1 then (frame_take.j1 k x0 (wrap64 (x1 + x7)) (Go.bits .or .i64 (wrap64 (bt x0 (wrap64 ((wrap64 (x1 + x7)) + 4)))) (wrap64 ((wrap64 (bt x0 (wrap64 ((wrap64 (x1 + x7)) + 5)))) * 256))) bt169.1 (bt x0 (wrap64 ((wrap64 (x1 + x7)) + 6))) true) else (if (bt x0 (wrap64 ((wrap64 (x1 + x7)) + 6))) > 4 then (frame_take.j1 k x0 (wrap64 (x1 + x7)) (Go.bits .or .i64 (wrap64 (bt x0 (wrap64 ((wrap64 (x1 + x7)) + 4)))) (wrap64 ((wrap64 (bt x0 (wrap64 ((wrap64 (x1 + x7)) + 5)))) * 256))) bt169.1 (bt x0 (wrap64 ((wrap64 (x1 + x7)) + 6))) true) else ((frame_left.f (wrap64 (x1 + x7))).bind fun t173 => (if (Go.bits .or .i64 (wrap64 (bt x0 (wrap64 ((wrap64 (x1 + x7)) + 4)))) (wrap64 ((wrap64 (bt x0 (wrap64 ((wrap64 (x1 + x7)) + 5)))) * 256))) > (wrap64 (t173 - 7)) then (frame_take.j1 k x0 (wrap64 (x1 + x7)) (Go.bits .or .i64 (wrap64 (bt x0 (wrap64 ((wrap64 (x1 + x7)) + 4)))) (wrap64 ((wrap64 (bt x0 (wrap64 ((wrap64 (x1 + x7)) + 5)))) * 256))) bt169.1 (bt x0 (wrap64 ((wrap64 (x1 + x7)) + 6))) true) else (frame_take.j1 k x0 (wrap64 (x1 + x7)) (Go.bits .or .i64 (wrap64 (bt x0 (wrap64 ((wrap64 (x1 + x7)) + 4)))) (wrap64 ((wrap64 (bt x0 (wrap64 ((wrap64 (x1 + x7)) + 5)))) * 256))) bt169.1 (bt x0 (wrap64 ((wrap64 (x1 + x7)) + 6))) (decide ((wrap64 ((wrap64 ((wrap64 (x1 + x7)) + 7)) + (Go.bits .or .i64 (wrap64 (bt x0 (wrap64 ((wrap64 (x1 + x7)) + 4)))) (wrap64 ((wrap64 (bt x0 (wrap64 ((wrap64 (x1 + x7)) + 5)))) * 256))))) > (x0.size : Int)))))))) else (none)) else (none)) else (none)) else (none)) else (none)) else (none)))) else (none)) else (none)) else (none))
def frame_take.j1 : Nat → ByteArray → Int → Int → Int → Int → Bool → Option (Int × ByteArray × Int)
  | 0, _, _, _, _, _, _ => none
  | k + 1, x0, x1, x7, x9, x10, x79 => if x79 = true then (some (0, (⟨#[]⟩ : ByteArray), 0)) else (if 0 ≤ (wrap64 (x1 + 7)) then (if (wrap64 (x1 + 7)) ≤ (wrap64 ((wrap64 (x1 + 7)) + x7)) then (if (wrap64 ((wrap64 (x1 + 7)) + x7)) ≤ (x0.size : Int) then ((frame_sum.f x10 (x0.extract ((wrap64 (x1 + 7)) : Int).toNat ((wrap64 ((wrap64 (x1 + 7)) + x7)) : Int).toNat)).bind fun t174 => (if t174 = x9 then (some (x10, x0.extract ((wrap64 (x1 + 7)) : Int).toNat ((wrap64 ((wrap64 (x1 + 7)) + x7)) : Int).toNat, wrap64 ((wrap64 (x1 + 7)) + x7))) else (some (0, (⟨#[]⟩ : ByteArray), 0)))) else (none)) else (none)) else (none))
end
def frame_take.f (k : Nat) (a0 : ByteArray) (a1 : Int) : Option (Int × ByteArray × Int) := (frame_pad.f a1).bind fun t163 => (if (wrap64 ((wrap64 (a1 + t163)) + 7)) > (a0.size : Int) then (frame_take.j0 k a0 a1 t163 true) else (if 0 ≤ a1 then (if a1 ≤ (wrap64 (a1 + t163)) then (if (wrap64 (a1 + t163)) ≤ (a0.size : Int) then ((strings_Trim.f (a0.extract (a1 : Int).toNat ((wrap64 (a1 + t163)) : Int).toNat) (⟨#[0]⟩ : ByteArray)).bind fun t164 => (frame_take.j0 k a0 a1 t163 (t164.toList != ([] : List UInt8)))) else (none)) else (none)) else (none)))
set_option maxHeartbeats 8000000 in
set_option maxRecDepth 100000 in
theorem frame_take.calls (k : Nat) (a0 : ByteArray) (a1 : Int) (r1 : Int) (r2 : ByteArray) (r3 : Int) (w : World) (h : frame_take.f k a0 a1 = some (r1, r2, r3)) :
    Calls Tryd.prog 117 #[.string a0, .int .i64 a1] w fun e w' => e = .returned (.tuple #[.int .u8 r1, .string r2, .int .i64 r3]) ∧ Below w.heap.size w w' := by
  have HB := Aside0.mk (Below.refl w.heap.size w)
  have H : ((frame_pad.f a1).bind fun t163 => (if (wrap64 ((wrap64 (a1 + t163)) + 7)) > (a0.size : Int) then (frame_take.j0 k a0 a1 t163 true) else (if 0 ≤ a1 then (if a1 ≤ (wrap64 (a1 + t163)) then (if (wrap64 (a1 + t163)) ≤ (a0.size : Int) then ((strings_Trim.f (a0.extract (a1 : Int).toNat ((wrap64 (a1 + t163)) : Int).toNat) (⟨#[0]⟩ : ByteArray)).bind fun t164 => (frame_take.j0 k a0 a1 t163 (t164.toList != ([] : List UInt8)))) else (none)) else (none)) else (none)))) = some (r1, r2, r3) := h
  clear h
  replace H := Option.bind_eq_some_iff.mp H
  obtain ⟨t163, A30, H⟩ := H
  replace H : (if (wrap64 ((wrap64 (a1 + t163)) + 7)) > (a0.size : Int) then (frame_take.j0 k a0 a1 t163 true) else (if 0 ≤ a1 then (if a1 ≤ (wrap64 (a1 + t163)) then (if (wrap64 (a1 + t163)) ≤ (a0.size : Int) then ((strings_Trim.f (a0.extract (a1 : Int).toNat ((wrap64 (a1 + t163)) : Int).toNat) (⟨#[0]⟩ : ByteArray)).bind fun t164 => (frame_take.j0 k a0 a1 t163 (t164.toList != ([] : List UInt8)))) else (none)) else (none)) else (none))) = some (r1, r2, r3) := H
  have A3 := Aside0.mk A30
  clear A30
  have HC4 := Aside0.mk H
  clear H
  go_enter Tryd.func117, Tryd.ntmps117
  go_upto_region 2 with (first | (go_at_call 77; (with_reducible refine (frame_pad.calls a1 t163 _ A3.out).mono ?_); rintro e w' ⟨rfl, ⟨nd, rfl⟩⟩; (try first | exact ⟨rfl, _, World.drewN_drewN _ _ _⟩ | exact ⟨rfl, _, Eq.trans (World.drewN_drewN _ _ _) (congrArg (World.drewN _) (Nat.add_assoc _ _ _))⟩)))
  repeat (go_quiet (first | (go_at_call 77; (with_reducible refine (frame_pad.calls a1 t163 _ A3.out).mono ?_); rintro e w' ⟨rfl, ⟨nd, rfl⟩⟩; (try first | exact ⟨rfl, _, World.drewN_drewN _ _ _⟩ | exact ⟨rfl, _, Eq.trans (World.drewN_drewN _ _ _) (congrArg (World.drewN _) (Nat.add_assoc _ _ _))⟩))); go_upto_region 2 with (first | (go_at_call 77; (with_reducible refine (frame_pad.calls a1 t163 _ A3.out).mono ?_); rintro e w' ⟨rfl, ⟨nd, rfl⟩⟩; (try first | exact ⟨rfl, _, World.drewN_drewN _ _ _⟩ | exact ⟨rfl, _, Eq.trans (World.drewN_drewN _ _ _) (congrArg (World.drewN _) (Nat.add_assoc _ _ _))⟩))))
  (try simp only [Act.put, List.setIfInBounds_toArray, List.set_cons_zero, List.set_cons_succ])
  go_cut [30] (fun v30 wc => ∃ (kq : Nat) (x30_3 : Bool), v30 = .bool x30_3 ∧ Aside0 (frame_take.j0 kq a0 a1 t163 x30_3 = some (r1, r2, r3)) ∧ Aside0 (kq ≤ k) ∧ Aside0 (Below w.heap.size w wc))
  case first =>
    have H := HC4.out
    clear HC4
    by_cases c5 : (wrap64 ((wrap64 (a1 + t163)) + 7)) > (a0.size : Int)
    · rw [if_pos c5] at H
      have c5b0 : decide ((a0.size : Int) < (wrap64 ((wrap64 (a1 + t163)) + 7))) = true := decide_eq_true c5
      clear c5
      (first | rw [c5b0] | (simp only [i64_w, i32_w]; rw [c5b0]) | skip)
      have H' := Aside0.mk H
      clear H
      go_wp2
      repeat (go_quiet (fail); try go_wp2)
      go_meet
      case rel => exact ⟨_, (true), (by first | rfl | (simp; done) | (simp [*]; done)), H', ⟨by first | omega | exact Nat.le_refl _⟩, ⟨by repeat (first | (with_reducible first | exact HB.out | apply below_alloc | apply pw_below_drewN | apply below_drew1) | exact HB.out)⟩⟩
    · rw [if_neg c5] at H
      have c5b0 : decide ((a0.size : Int) < (wrap64 ((wrap64 (a1 + t163)) + 7))) = false := decide_eq_false c5
      clear c5
      (first | rw [c5b0] | (simp only [i64_w, i32_w]; rw [c5b0]) | skip)
      by_cases c6 : 0 ≤ a1
      · rw [if_pos c6] at H
        have c6b0 := eq_true c6
        have c6b1 : decide (0 ≤ a1) = true := decide_eq_true c6
        clear c6
        by_cases c7 : a1 ≤ (wrap64 (a1 + t163))
        · rw [if_pos c7] at H
          have c7b0 := eq_true c7
          have c7b1 : decide (a1 ≤ (wrap64 (a1 + t163))) = true := decide_eq_true c7
          by_cases c8 : (wrap64 (a1 + t163)) ≤ (a0.size : Int)
          · rw [if_pos c8] at H
            have c8b0 := eq_true c8
            have c8b1 : decide ((wrap64 (a1 + t163)) ≤ (a0.size : Int)) = true := decide_eq_true c8
            replace H := Option.bind_eq_some_iff.mp H
            obtain ⟨t164, A90, H⟩ := H
            replace H : (frame_take.j0 k a0 a1 t163 (t164.toList != ([] : List UInt8))) = some (r1, r2, r3) := H
            have A9 := Aside0.mk A90
            clear A90
            have H' := Aside0.mk H
            clear H
            go_wp2_with (first | (go_at_call 141; (with_reducible refine (strings_Trim.calls (a0.extract (a1 : Int).toNat ((wrap64 (a1 + t163)) : Int).toNat) (⟨#[0]⟩ : ByteArray) t164 _ A9.out).mono ?_); rintro e w10 ⟨rfl, hb⟩; have n0_ := Aside0.mk (below_step (by repeat (first | (with_reducible first | exact HB.out | apply below_alloc | apply pw_below_drewN | apply below_drew1) | exact HB.out)) hb); clear HB; have HB := n0_; clear n0_; (try clear hb); (try clear hb2); (try clear hk); (try clear hi)))
            repeat (go_quiet (first | (go_at_call 141; (with_reducible refine (strings_Trim.calls (a0.extract (a1 : Int).toNat ((wrap64 (a1 + t163)) : Int).toNat) (⟨#[0]⟩ : ByteArray) t164 _ A9.out).mono ?_); rintro e w10 ⟨rfl, hb⟩; have n0_ := Aside0.mk (below_step (by repeat (first | (with_reducible first | exact HB.out | apply below_alloc | apply pw_below_drewN | apply below_drew1) | exact HB.out)) hb); clear HB; have HB := n0_; clear n0_; (try clear hb); (try clear hb2); (try clear hk); (try clear hi))); try go_wp2_with (first | (go_at_call 141; (with_reducible refine (strings_Trim.calls (a0.extract (a1 : Int).toNat ((wrap64 (a1 + t163)) : Int).toNat) (⟨#[0]⟩ : ByteArray) t164 _ A9.out).mono ?_); rintro e w10 ⟨rfl, hb⟩; have n0_ := Aside0.mk (below_step (by repeat (first | (with_reducible first | exact HB.out | apply below_alloc | apply pw_below_drewN | apply below_drew1) | exact HB.out)) hb); clear HB; have HB := n0_; clear n0_; (try clear hb); (try clear hb2); (try clear hk); (try clear hi))))
            go_meet
            case rel => exact ⟨_, ((t164.toList != ([] : List UInt8))), (by first | rfl | (simp; done) | (simp [*]; done) | (simp; cases t164.toList <;> rfl)), H', ⟨by first | omega | exact Nat.le_refl _⟩, ⟨by repeat (first | (with_reducible first | exact HB.out | apply below_alloc | apply pw_below_drewN | apply below_drew1) | exact HB.out)⟩⟩
          · rw [if_neg c8] at H
            exact absurd H (by simp)
        · rw [if_neg c7] at H
          exact absurd H (by simp)
      · rw [if_neg c6] at H
        exact absurd H (by simp)
  case rest =>
    clear HC4
    try clear c1
    try clear p2
    try clear c5
    try clear c5b0
    try clear c6
    try clear c6b0
    try clear c6b1
    try clear p6
    try clear c7
    try clear c7b0
    try clear c7b1
    try clear c8
    try clear c8b0
    try clear c8b1
    obtain ⟨kq, x30_3, rfl, HA, HJ3, HB⟩ := hcut
    cases kq with
    | zero => exact absurd HA.out (by simp [frame_take.j0])
    | succ kj3 =>
      have H := HA.out
      clear HA
      simp only [frame_take.j0] at H
      by_cases c11 : x30_3 = true
      · subst c11
        have H1 : (some (0, (⟨#[]⟩ : ByteArray), 0)) = some (r1, r2, r3) := by rw [if_pos rfl] at H; exact H
        clear H
        have H := H1
        clear H1
        simp only [Option.some.injEq, Prod.mk.injEq] at H
        obtain ⟨rfl, rfl, rfl⟩ := H
        go_wp2
        repeat (go_quiet (fail); try go_wp2)
        go_ret3
        exact ⟨by first | rfl | (simp [errW_none, errW_some] <;> rfl) | (simp [*, errW_none, errW_some] <;> rfl), by repeat (first | (with_reducible first | exact HB.out | apply below_alloc | apply pw_below_drewN | apply below_drew1) | exact HB.out)⟩
      · replace c11 := Bool.eq_false_iff.mpr c11
        subst c11
        have H1 : (if 0 ≤ (wrap64 (a1 + t163)) then (if (wrap64 (a1 + t163)) ≤ (wrap64 ((wrap64 (a1 + t163)) + 7)) then (if (wrap64 ((wrap64 (a1 + t163)) + 7)) ≤ (a0.size : Int) then ((varint_Over.f (a0.extract ((wrap64 (a1 + t163)) : Int).toNat ((wrap64 ((wrap64 (a1 + t163)) + 7)) : Int).toNat)).bind fun bt165 => ((varint_Reader_Fixed.f kj3 bt165.1 bt165.2.1 bt165.2.2).bind fun bt169 => (if 0 ≤ (wrap64 ((wrap64 (a1 + t163)) + 4)) then (if (wrap64 ((wrap64 (a1 + t163)) + 4)) < (a0.size : Int) then (if 0 ≤ (wrap64 ((wrap64 (a1 + t163)) + 5)) then (if (wrap64 ((wrap64 (a1 + t163)) + 5)) < (a0.size : Int) then (if 0 ≤ (wrap64 ((wrap64 (a1 + t163)) + 6)) then (if (wrap64 ((wrap64 (a1 + t163)) + 6)) < (a0.size : Int) then (if (bt a0 (wrap64 ((wrap64 (a1 + t163)) + 6))) < 1 then (frame_take.j1 kj3 a0 (wrap64 (a1 + t163)) (Go.bits .or .i64 (wrap64 (bt a0 (wrap64 ((wrap64 (a1 + t163)) + 4)))) (wrap64 ((wrap64 (bt a0 (wrap64 ((wrap64 (a1 + t163)) + 5)))) * 256))) bt169.1 (bt a0 (wrap64 ((wrap64 (a1 + t163)) + 6))) true) else (if (bt a0 (wrap64 ((wrap64 (a1 + t163)) + 6))) > 4 then (frame_take.j1 kj3 a0 (wrap64 (a1 + t163)) (Go.bits .or .i64 (wrap64 (bt a0 (wrap64 ((wrap64 (a1 + t163)) + 4)))) (wrap64 ((wrap64 (bt a0 (wrap64 ((wrap64 (a1 + t163)) + 5)))) * 256))) bt169.1 (bt a0 (wrap64 ((wrap64 (a1 + t163)) + 6))) true) else ((frame_left.f (wrap64 (a1 + t163))).bind fun t173 => (if (Go.bits .or .i64 (wrap64 (bt a0 (wrap64 ((wrap64 (a1 + t163)) + 4)))) (wrap64 ((wrap64 (bt a0 (wrap64 ((wrap64 (a1 + t163)) + 5)))) * 256))) > (wrap64 (t173 - 7)) then (frame_take.j1 kj3 a0 (wrap64 (a1 + t163)) (Go.bits .or .i64 (wrap64 (bt a0 (wrap64 ((wrap64 (a1 + t163)) + 4)))) (wrap64 ((wrap64 (bt a0 (wrap64 ((wrap64 (a1 + t163)) + 5)))) * 256))) bt169.1 (bt a0 (wrap64 ((wrap64 (a1 + t163)) + 6))) true) else (frame_take.j1 kj3 a0 (wrap64 (a1 + t163)) (Go.bits .or .i64 (wrap64 (bt a0 (wrap64 ((wrap64 (a1 + t163)) + 4)))) (wrap64 ((wrap64 (bt a0 (wrap64 ((wrap64 (a1 + t163)) + 5)))) * 256))) bt169.1 (bt a0 (wrap64 ((wrap64 (a1 + t163)) + 6))) (decide ((wrap64 ((wrap64 ((wrap64 (a1 + t163)) + 7)) + (Go.bits .or .i64 (wrap64 (bt a0 (wrap64 ((wrap64 (a1 + t163)) + 4)))) (wrap64 ((wrap64 (bt a0 (wrap64 ((wrap64 (a1 + t163)) + 5)))) * 256))))) > (a0.size : Int)))))))) else (none)) else (none)) else (none)) else (none)) else (none)) else (none)))) else (none)) else (none)) else (none)) = some (r1, r2, r3) := by rw [if_neg (show ¬ (false = true) by decide)] at H; exact H
        clear H
        have H := H1
        clear H1
        obtain ⟨ji12, hji12⟩ : ∃ j_ : Int, (wrap64 (a1 + t163)) = j_ := ⟨_, rfl⟩
        replace H : (if 0 ≤ (ji12) then (if (ji12) ≤ (wrap64 ((ji12) + 7)) then (if (wrap64 ((ji12) + 7)) ≤ (a0.size : Int) then ((varint_Over.f (a0.extract ((ji12) : Int).toNat ((wrap64 ((ji12) + 7)) : Int).toNat)).bind fun bt165 => ((varint_Reader_Fixed.f kj3 bt165.1 bt165.2.1 bt165.2.2).bind fun bt169 => (if 0 ≤ (wrap64 ((ji12) + 4)) then (if (wrap64 ((ji12) + 4)) < (a0.size : Int) then (if 0 ≤ (wrap64 ((ji12) + 5)) then (if (wrap64 ((ji12) + 5)) < (a0.size : Int) then (if 0 ≤ (wrap64 ((ji12) + 6)) then (if (wrap64 ((ji12) + 6)) < (a0.size : Int) then (if (bt a0 (wrap64 ((ji12) + 6))) < 1 then (frame_take.j1 kj3 a0 ji12 (Go.bits .or .i64 (wrap64 (bt a0 (wrap64 ((ji12) + 4)))) (wrap64 ((wrap64 (bt a0 (wrap64 ((ji12) + 5)))) * 256))) bt169.1 (bt a0 (wrap64 ((ji12) + 6))) true) else (if (bt a0 (wrap64 ((ji12) + 6))) > 4 then (frame_take.j1 kj3 a0 ji12 (Go.bits .or .i64 (wrap64 (bt a0 (wrap64 ((ji12) + 4)))) (wrap64 ((wrap64 (bt a0 (wrap64 ((ji12) + 5)))) * 256))) bt169.1 (bt a0 (wrap64 ((ji12) + 6))) true) else ((frame_left.f (ji12)).bind fun t173 => (if (Go.bits .or .i64 (wrap64 (bt a0 (wrap64 ((ji12) + 4)))) (wrap64 ((wrap64 (bt a0 (wrap64 ((ji12) + 5)))) * 256))) > (wrap64 (t173 - 7)) then (frame_take.j1 kj3 a0 ji12 (Go.bits .or .i64 (wrap64 (bt a0 (wrap64 ((ji12) + 4)))) (wrap64 ((wrap64 (bt a0 (wrap64 ((ji12) + 5)))) * 256))) bt169.1 (bt a0 (wrap64 ((ji12) + 6))) true) else (frame_take.j1 kj3 a0 ji12 (Go.bits .or .i64 (wrap64 (bt a0 (wrap64 ((ji12) + 4)))) (wrap64 ((wrap64 (bt a0 (wrap64 ((ji12) + 5)))) * 256))) bt169.1 (bt a0 (wrap64 ((ji12) + 6))) (decide ((wrap64 ((wrap64 ((ji12) + 7)) + (Go.bits .or .i64 (wrap64 (bt a0 (wrap64 ((ji12) + 4)))) (wrap64 ((wrap64 (bt a0 (wrap64 ((ji12) + 5)))) * 256))))) > (a0.size : Int)))))))) else (none)) else (none)) else (none)) else (none)) else (none)) else (none)))) else (none)) else (none)) else (none)) = some (r1, r2, r3) := by first | (rw [hji12] at H; exact H) | (simp only [hji12] at H ⊢; exact H)
        have hji12w : (IntKind.i64.wrap (a1 + t163)) = ji12 := (i64_w _).trans hji12
        by_cases c13 : 0 ≤ (ji12)
        · rw [if_pos c13] at H
          have c13b0 := eq_true c13
          have c13b1 : decide (0 ≤ (ji12)) = true := decide_eq_true c13
          clear c13
          by_cases c14 : (ji12) ≤ (wrap64 ((ji12) + 7))
          · rw [if_pos c14] at H
            have c14b0 := eq_true c14
            have c14b1 : decide ((ji12) ≤ (wrap64 ((ji12) + 7))) = true := decide_eq_true c14
            by_cases c15 : (wrap64 ((ji12) + 7)) ≤ (a0.size : Int)
            · rw [if_pos c15] at H
              have c15b0 := eq_true c15
              have c15b1 : decide ((wrap64 ((ji12) + 7)) ≤ (a0.size : Int)) = true := decide_eq_true c15
              replace H := Option.bind_eq_some_iff.mp H
              obtain ⟨⟨t165, t166, t167⟩, A160, H⟩ := H
              replace H : ((varint_Reader_Fixed.f kj3 t165 t166 t167).bind fun bt169 => (if 0 ≤ (wrap64 ((ji12) + 4)) then (if (wrap64 ((ji12) + 4)) < (a0.size : Int) then (if 0 ≤ (wrap64 ((ji12) + 5)) then (if (wrap64 ((ji12) + 5)) < (a0.size : Int) then (if 0 ≤ (wrap64 ((ji12) + 6)) then (if (wrap64 ((ji12) + 6)) < (a0.size : Int) then (if (bt a0 (wrap64 ((ji12) + 6))) < 1 then (frame_take.j1 kj3 a0 ji12 (Go.bits .or .i64 (wrap64 (bt a0 (wrap64 ((ji12) + 4)))) (wrap64 ((wrap64 (bt a0 (wrap64 ((ji12) + 5)))) * 256))) bt169.1 (bt a0 (wrap64 ((ji12) + 6))) true) else (if (bt a0 (wrap64 ((ji12) + 6))) > 4 then (frame_take.j1 kj3 a0 ji12 (Go.bits .or .i64 (wrap64 (bt a0 (wrap64 ((ji12) + 4)))) (wrap64 ((wrap64 (bt a0 (wrap64 ((ji12) + 5)))) * 256))) bt169.1 (bt a0 (wrap64 ((ji12) + 6))) true) else ((frame_left.f (ji12)).bind fun t173 => (if (Go.bits .or .i64 (wrap64 (bt a0 (wrap64 ((ji12) + 4)))) (wrap64 ((wrap64 (bt a0 (wrap64 ((ji12) + 5)))) * 256))) > (wrap64 (t173 - 7)) then (frame_take.j1 kj3 a0 ji12 (Go.bits .or .i64 (wrap64 (bt a0 (wrap64 ((ji12) + 4)))) (wrap64 ((wrap64 (bt a0 (wrap64 ((ji12) + 5)))) * 256))) bt169.1 (bt a0 (wrap64 ((ji12) + 6))) true) else (frame_take.j1 kj3 a0 ji12 (Go.bits .or .i64 (wrap64 (bt a0 (wrap64 ((ji12) + 4)))) (wrap64 ((wrap64 (bt a0 (wrap64 ((ji12) + 5)))) * 256))) bt169.1 (bt a0 (wrap64 ((ji12) + 6))) (decide ((wrap64 ((wrap64 ((ji12) + 7)) + (Go.bits .or .i64 (wrap64 (bt a0 (wrap64 ((ji12) + 4)))) (wrap64 ((wrap64 (bt a0 (wrap64 ((ji12) + 5)))) * 256))))) > (a0.size : Int)))))))) else (none)) else (none)) else (none)) else (none)) else (none)) else (none))) = some (r1, r2, r3) := H
              have A16 := Aside0.mk A160
              clear A160
              replace H := Option.bind_eq_some_iff.mp H
              obtain ⟨⟨t169, t170, t171, t172⟩, A170, H⟩ := H
              replace H : (if 0 ≤ (wrap64 ((ji12) + 4)) then (if (wrap64 ((ji12) + 4)) < (a0.size : Int) then (if 0 ≤ (wrap64 ((ji12) + 5)) then (if (wrap64 ((ji12) + 5)) < (a0.size : Int) then (if 0 ≤ (wrap64 ((ji12) + 6)) then (if (wrap64 ((ji12) + 6)) < (a0.size : Int) then (if (bt a0 (wrap64 ((ji12) + 6))) < 1 then (frame_take.j1 kj3 a0 ji12 (Go.bits .or .i64 (wrap64 (bt a0 (wrap64 ((ji12) + 4)))) (wrap64 ((wrap64 (bt a0 (wrap64 ((ji12) + 5)))) * 256))) t169 (bt a0 (wrap64 ((ji12) + 6))) true) else (if (bt a0 (wrap64 ((ji12) + 6))) > 4 then (frame_take.j1 kj3 a0 ji12 (Go.bits .or .i64 (wrap64 (bt a0 (wrap64 ((ji12) + 4)))) (wrap64 ((wrap64 (bt a0 (wrap64 ((ji12) + 5)))) * 256))) t169 (bt a0 (wrap64 ((ji12) + 6))) true) else ((frame_left.f (ji12)).bind fun t173 => (if (Go.bits .or .i64 (wrap64 (bt a0 (wrap64 ((ji12) + 4)))) (wrap64 ((wrap64 (bt a0 (wrap64 ((ji12) + 5)))) * 256))) > (wrap64 (t173 - 7)) then (frame_take.j1 kj3 a0 ji12 (Go.bits .or .i64 (wrap64 (bt a0 (wrap64 ((ji12) + 4)))) (wrap64 ((wrap64 (bt a0 (wrap64 ((ji12) + 5)))) * 256))) t169 (bt a0 (wrap64 ((ji12) + 6))) true) else (frame_take.j1 kj3 a0 ji12 (Go.bits .or .i64 (wrap64 (bt a0 (wrap64 ((ji12) + 4)))) (wrap64 ((wrap64 (bt a0 (wrap64 ((ji12) + 5)))) * 256))) t169 (bt a0 (wrap64 ((ji12) + 6))) (decide ((wrap64 ((wrap64 ((ji12) + 7)) + (Go.bits .or .i64 (wrap64 (bt a0 (wrap64 ((ji12) + 4)))) (wrap64 ((wrap64 (bt a0 (wrap64 ((ji12) + 5)))) * 256))))) > (a0.size : Int)))))))) else (none)) else (none)) else (none)) else (none)) else (none)) else (none)) = some (r1, r2, r3) := H
              have A17 := Aside0.mk A170
              clear A170
              obtain ⟨ji18, hji18⟩ : ∃ j_ : Int, (wrap64 ((ji12) + 4)) = j_ := ⟨_, rfl⟩
              replace H : (if 0 ≤ (ji18) then (if (ji18) < (a0.size : Int) then (if 0 ≤ (wrap64 ((ji12) + 5)) then (if (wrap64 ((ji12) + 5)) < (a0.size : Int) then (if 0 ≤ (wrap64 ((ji12) + 6)) then (if (wrap64 ((ji12) + 6)) < (a0.size : Int) then (if (bt a0 (wrap64 ((ji12) + 6))) < 1 then (frame_take.j1 kj3 a0 ji12 (Go.bits .or .i64 (wrap64 (bt a0 (ji18))) (wrap64 ((wrap64 (bt a0 (wrap64 ((ji12) + 5)))) * 256))) t169 (bt a0 (wrap64 ((ji12) + 6))) true) else (if (bt a0 (wrap64 ((ji12) + 6))) > 4 then (frame_take.j1 kj3 a0 ji12 (Go.bits .or .i64 (wrap64 (bt a0 (ji18))) (wrap64 ((wrap64 (bt a0 (wrap64 ((ji12) + 5)))) * 256))) t169 (bt a0 (wrap64 ((ji12) + 6))) true) else ((frame_left.f (ji12)).bind fun t173 => (if (Go.bits .or .i64 (wrap64 (bt a0 (ji18))) (wrap64 ((wrap64 (bt a0 (wrap64 ((ji12) + 5)))) * 256))) > (wrap64 (t173 - 7)) then (frame_take.j1 kj3 a0 ji12 (Go.bits .or .i64 (wrap64 (bt a0 (ji18))) (wrap64 ((wrap64 (bt a0 (wrap64 ((ji12) + 5)))) * 256))) t169 (bt a0 (wrap64 ((ji12) + 6))) true) else (frame_take.j1 kj3 a0 ji12 (Go.bits .or .i64 (wrap64 (bt a0 (ji18))) (wrap64 ((wrap64 (bt a0 (wrap64 ((ji12) + 5)))) * 256))) t169 (bt a0 (wrap64 ((ji12) + 6))) (decide ((wrap64 ((wrap64 ((ji12) + 7)) + (Go.bits .or .i64 (wrap64 (bt a0 (ji18))) (wrap64 ((wrap64 (bt a0 (wrap64 ((ji12) + 5)))) * 256))))) > (a0.size : Int)))))))) else (none)) else (none)) else (none)) else (none)) else (none)) else (none)) = some (r1, r2, r3) := by first | (rw [hji18] at H; exact H) | (simp only [hji18] at H ⊢; exact H)
              (try rw [hji18] at A16)
              (try rw [hji18] at A17)
              have hji18w : (IntKind.i64.wrap ((ji12) + 4)) = ji18 := (i64_w _).trans hji18
              by_cases c19 : 0 ≤ (ji18)
              · rw [if_pos c19] at H
                have c19b0 : decide (0 ≤ (ji18)) = true := decide_eq_true c19
                clear c19
                by_cases c20 : (ji18) < (a0.size : Int)
                · rw [if_pos c20] at H
                  have c20b0 : decide ((ji18) < (a0.size : Int)) = true := decide_eq_true c20
                  clear c20
                  obtain ⟨ji22, hji22⟩ : ∃ j_ : Int, (wrap64 ((ji12) + 5)) = j_ := ⟨_, rfl⟩
                  replace H : (if 0 ≤ (ji22) then (if (ji22) < (a0.size : Int) then (if 0 ≤ (wrap64 ((ji12) + 6)) then (if (wrap64 ((ji12) + 6)) < (a0.size : Int) then (if (bt a0 (wrap64 ((ji12) + 6))) < 1 then (frame_take.j1 kj3 a0 ji12 (Go.bits .or .i64 (wrap64 (bt a0 (ji18))) (wrap64 ((wrap64 (bt a0 (ji22))) * 256))) t169 (bt a0 (wrap64 ((ji12) + 6))) true) else (if (bt a0 (wrap64 ((ji12) + 6))) > 4 then (frame_take.j1 kj3 a0 ji12 (Go.bits .or .i64 (wrap64 (bt a0 (ji18))) (wrap64 ((wrap64 (bt a0 (ji22))) * 256))) t169 (bt a0 (wrap64 ((ji12) + 6))) true) else ((frame_left.f (ji12)).bind fun t173 => (if (Go.bits .or .i64 (wrap64 (bt a0 (ji18))) (wrap64 ((wrap64 (bt a0 (ji22))) * 256))) > (wrap64 (t173 - 7)) then (frame_take.j1 kj3 a0 ji12 (Go.bits .or .i64 (wrap64 (bt a0 (ji18))) (wrap64 ((wrap64 (bt a0 (ji22))) * 256))) t169 (bt a0 (wrap64 ((ji12) + 6))) true) else (frame_take.j1 kj3 a0 ji12 (Go.bits .or .i64 (wrap64 (bt a0 (ji18))) (wrap64 ((wrap64 (bt a0 (ji22))) * 256))) t169 (bt a0 (wrap64 ((ji12) + 6))) (decide ((wrap64 ((wrap64 ((ji12) + 7)) + (Go.bits .or .i64 (wrap64 (bt a0 (ji18))) (wrap64 ((wrap64 (bt a0 (ji22))) * 256))))) > (a0.size : Int)))))))) else (none)) else (none)) else (none)) else (none)) = some (r1, r2, r3) := by first | (rw [hji22] at H; exact H) | (simp only [hji22] at H ⊢; exact H)
                  (try rw [hji22] at A16)
                  (try rw [hji22] at A17)
                  have hji22w : (IntKind.i64.wrap ((ji12) + 5)) = ji22 := (i64_w _).trans hji22
                  by_cases c23 : 0 ≤ (ji22)
                  · rw [if_pos c23] at H
                    have c23b0 : decide (0 ≤ (ji22)) = true := decide_eq_true c23
                    clear c23
                    by_cases c24 : (ji22) < (a0.size : Int)
                    · rw [if_pos c24] at H
                      have c24b0 : decide ((ji22) < (a0.size : Int)) = true := decide_eq_true c24
                      clear c24
                      obtain ⟨ji26, hji26⟩ : ∃ j_ : Int, (wrap64 ((ji12) + 6)) = j_ := ⟨_, rfl⟩
                      replace H : (if 0 ≤ (ji26) then (if (ji26) < (a0.size : Int) then (if (bt a0 (ji26)) < 1 then (frame_take.j1 kj3 a0 ji12 (Go.bits .or .i64 (wrap64 (bt a0 (ji18))) (wrap64 ((wrap64 (bt a0 (ji22))) * 256))) t169 (bt a0 (ji26)) true) else (if (bt a0 (ji26)) > 4 then (frame_take.j1 kj3 a0 ji12 (Go.bits .or .i64 (wrap64 (bt a0 (ji18))) (wrap64 ((wrap64 (bt a0 (ji22))) * 256))) t169 (bt a0 (ji26)) true) else ((frame_left.f (ji12)).bind fun t173 => (if (Go.bits .or .i64 (wrap64 (bt a0 (ji18))) (wrap64 ((wrap64 (bt a0 (ji22))) * 256))) > (wrap64 (t173 - 7)) then (frame_take.j1 kj3 a0 ji12 (Go.bits .or .i64 (wrap64 (bt a0 (ji18))) (wrap64 ((wrap64 (bt a0 (ji22))) * 256))) t169 (bt a0 (ji26)) true) else (frame_take.j1 kj3 a0 ji12 (Go.bits .or .i64 (wrap64 (bt a0 (ji18))) (wrap64 ((wrap64 (bt a0 (ji22))) * 256))) t169 (bt a0 (ji26)) (decide ((wrap64 ((wrap64 ((ji12) + 7)) + (Go.bits .or .i64 (wrap64 (bt a0 (ji18))) (wrap64 ((wrap64 (bt a0 (ji22))) * 256))))) > (a0.size : Int)))))))) else (none)) else (none)) = some (r1, r2, r3) := by first | (rw [hji26] at H; exact H) | (simp only [hji26] at H ⊢; exact H)
                      (try rw [hji26] at A16)
                      (try rw [hji26] at A17)
                      have hji26w : (IntKind.i64.wrap ((ji12) + 6)) = ji26 := (i64_w _).trans hji26
                      by_cases c27 : 0 ≤ (ji26)
                      · rw [if_pos c27] at H
                        have c27b0 : decide (0 ≤ (ji26)) = true := decide_eq_true c27
                        clear c27
                        by_cases c28 : (ji26) < (a0.size : Int)
                        · rw [if_pos c28] at H
                          have c28b0 : decide ((ji26) < (a0.size : Int)) = true := decide_eq_true c28
                          clear c28
                          have HC30 := Aside0.mk H
                          clear H
                          go_upto_region 9 with (first | (go_at_call 55; (with_reducible refine (varint_Over.calls (a0.extract ((ji12) : Int).toNat ((wrap64 ((ji12) + 7)) : Int).toNat) t165 t166 t167 w _ ?side1 A16.out).mono ?_); (case side1 => repeat (first | (with_reducible first | exact HB.out | apply below_alloc | apply pw_below_drewN | apply below_drew1) | exact HB.out)); rintro e w31 ⟨g168, rfl, hi, hb, hb2⟩; have n0_ := Aside0.mk (hb); have n1_ := Aside0.mk (hi); clear HB; have HB := n0_; have HI168 := n1_; clear n0_ n1_; (try clear hb); (try clear hb2); (try clear hk); (try clear hi)) | (go_at_call 142; (with_reducible refine (varint_Reader_Fixed.calls kj3 g168 t165 t166 t167 t169 t170 t171 t172 w _ ?side1 ?side2 A17.out).mono ?_); (case side1 => repeat (first | (with_reducible first | exact HI168.out | apply IsS171.alloc | apply IsS171.drewN | apply IsS171.drew | apply IsS171.set_0 | apply IsS171.set_1 | apply IsS171.set_2) | exact HI168.out)); (case side2 => repeat (first | (with_reducible first | exact HB.out | apply below_alloc | apply pw_below_drewN | apply below_drew1 | refine below_set ?_ (IsS171.ge HI168.out)) | exact HB.out)); rintro e w32 ⟨rfl, hi, hb, hk⟩; have n0_ := Aside0.mk (hb); have n1_ := Aside0.mk (hi); clear HB; clear HI168; have HB := n0_; have HI168 := n1_; clear n0_ n1_; (try clear hb); (try clear hb2); (try clear hk); (try clear hi); have p21 : 0 ≤ ((ji18) : Int) := of_decide_eq_true (by first | (with_reducible assumption) | assumption); have q21 : (ji18) < (a0.size : Int) := of_decide_eq_true (by first | (with_reducible assumption) | assumption); have hx21 := bt_at a0 (ji18); replace p21 := eq_true p21; replace q21 := eq_true q21; have p25 : 0 ≤ ((ji22) : Int) := of_decide_eq_true (by first | (with_reducible assumption) | assumption); have q25 : (ji22) < (a0.size : Int) := of_decide_eq_true (by first | (with_reducible assumption) | assumption); have hx25 := bt_at a0 (ji22); replace p25 := eq_true p25; replace q25 := eq_true q25; have p29 : 0 ≤ ((ji26) : Int) := of_decide_eq_true (by first | (with_reducible assumption) | assumption); have q29 : (ji26) < (a0.size : Int) := of_decide_eq_true (by first | (with_reducible assumption) | assumption); have hx29 := bt_at a0 (ji26); replace p29 := eq_true p29; replace q29 := eq_true q29))
                          repeat (go_quiet (first | (go_at_call 55; (with_reducible refine (varint_Over.calls (a0.extract ((ji12) : Int).toNat ((wrap64 ((ji12) + 7)) : Int).toNat) t165 t166 t167 w _ ?side1 A16.out).mono ?_); (case side1 => repeat (first | (with_reducible first | exact HB.out | apply below_alloc | apply pw_below_drewN | apply below_drew1) | exact HB.out)); rintro e w31 ⟨g168, rfl, hi, hb, hb2⟩; have n0_ := Aside0.mk (hb); have n1_ := Aside0.mk (hi); clear HB; have HB := n0_; have HI168 := n1_; clear n0_ n1_; (try clear hb); (try clear hb2); (try clear hk); (try clear hi)) | (go_at_call 142; (with_reducible refine (varint_Reader_Fixed.calls kj3 g168 t165 t166 t167 t169 t170 t171 t172 w _ ?side1 ?side2 A17.out).mono ?_); (case side1 => repeat (first | (with_reducible first | exact HI168.out | apply IsS171.alloc | apply IsS171.drewN | apply IsS171.drew | apply IsS171.set_0 | apply IsS171.set_1 | apply IsS171.set_2) | exact HI168.out)); (case side2 => repeat (first | (with_reducible first | exact HB.out | apply below_alloc | apply pw_below_drewN | apply below_drew1 | refine below_set ?_ (IsS171.ge HI168.out)) | exact HB.out)); rintro e w32 ⟨rfl, hi, hb, hk⟩; have n0_ := Aside0.mk (hb); have n1_ := Aside0.mk (hi); clear HB; clear HI168; have HB := n0_; have HI168 := n1_; clear n0_ n1_; (try clear hb); (try clear hb2); (try clear hk); (try clear hi); have p21 : 0 ≤ ((ji18) : Int) := of_decide_eq_true (by first | (with_reducible assumption) | assumption); have q21 : (ji18) < (a0.size : Int) := of_decide_eq_true (by first | (with_reducible assumption) | assumption); have hx21 := bt_at a0 (ji18); replace p21 := eq_true p21; replace q21 := eq_true q21; have p25 : 0 ≤ ((ji22) : Int) := of_decide_eq_true (by first | (with_reducible assumption) | assumption); have q25 : (ji22) < (a0.size : Int) := of_decide_eq_true (by first | (with_reducible assumption) | assumption); have hx25 := bt_at a0 (ji22); replace p25 := eq_true p25; replace q25 := eq_true q25; have p29 : 0 ≤ ((ji26) : Int) := of_decide_eq_true (by first | (with_reducible assumption) | assumption); have q29 : (ji26) < (a0.size : Int) := of_decide_eq_true (by first | (with_reducible assumption) | assumption); have hx29 := bt_at a0 (ji26); replace p29 := eq_true p29; replace q29 := eq_true q29)); go_upto_region 9 with (first | (go_at_call 55; (with_reducible refine (varint_Over.calls (a0.extract ((ji12) : Int).toNat ((wrap64 ((ji12) + 7)) : Int).toNat) t165 t166 t167 w _ ?side1 A16.out).mono ?_); (case side1 => repeat (first | (with_reducible first | exact HB.out | apply below_alloc | apply pw_below_drewN | apply below_drew1) | exact HB.out)); rintro e w31 ⟨g168, rfl, hi, hb, hb2⟩; have n0_ := Aside0.mk (hb); have n1_ := Aside0.mk (hi); clear HB; have HB := n0_; have HI168 := n1_; clear n0_ n1_; (try clear hb); (try clear hb2); (try clear hk); (try clear hi)) | (go_at_call 142; (with_reducible refine (varint_Reader_Fixed.calls kj3 g168 t165 t166 t167 t169 t170 t171 t172 w _ ?side1 ?side2 A17.out).mono ?_); (case side1 => repeat (first | (with_reducible first | exact HI168.out | apply IsS171.alloc | apply IsS171.drewN | apply IsS171.drew | apply IsS171.set_0 | apply IsS171.set_1 | apply IsS171.set_2) | exact HI168.out)); (case side2 => repeat (first | (with_reducible first | exact HB.out | apply below_alloc | apply pw_below_drewN | apply below_drew1 | refine below_set ?_ (IsS171.ge HI168.out)) | exact HB.out)); rintro e w32 ⟨rfl, hi, hb, hk⟩; have n0_ := Aside0.mk (hb); have n1_ := Aside0.mk (hi); clear HB; clear HI168; have HB := n0_; have HI168 := n1_; clear n0_ n1_; (try clear hb); (try clear hb2); (try clear hk); (try clear hi); have p21 : 0 ≤ ((ji18) : Int) := of_decide_eq_true (by first | (with_reducible assumption) | assumption); have q21 : (ji18) < (a0.size : Int) := of_decide_eq_true (by first | (with_reducible assumption) | assumption); have hx21 := bt_at a0 (ji18); replace p21 := eq_true p21; replace q21 := eq_true q21; have p25 : 0 ≤ ((ji22) : Int) := of_decide_eq_true (by first | (with_reducible assumption) | assumption); have q25 : (ji22) < (a0.size : Int) := of_decide_eq_true (by first | (with_reducible assumption) | assumption); have hx25 := bt_at a0 (ji22); replace p25 := eq_true p25; replace q25 := eq_true q25; have p29 : 0 ≤ ((ji26) : Int) := of_decide_eq_true (by first | (with_reducible assumption) | assumption); have q29 : (ji26) < (a0.size : Int) := of_decide_eq_true (by first | (with_reducible assumption) | assumption); have hx29 := bt_at a0 (ji26); replace p29 := eq_true p29; replace q29 := eq_true q29)))
                          (try simp only [Act.put, List.setIfInBounds_toArray, List.set_cons_zero, List.set_cons_succ])
                          go_cut [79] (fun v79 wc => ∃ (kq : Nat) (x79_29 : Bool), v79 = .bool x79_29 ∧ Aside0 (frame_take.j1 kq a0 ji12 (Go.bits .or .i64 (wrap64 (bt a0 (ji18))) (wrap64 ((wrap64 (bt a0 (ji22))) * 256))) t169 (bt a0 (ji26)) x79_29 = some (r1, r2, r3)) ∧ Aside0 (kq ≤ kj3) ∧ Aside0 (Below w.heap.size w wc))
                          case first =>
                            have H := HC30.out
                            clear HC30
                            by_cases c33 : (bt a0 (ji26)) < 1
                            · rw [if_pos c33] at H
                              have c33b0 : decide ((bt a0 (ji26)) < 1) = true := decide_eq_true c33
                              clear c33
                              (first | rw [c33b0] | (simp only [i64_w, i32_w]; rw [c33b0]) | skip)
                              have H' := Aside0.mk H
                              clear H
                              go_wp2
                              repeat (go_quiet (fail); try go_wp2)
                              go_meet
                              case rel => exact ⟨_, (true), (by first | rfl | (simp; done) | (simp [*]; done)), H', ⟨by have := HJ3.out; first | omega | exact Nat.le_refl _⟩, ⟨by repeat (first | (with_reducible first | exact HB.out | apply below_alloc | apply pw_below_drewN | apply below_drew1 | refine below_set ?_ (IsS171.ge HI168.out)) | exact HB.out)⟩⟩
                            · rw [if_neg c33] at H
                              have c33b0 : decide ((bt a0 (ji26)) < 1) = false := decide_eq_false c33
                              clear c33
                              (first | rw [c33b0] | (simp only [i64_w, i32_w]; rw [c33b0]) | skip)
                              by_cases c34 : (bt a0 (ji26)) > 4
                              · rw [if_pos c34] at H
                                have c34b0 : decide (4 < (bt a0 (ji26))) = true := decide_eq_true c34
                                clear c34
                                have H' := Aside0.mk H
                                clear H
                                go_wp2
                                repeat (go_quiet (fail); try go_wp2)
                                go_meet
                                case rel => exact ⟨_, (true), (by first | rfl | (simp; done) | (simp [*]; done)), H', ⟨by have := HJ3.out; first | omega | exact Nat.le_refl _⟩, ⟨by repeat (first | (with_reducible first | exact HB.out | apply below_alloc | apply pw_below_drewN | apply below_drew1 | refine below_set ?_ (IsS171.ge HI168.out)) | exact HB.out)⟩⟩
                              · rw [if_neg c34] at H
                                have c34b0 : decide (4 < (bt a0 (ji26))) = false := decide_eq_false c34
                                clear c34
                                replace H := Option.bind_eq_some_iff.mp H
                                obtain ⟨t173, A350, H⟩ := H
                                replace H : (if (Go.bits .or .i64 (wrap64 (bt a0 (ji18))) (wrap64 ((wrap64 (bt a0 (ji22))) * 256))) > (wrap64 (t173 - 7)) then (frame_take.j1 kj3 a0 ji12 (Go.bits .or .i64 (wrap64 (bt a0 (ji18))) (wrap64 ((wrap64 (bt a0 (ji22))) * 256))) t169 (bt a0 (ji26)) true) else (frame_take.j1 kj3 a0 ji12 (Go.bits .or .i64 (wrap64 (bt a0 (ji18))) (wrap64 ((wrap64 (bt a0 (ji22))) * 256))) t169 (bt a0 (ji26)) (decide ((wrap64 ((wrap64 ((ji12) + 7)) + (Go.bits .or .i64 (wrap64 (bt a0 (ji18))) (wrap64 ((wrap64 (bt a0 (ji22))) * 256))))) > (a0.size : Int))))) = some (r1, r2, r3) := H
                                have A35 := Aside0.mk A350
                                clear A350
                                by_cases c36 : (Go.bits .or .i64 (wrap64 (bt a0 (ji18))) (wrap64 ((wrap64 (bt a0 (ji22))) * 256))) > (wrap64 (t173 - 7))
                                · rw [if_pos c36] at H
                                  have c36b0 : decide ((wrap64 (t173 - 7)) < (Go.bits .or .i64 (wrap64 (bt a0 (ji18))) (wrap64 ((wrap64 (bt a0 (ji22))) * 256)))) = true := decide_eq_true c36
                                  clear c36
                                  have H' := Aside0.mk H
                                  clear H
                                  go_wp2_with (first | (go_at_call 80; (with_reducible refine (frame_left.calls ji12 t173 _ A35.out).mono ?_); rintro e w' ⟨rfl, ⟨nd, rfl⟩⟩; (try first | exact ⟨rfl, _, World.drewN_drewN _ _ _⟩ | exact ⟨rfl, _, Eq.trans (World.drewN_drewN _ _ _) (congrArg (World.drewN _) (Nat.add_assoc _ _ _))⟩)))
                                  repeat (go_quiet (first | (go_at_call 80; (with_reducible refine (frame_left.calls ji12 t173 _ A35.out).mono ?_); rintro e w' ⟨rfl, ⟨nd, rfl⟩⟩; (try first | exact ⟨rfl, _, World.drewN_drewN _ _ _⟩ | exact ⟨rfl, _, Eq.trans (World.drewN_drewN _ _ _) (congrArg (World.drewN _) (Nat.add_assoc _ _ _))⟩))); try go_wp2_with (first | (go_at_call 80; (with_reducible refine (frame_left.calls ji12 t173 _ A35.out).mono ?_); rintro e w' ⟨rfl, ⟨nd, rfl⟩⟩; (try first | exact ⟨rfl, _, World.drewN_drewN _ _ _⟩ | exact ⟨rfl, _, Eq.trans (World.drewN_drewN _ _ _) (congrArg (World.drewN _) (Nat.add_assoc _ _ _))⟩))))
                                  go_meet
                                  case rel => exact ⟨_, (true), (by first | rfl | (simp; done) | (simp [*]; done)), H', ⟨by have := HJ3.out; first | omega | exact Nat.le_refl _⟩, ⟨by repeat (first | (with_reducible first | exact HB.out | apply below_alloc | apply pw_below_drewN | apply below_drew1 | refine below_set ?_ (IsS171.ge HI168.out)) | exact HB.out)⟩⟩
                                · rw [if_neg c36] at H
                                  have c36b0 : decide ((wrap64 (t173 - 7)) < (Go.bits .or .i64 (wrap64 (bt a0 (ji18))) (wrap64 ((wrap64 (bt a0 (ji22))) * 256)))) = false := decide_eq_false c36
                                  clear c36
                                  have H' := Aside0.mk H
                                  clear H
                                  go_wp2_with (first | (go_at_call 80; (with_reducible refine (frame_left.calls ji12 t173 _ A35.out).mono ?_); rintro e w' ⟨rfl, ⟨nd, rfl⟩⟩; (try first | exact ⟨rfl, _, World.drewN_drewN _ _ _⟩ | exact ⟨rfl, _, Eq.trans (World.drewN_drewN _ _ _) (congrArg (World.drewN _) (Nat.add_assoc _ _ _))⟩)))
                                  repeat (go_quiet (first | (go_at_call 80; (with_reducible refine (frame_left.calls ji12 t173 _ A35.out).mono ?_); rintro e w' ⟨rfl, ⟨nd, rfl⟩⟩; (try first | exact ⟨rfl, _, World.drewN_drewN _ _ _⟩ | exact ⟨rfl, _, Eq.trans (World.drewN_drewN _ _ _) (congrArg (World.drewN _) (Nat.add_assoc _ _ _))⟩))); try go_wp2_with (first | (go_at_call 80; (with_reducible refine (frame_left.calls ji12 t173 _ A35.out).mono ?_); rintro e w' ⟨rfl, ⟨nd, rfl⟩⟩; (try first | exact ⟨rfl, _, World.drewN_drewN _ _ _⟩ | exact ⟨rfl, _, Eq.trans (World.drewN_drewN _ _ _) (congrArg (World.drewN _) (Nat.add_assoc _ _ _))⟩))))
                                  go_meet
                                  case rel => exact ⟨_, (decide ((wrap64 ((wrap64 ((ji12) + 7)) + (Go.bits .or .i64 (wrap64 (bt a0 (ji18))) (wrap64 ((wrap64 (bt a0 (ji22))) * 256))))) > (a0.size : Int))), (by first | rfl | (simp; done) | (simp only [← hji12, ← hji18, ← hji22] <;> (first | rfl | simp)) | (simp [*]; done)), H', ⟨by have := HJ3.out; first | omega | exact Nat.le_refl _⟩, ⟨by repeat (first | (with_reducible first | exact HB.out | apply below_alloc | apply pw_below_drewN | apply below_drew1 | refine below_set ?_ (IsS171.ge HI168.out)) | exact HB.out)⟩⟩
                          case rest =>
                            clear HC30
                            try clear c1
                            try clear c2
                            try clear p2
                            try clear q2
                            try clear hx2
                            try clear c3
                            try clear c5
                            try clear c5b0
                            try clear c6
                            try clear c6b0
                            try clear c6b1
                            try clear p6
                            try clear c7
                            try clear c7b0
                            try clear c7b1
                            try clear c8
                            try clear c8b0
                            try clear c8b1
                            try clear c11
                            try clear c13
                            try clear c13b0
                            try clear c13b1
                            try clear c14
                            try clear c14b0
                            try clear c14b1
                            try clear c15
                            try clear c15b0
                            try clear c15b1
                            try clear c19
                            try clear c19b0
                            try clear c20
                            try clear c20b0
                            try clear p21
                            try clear q21
                            try clear hx21
                            try clear c23
                            try clear c23b0
                            try clear c24
                            try clear c24b0
                            try clear p25
                            try clear q25
                            try clear hx25
                            try clear c27
                            try clear c27b0
                            try clear c28
                            try clear c28b0
                            try clear p29
                            try clear q29
                            try clear hx29
                            try clear c33
                            try clear c33b0
                            try clear c34
                            try clear c34b0
                            try clear c36
                            try clear c36b0
                            try clear p2
                            try clear p21
                            try clear p25
                            try clear p29
                            try clear p6
                            try clear q21
                            try clear q25
                            try clear q29
                            obtain ⟨kq, x79_29, rfl, HA, HJ29, HB⟩ := hcut
                            cases kq with
                            | zero => exact absurd HA.out (by simp [frame_take.j1])
                            | succ kj29 =>
                              have H := HA.out
                              clear HA
                              simp only [frame_take.j1] at H
                              by_cases c37 : x79_29 = true
                              · subst c37
                                have H1 : (some (0, (⟨#[]⟩ : ByteArray), 0)) = some (r1, r2, r3) := by rw [if_pos rfl] at H; exact H
                                clear H
                                have H := H1
                                clear H1
                                simp only [Option.some.injEq, Prod.mk.injEq] at H
                                obtain ⟨rfl, rfl, rfl⟩ := H
                                go_wp2
                                repeat (go_quiet (fail); try go_wp2)
                                go_ret3
                                exact ⟨by first | rfl | (simp [errW_none, errW_some] <;> rfl) | (simp only [← hji12, ← hji18, ← hji22, ← hji26]; first | rfl | (simp [errW_none, errW_some] <;> rfl)) | (simp [*, errW_none, errW_some] <;> rfl), by repeat (first | (with_reducible first | exact HB.out | apply below_alloc | apply pw_below_drewN | apply below_drew1) | exact HB.out)⟩
                              · replace c37 := Bool.eq_false_iff.mpr c37
                                subst c37
                                have H1 : (if 0 ≤ (wrap64 (ji12 + 7)) then (if (wrap64 (ji12 + 7)) ≤ (wrap64 ((wrap64 (ji12 + 7)) + (Go.bits .or .i64 (wrap64 (bt a0 (ji18))) (wrap64 ((wrap64 (bt a0 (ji22))) * 256))))) then (if (wrap64 ((wrap64 (ji12 + 7)) + (Go.bits .or .i64 (wrap64 (bt a0 (ji18))) (wrap64 ((wrap64 (bt a0 (ji22))) * 256))))) ≤ (a0.size : Int) then ((frame_sum.f (bt a0 (ji26)) (a0.extract ((wrap64 (ji12 + 7)) : Int).toNat ((wrap64 ((wrap64 (ji12 + 7)) + (Go.bits .or .i64 (wrap64 (bt a0 (ji18))) (wrap64 ((wrap64 (bt a0 (ji22))) * 256))))) : Int).toNat)).bind fun t174 => (if t174 = t169 then (some ((bt a0 (ji26)), a0.extract ((wrap64 (ji12 + 7)) : Int).toNat ((wrap64 ((wrap64 (ji12 + 7)) + (Go.bits .or .i64 (wrap64 (bt a0 (ji18))) (wrap64 ((wrap64 (bt a0 (ji22))) * 256))))) : Int).toNat, wrap64 ((wrap64 (ji12 + 7)) + (Go.bits .or .i64 (wrap64 (bt a0 (ji18))) (wrap64 ((wrap64 (bt a0 (ji22))) * 256)))))) else (some (0, (⟨#[]⟩ : ByteArray), 0)))) else (none)) else (none)) else (none)) = some (r1, r2, r3) := by rw [if_neg (show ¬ (false = true) by decide)] at H; exact H
                                clear H
                                have H := H1
                                clear H1
                                obtain ⟨ji38, hji38⟩ : ∃ j_ : Int, (wrap64 (ji12 + 7)) = j_ := ⟨_, rfl⟩
                                replace H : (if 0 ≤ (ji38) then (if (ji38) ≤ (wrap64 ((ji38) + (Go.bits .or .i64 (wrap64 (bt a0 (ji18))) (wrap64 ((wrap64 (bt a0 (ji22))) * 256))))) then (if (wrap64 ((ji38) + (Go.bits .or .i64 (wrap64 (bt a0 (ji18))) (wrap64 ((wrap64 (bt a0 (ji22))) * 256))))) ≤ (a0.size : Int) then ((frame_sum.f (bt a0 (ji26)) (a0.extract ((ji38) : Int).toNat ((wrap64 ((ji38) + (Go.bits .or .i64 (wrap64 (bt a0 (ji18))) (wrap64 ((wrap64 (bt a0 (ji22))) * 256))))) : Int).toNat)).bind fun t174 => (if t174 = t169 then (some ((bt a0 (ji26)), a0.extract ((ji38) : Int).toNat ((wrap64 ((ji38) + (Go.bits .or .i64 (wrap64 (bt a0 (ji18))) (wrap64 ((wrap64 (bt a0 (ji22))) * 256))))) : Int).toNat, wrap64 ((ji38) + (Go.bits .or .i64 (wrap64 (bt a0 (ji18))) (wrap64 ((wrap64 (bt a0 (ji22))) * 256)))))) else (some (0, (⟨#[]⟩ : ByteArray), 0)))) else (none)) else (none)) else (none)) = some (r1, r2, r3) := by first | (rw [hji38] at H; exact H) | (simp only [hji38] at H ⊢; exact H)
                                have hji38w : (IntKind.i64.wrap (ji12 + 7)) = ji38 := (i64_w _).trans hji38
                                by_cases c39 : 0 ≤ (ji38)
                                · rw [if_pos c39] at H
                                  have c39b0 := eq_true c39
                                  have c39b1 : decide (0 ≤ (ji38)) = true := decide_eq_true c39
                                  clear c39
                                  by_cases c40 : (ji38) ≤ (wrap64 ((ji38) + (Go.bits .or .i64 (wrap64 (bt a0 (ji18))) (wrap64 ((wrap64 (bt a0 (ji22))) * 256)))))
                                  · rw [if_pos c40] at H
                                    have c40b0 := eq_true c40
                                    have c40b1 : decide ((ji38) ≤ (wrap64 ((ji38) + (Go.bits .or .i64 (wrap64 (bt a0 (ji18))) (wrap64 ((wrap64 (bt a0 (ji22))) * 256)))))) = true := decide_eq_true c40
                                    by_cases c41 : (wrap64 ((ji38) + (Go.bits .or .i64 (wrap64 (bt a0 (ji18))) (wrap64 ((wrap64 (bt a0 (ji22))) * 256))))) ≤ (a0.size : Int)
                                    · rw [if_pos c41] at H
                                      have c41b0 := eq_true c41
                                      have c41b1 : decide ((wrap64 ((ji38) + (Go.bits .or .i64 (wrap64 (bt a0 (ji18))) (wrap64 ((wrap64 (bt a0 (ji22))) * 256))))) ≤ (a0.size : Int)) = true := decide_eq_true c41
                                      replace H := Option.bind_eq_some_iff.mp H
                                      obtain ⟨t174, A420, H⟩ := H
                                      replace H : (if t174 = t169 then (some ((bt a0 (ji26)), a0.extract ((ji38) : Int).toNat ((wrap64 ((ji38) + (Go.bits .or .i64 (wrap64 (bt a0 (ji18))) (wrap64 ((wrap64 (bt a0 (ji22))) * 256))))) : Int).toNat, wrap64 ((ji38) + (Go.bits .or .i64 (wrap64 (bt a0 (ji18))) (wrap64 ((wrap64 (bt a0 (ji22))) * 256)))))) else (some (0, (⟨#[]⟩ : ByteArray), 0))) = some (r1, r2, r3) := H
                                      have A42 := Aside0.mk A420
                                      clear A420
                                      by_cases c43 : t174 = t169
                                      · rw [if_pos c43] at H
                                        have c43b0 : (t174 == t169) = true := beq_iff_eq.mpr c43
                                        have c43b1 : (t174 != t169) = false := bne_eq_false_iff_eq.mpr c43
                                        clear c43
                                        simp only [Option.some.injEq, Prod.mk.injEq] at H
                                        obtain ⟨rfl, rfl, rfl⟩ := H
                                        go_wp2_with (first | (go_at_call 124; (with_reducible refine (frame_sum.calls (bt a0 (ji26)) (a0.extract ((ji38) : Int).toNat ((wrap64 ((ji38) + (Go.bits .or .i64 (wrap64 (bt a0 (ji18))) (wrap64 ((wrap64 (bt a0 (ji22))) * 256))))) : Int).toNat) t174 _ A42.out).mono ?_); rintro e w44 ⟨rfl, hb⟩; have n0_ := Aside0.mk (below_step (by repeat (first | (with_reducible first | exact HB.out | apply below_alloc | apply pw_below_drewN | apply below_drew1) | exact HB.out)) hb); clear HB; have HB := n0_; clear n0_; (try clear hb); (try clear hb2); (try clear hk); (try clear hi)))
                                        repeat (go_quiet (first | (go_at_call 124; (with_reducible refine (frame_sum.calls (bt a0 (ji26)) (a0.extract ((ji38) : Int).toNat ((wrap64 ((ji38) + (Go.bits .or .i64 (wrap64 (bt a0 (ji18))) (wrap64 ((wrap64 (bt a0 (ji22))) * 256))))) : Int).toNat) t174 _ A42.out).mono ?_); rintro e w44 ⟨rfl, hb⟩; have n0_ := Aside0.mk (below_step (by repeat (first | (with_reducible first | exact HB.out | apply below_alloc | apply pw_below_drewN | apply below_drew1) | exact HB.out)) hb); clear HB; have HB := n0_; clear n0_; (try clear hb); (try clear hb2); (try clear hk); (try clear hi))); try go_wp2_with (first | (go_at_call 124; (with_reducible refine (frame_sum.calls (bt a0 (ji26)) (a0.extract ((ji38) : Int).toNat ((wrap64 ((ji38) + (Go.bits .or .i64 (wrap64 (bt a0 (ji18))) (wrap64 ((wrap64 (bt a0 (ji22))) * 256))))) : Int).toNat) t174 _ A42.out).mono ?_); rintro e w44 ⟨rfl, hb⟩; have n0_ := Aside0.mk (below_step (by repeat (first | (with_reducible first | exact HB.out | apply below_alloc | apply pw_below_drewN | apply below_drew1) | exact HB.out)) hb); clear HB; have HB := n0_; clear n0_; (try clear hb); (try clear hb2); (try clear hk); (try clear hi))))
                                        go_ret3
                                        exact ⟨by first | rfl | (simp [errW_none, errW_some] <;> rfl) | (simp only [← hji12, ← hji18, ← hji22, ← hji26, ← hji38]; first | rfl | (simp [errW_none, errW_some] <;> rfl)) | (simp [*, errW_none, errW_some] <;> rfl), by repeat (first | (with_reducible first | exact HB.out | apply below_alloc | apply pw_below_drewN | apply below_drew1) | exact HB.out)⟩
                                      · rw [if_neg c43] at H
                                        have c43b0 : (t174 == t169) = false := beq_eq_false_iff_ne.mpr c43
                                        have c43b1 : (t174 != t169) = true := bne_iff_ne.mpr c43
                                        simp only [Option.some.injEq, Prod.mk.injEq] at H
                                        obtain ⟨rfl, rfl, rfl⟩ := H
                                        go_wp2_with (first | (go_at_call 124; (with_reducible refine (frame_sum.calls (bt a0 (ji26)) (a0.extract ((ji38) : Int).toNat ((wrap64 ((ji38) + (Go.bits .or .i64 (wrap64 (bt a0 (ji18))) (wrap64 ((wrap64 (bt a0 (ji22))) * 256))))) : Int).toNat) t174 _ A42.out).mono ?_); rintro e w45 ⟨rfl, hb⟩; have n0_ := Aside0.mk (below_step (by repeat (first | (with_reducible first | exact HB.out | apply below_alloc | apply pw_below_drewN | apply below_drew1) | exact HB.out)) hb); clear HB; have HB := n0_; clear n0_; (try clear hb); (try clear hb2); (try clear hk); (try clear hi)))
                                        repeat (go_quiet (first | (go_at_call 124; (with_reducible refine (frame_sum.calls (bt a0 (ji26)) (a0.extract ((ji38) : Int).toNat ((wrap64 ((ji38) + (Go.bits .or .i64 (wrap64 (bt a0 (ji18))) (wrap64 ((wrap64 (bt a0 (ji22))) * 256))))) : Int).toNat) t174 _ A42.out).mono ?_); rintro e w45 ⟨rfl, hb⟩; have n0_ := Aside0.mk (below_step (by repeat (first | (with_reducible first | exact HB.out | apply below_alloc | apply pw_below_drewN | apply below_drew1) | exact HB.out)) hb); clear HB; have HB := n0_; clear n0_; (try clear hb); (try clear hb2); (try clear hk); (try clear hi))); try go_wp2_with (first | (go_at_call 124; (with_reducible refine (frame_sum.calls (bt a0 (ji26)) (a0.extract ((ji38) : Int).toNat ((wrap64 ((ji38) + (Go.bits .or .i64 (wrap64 (bt a0 (ji18))) (wrap64 ((wrap64 (bt a0 (ji22))) * 256))))) : Int).toNat) t174 _ A42.out).mono ?_); rintro e w45 ⟨rfl, hb⟩; have n0_ := Aside0.mk (below_step (by repeat (first | (with_reducible first | exact HB.out | apply below_alloc | apply pw_below_drewN | apply below_drew1) | exact HB.out)) hb); clear HB; have HB := n0_; clear n0_; (try clear hb); (try clear hb2); (try clear hk); (try clear hi))))
                                        go_ret3
                                        exact ⟨by first | rfl | (simp [errW_none, errW_some] <;> rfl) | (simp only [← hji12, ← hji18, ← hji22, ← hji26, ← hji38]; first | rfl | (simp [errW_none, errW_some] <;> rfl)) | (simp [*, errW_none, errW_some] <;> rfl), by repeat (first | (with_reducible first | exact HB.out | apply below_alloc | apply pw_below_drewN | apply below_drew1) | exact HB.out)⟩
                                    · rw [if_neg c41] at H
                                      exact absurd H (by simp)
                                  · rw [if_neg c40] at H
                                    exact absurd H (by simp)
                                · rw [if_neg c39] at H
                                  exact absurd H (by simp)
                        · rw [if_neg c28] at H
                          exact absurd H (by simp)
                      · rw [if_neg c27] at H
                        exact absurd H (by simp)
                    · rw [if_neg c24] at H
                      exact absurd H (by simp)
                  · rw [if_neg c23] at H
                    exact absurd H (by simp)
                · rw [if_neg c20] at H
                  exact absurd H (by simp)
              · rw [if_neg c19] at H
                exact absurd H (by simp)
            · rw [if_neg c15] at H
              exact absurd H (by simp)
          · rw [if_neg c14] at H
            exact absurd H (by simp)
        · rw [if_neg c13] at H
          exact absurd H (by simp)
end Go.Proofs.YteilnbnnhocciaaDoor.KF

/-! KF38 -/
namespace Go.Proofs.YteilnbnnhocciaaDoor.KF
open Go.RowKit Go.Proofs.YteilnbnnhocciaaDoorW.PrintWords Go.Proofs.YteilnbnnhocciaaDoorW.PrintLast Go.Proofs.YteilnbnnhocciaaDoorW.PrintMore Go.Proofs.YteilnbnnhocciaaDoorM
attribute [local go_sem] max2_int min2_int max_two min_two max_three min_three max_four min_four
set_option linter.unusedVariables false
set_option linter.unusedSimpArgs false
def frame_record.bad (kd : Int) (bg : Bool) : Bool := kd == 0 || ((kd == 1 || kd == 2) != bg)
def frame_record.l : Nat → ByteArray → Int → Bool → ByteArray → Option (ByteArray × Int)
  | 0, _, _, _, _ => none
  | k + 1, log, at_, bg, acc => (frame_take.f 20 log at_).bind fun t => if frame_record.bad t.1 bg = true then some (⟨#[]⟩, 0) else if acc.size + t.2.1.size ≤ 140737488355328 then (if t.1 = 2 ∨ t.1 = 3 then frame_record.l k log t.2.2 false (acc ++ t.2.1) else some (acc ++ t.2.1, t.2.2)) else none
def frame_record.f (k : Nat) (a0 : ByteArray) (a1 : Int) : Option (ByteArray × Int) := frame_record.l k a0 a1 true ⟨#[]⟩
def frame_record.Post (w : World) (r : ByteArray × Int) (e : Ending) (w' : World) : Prop := e = .returned (.tuple #[.string r.1, .int .i64 r.2]) ∧ Below w.heap.size w w'
def frame_record.J (w : World) (log : ByteArray) (r : ByteArray × Int) (k : Nat) (a' : Act) (w' : World) : Prop := Below w.heap.size w w' ∧ ∃ (at_ : Int) (bg : Bool) (acc : ByteArray) (u8 u9 u10 u11 u12 u13 u14 u15 u16 u17 u18 u19 u20 u21 u22 u23 u24 u25 u26 u27 u28 u29 u30 u31 u32 u33 u34 u35 u36 u37 u38 : Value),
  a' = { tmps := #[.string log, .int .i64 at_, undef, undef, .string ⟨#[]⟩, .int .i64 0, .pointer (some ⟨w.heap.size, 0, none⟩), .bool bg, u8, u9, u10, u11, u12, u13, u14, u15, u16, u17, u18, u19, u20, u21, u22, u23, u24, u25, u26, u27, u28, u29, u30, u31, u32, u33, u34, u35, u36, u37, u38, undef, undef], defers := [] } ∧ Lib.IsBuilder 140 5 w.heap.size w.heap.size (Lib.strCells acc) w' ∧ frame_record.l k log at_ bg acc = some r
set_option maxHeartbeats 1000000 in
set_option maxRecDepth 100000 in
theorem frame_record.walk (k : Nat) (a0 : ByteArray) (a1 : Int) (r : ByteArray × Int) (w : World) (h : frame_record.f k a0 a1 = some r) : Calls Tryd.prog 76 #[.string a0, .int .i64 a1] w (frame_record.Post w r) := by
  have H := Hush.mk (show frame_record.l k a0 a1 true ⟨#[]⟩ = some r from h)
  clear h
  go_enter Tryd.func76, Tryd.ntmps76
  go_wp2
  refine wp_scope_ghost 0 (frame_record.J w a0 r) rfl ?pass ?first
  case first =>
    intro hq
    have HI := Hush.mk (Lib.fresh_isBuilder 140 5 w)
    have HB : Hush (Below w.heap.size w (w.alloc (.cells #[.pointer none, .slice none 0 0] 140))) := ⟨below_alloc (Below.refl _ _) _⟩
    go_wp2
    go_step3
    have hj : ∃ k, frame_record.J w a0 r k { tmps := #[.string a0, .int .i64 a1, undef, undef, .string ⟨#[]⟩, .int .i64 0, .pointer (some ⟨w.heap.size, 0, none⟩), .bool true, undef, undef, undef, undef, undef, undef, undef, undef, undef, undef, undef, undef, undef, undef, undef, undef, undef, undef, undef, undef, undef, undef, undef, undef, undef, undef, undef, undef, undef, undef, undef, undef, undef], defers := [] } (w.alloc (.cells #[.pointer none, .slice none 0 0] 140)) :=
      ⟨k, HB.out, a1, true, ⟨#[]⟩, _, _, _, _, _, _, _, _, _, _, _, _, _, _, _, _, _, _, _, _, _, _, _, _, _, _, _, _, _, _, _, rfl, HI.out, H.out⟩
    exact (by assumption : ∀ a w, Code.wp _ _ _ a w → _) _ _ (hq.out _ _ hj)
  case pass =>
    rintro k a' w' ⟨hb, at_, bg, acc, u8, u9, u10, u11, u12, u13, u14, u15, u16, u17, u18, u19, u20, u21, u22, u23, u24, u25, u26, u27, u28, u29, u30, u31, u32, u33, u34, u35, u36, u37, u38, rfl, hB, hl⟩
    cases k with
    | zero => exact absurd hl (by simp [frame_record.l])
    | succ k =>
      rw [frame_record.l] at hl
      obtain ⟨⟨kd, s, tw⟩, ht, hq⟩ := Option.bind_eq_some_iff.mp hl
      clear hl
      dsimp only at hq
      have HT := Hush.mk ht
      have hb1 := fun w1 (h : Below w'.heap.size w' w1) => Hush.mk (builder_below hB h)
      have hb2 := fun w1 (h : Below w'.heap.size w' w1) => Hush.mk (hb.trans (h.mono hb.size))
      have HC1 := Hush.mk hb1
      have HC2 := Hush.mk hb2
      clear ht hB hb hb1 hb2
      by_cases hbad : frame_record.bad kd bg = true
      · rw [if_pos hbad] at hq
        have HR : Hush ((⟨#[]⟩, 0) = r) := ⟨Option.some.inj hq⟩
        clear hq
        have hcase : kd = 0 ∨ (kd = 1 ∧ bg = false) ∨ (kd = 2 ∧ bg = false) ∨ (kd ≠ 0 ∧ kd ≠ 1 ∧ kd ≠ 2 ∧ bg = true) := by
          by_cases h0 : kd = 0
          · exact .inl h0
          · by_cases h1 : kd = 1
            · subst h1; cases bg
              · exact .inr (.inl ⟨rfl, rfl⟩)
              · simp [frame_record.bad] at hbad
            · by_cases h2 : kd = 2
              · subst h2; cases bg
                · exact .inr (.inr (.inl ⟨rfl, rfl⟩))
                · simp [frame_record.bad] at hbad
              · cases bg
                · simp [frame_record.bad, h0, h1, h2] at hbad
                · exact .inr (.inr (.inr ⟨h0, h1, h2, rfl⟩))
        clear hbad
        rcases hcase with rfl | ⟨rfl, rfl⟩ | ⟨rfl, rfl⟩ | ⟨h0, h1, h2, rfl⟩
        case' inr.inr.inr =>
          have e0 : (kd == 0) = false := by simpa using h0
          have e1 : (kd == 1) = false := by simpa using h1
          have e2 : (kd == 2) = false := by simpa using h2
          clear h0 h1 h2
        all_goals
          go_wp2_with fail
          refine (frame_take.calls 20 a0 at_ _ s tw _ HT.out).mono ?_
          rintro e_ w1 ⟨rfl, hb⟩
          have HL1 := HC2.out _ hb
          clear hb HC1 HC2
          go_wp2
          go_ret2
          exact ⟨by rw [← HR.out]; rfl, HL1.out⟩
      · rw [if_neg hbad] at hq
        by_cases hz : acc.size + s.size ≤ 140737488355328
        · rw [if_pos hz] at hq
          have HZ := Hush.mk hz
          clear hz
          have hcase : (kd = 1 ∧ bg = true) ∨ (kd = 2 ∧ bg = true) ∨ (kd = 3 ∧ bg = false) ∨ (kd ≠ 0 ∧ kd ≠ 1 ∧ kd ≠ 2 ∧ kd ≠ 3 ∧ bg = false) := by
            by_cases h0 : kd = 0
            · subst h0; simp [frame_record.bad] at hbad
            · by_cases h1 : kd = 1
              · subst h1; cases bg
                · simp [frame_record.bad] at hbad
                · exact .inl ⟨rfl, rfl⟩
              · by_cases h2 : kd = 2
                · subst h2; cases bg
                  · simp [frame_record.bad] at hbad
                  · exact .inr (.inl ⟨rfl, rfl⟩)
                · cases bg
                  · by_cases h3 : kd = 3
                    · exact .inr (.inr (.inl ⟨h3, rfl⟩))
                    · exact .inr (.inr (.inr ⟨h0, h1, h2, h3, rfl⟩))
                  · simp [frame_record.bad, h0, h1, h2] at hbad
          clear hbad
          rcases hcase with ⟨rfl, rfl⟩ | ⟨rfl, rfl⟩ | ⟨rfl, rfl⟩ | ⟨h0, h1, h2, h3, rfl⟩
          · rw [if_neg (by omega)] at hq
            have HR := Hush.mk (Option.some.inj hq)
            clear hq
            go_wp2_with fail
            refine (frame_take.calls 20 a0 at_ _ s tw _ HT.out).mono ?_
            rintro e_ w1 ⟨rfl, hb⟩
            have HB1 := HC1.out _ hb
            have HL1 := HC2.out _ hb
            clear hb HC1 HC2
            go_wp2_with fail
            refine (writeString w.heap.size w.heap.size (Lib.strCells acc) s _ HB1.out (by rw [Lib.strCells_length]; exact HZ.out) HL1.out.size).mono ?_
            rintro e_ w2 ⟨rfl, hB2, hb2⟩
            obtain ⟨V, hV⟩ : ∃ V, V = acc ++ s := ⟨_, rfl⟩
            have HB2 : Hush (Lib.IsBuilder 140 5 w.heap.size w.heap.size (Lib.strCells V) w2) := ⟨.inr (by rw [hV]; simpa [Lib.strCells] using hB2)⟩
            have HL2 := Hush.mk (HL1.out.trans hb2)
            have HV := Hush.mk hV
            clear hB2 hb2 HB1 HL1 hV
            go_wp2_with fail
            refine (Tryd.Builder_String_any w.heap.size w.heap.size V.data.toList _ HB2.out HL2.out.size).mono ?_
            rintro e_ w3 ⟨rfl, hb3⟩
            have HL3 := Hush.mk (HL2.out.trans hb3)
            clear hb3
            go_wp2
            go_ret2
            exact ⟨by rw [← HR.out, ← HV.out]; rfl, HL3.out⟩
          · rw [if_pos (by omega)] at hq
            have HR := Hush.mk hq
            clear hq
            go_wp2_with fail
            refine (frame_take.calls 20 a0 at_ _ s tw _ HT.out).mono ?_
            rintro e_ w1 ⟨rfl, hb⟩
            have HB1 := HC1.out _ hb
            have HL1 := HC2.out _ hb
            clear hb HC1 HC2
            go_wp2_with fail
            refine (writeString w.heap.size w.heap.size (Lib.strCells acc) s _ HB1.out (by rw [Lib.strCells_length]; exact HZ.out) HL1.out.size).mono ?_
            rintro e_ w2 ⟨rfl, hB2, hb2⟩
            obtain ⟨V, hV⟩ : ∃ V, V = acc ++ s := ⟨_, rfl⟩
            have HB2 : Hush (Lib.IsBuilder 140 5 w.heap.size w.heap.size (Lib.strCells V) w2) := ⟨.inr (by rw [hV]; simpa [Lib.strCells] using hB2)⟩
            have HL2 := Hush.mk (HL1.out.trans hb2)
            have HV := Hush.mk hV
            clear hB2 hb2 HB1 HL1 hV
            go_wp2
            go_step3
            exact ⟨rfl, k, Nat.lt_succ_self k, HL2.out, _, false, _, _, _, _, _, _, _, _, _, _, _, _, _, _, _, _, _, _, _, _, _, _, _, _, _, _, _, _, _, _, _, _, rfl, HB2.out, by rw [HV.out]; exact HR.out⟩
          · rw [if_pos (by omega)] at hq
            have HR := Hush.mk hq
            clear hq
            go_wp2_with fail
            refine (frame_take.calls 20 a0 at_ _ s tw _ HT.out).mono ?_
            rintro e_ w1 ⟨rfl, hb⟩
            have HB1 := HC1.out _ hb
            have HL1 := HC2.out _ hb
            clear hb HC1 HC2
            go_wp2_with fail
            refine (writeString w.heap.size w.heap.size (Lib.strCells acc) s _ HB1.out (by rw [Lib.strCells_length]; exact HZ.out) HL1.out.size).mono ?_
            rintro e_ w2 ⟨rfl, hB2, hb2⟩
            obtain ⟨V, hV⟩ : ∃ V, V = acc ++ s := ⟨_, rfl⟩
            have HB2 : Hush (Lib.IsBuilder 140 5 w.heap.size w.heap.size (Lib.strCells V) w2) := ⟨.inr (by rw [hV]; simpa [Lib.strCells] using hB2)⟩
            have HL2 := Hush.mk (HL1.out.trans hb2)
            have HV := Hush.mk hV
            clear hB2 hb2 HB1 HL1 hV
            go_wp2
            go_step3
            exact ⟨rfl, k, Nat.lt_succ_self k, HL2.out, _, false, _, _, _, _, _, _, _, _, _, _, _, _, _, _, _, _, _, _, _, _, _, _, _, _, _, _, _, _, _, _, _, _, rfl, HB2.out, by rw [HV.out]; exact HR.out⟩
          · rw [if_neg (by omega)] at hq
            have HR := Hush.mk (Option.some.inj hq)
            have e0 : (kd == 0) = false := by simpa using h0
            have e1 : (kd == 1) = false := by simpa using h1
            have e2 : (kd == 2) = false := by simpa using h2
            have e3 : (kd == 3) = false := by simpa using h3
            clear h0 h1 h2 h3
            clear hq
            go_wp2_with fail
            refine (frame_take.calls 20 a0 at_ _ s tw _ HT.out).mono ?_
            rintro e_ w1 ⟨rfl, hb⟩
            have HB1 := HC1.out _ hb
            have HL1 := HC2.out _ hb
            clear hb HC1 HC2
            go_wp2_with fail
            refine (writeString w.heap.size w.heap.size (Lib.strCells acc) s _ HB1.out (by rw [Lib.strCells_length]; exact HZ.out) HL1.out.size).mono ?_
            rintro e_ w2 ⟨rfl, hB2, hb2⟩
            obtain ⟨V, hV⟩ : ∃ V, V = acc ++ s := ⟨_, rfl⟩
            have HB2 : Hush (Lib.IsBuilder 140 5 w.heap.size w.heap.size (Lib.strCells V) w2) := ⟨.inr (by rw [hV]; simpa [Lib.strCells] using hB2)⟩
            have HL2 := Hush.mk (HL1.out.trans hb2)
            have HV := Hush.mk hV
            clear hB2 hb2 HB1 HL1 hV
            go_wp2_with fail
            refine (Tryd.Builder_String_any w.heap.size w.heap.size V.data.toList _ HB2.out HL2.out.size).mono ?_
            rintro e_ w3 ⟨rfl, hb3⟩
            have HL3 := Hush.mk (HL2.out.trans hb3)
            clear hb3
            go_wp2
            go_ret2
            exact ⟨by rw [← HR.out, ← HV.out]; rfl, HL3.out⟩
        · rw [if_neg hz] at hq; cases hq
theorem frame_record.calls (k : Nat) (a0 : ByteArray) (a1 : Int) (r1 : ByteArray) (r2 : Int) (w : World) (h : frame_record.f k a0 a1 = some (r1, r2)) :
    Calls Tryd.prog 76 #[.string a0, .int .i64 a1] w fun e w' => e = .returned (.tuple #[.string r1, .int .i64 r2]) ∧ Below w.heap.size w w' := frame_record.walk k a0 a1 (r1, r2) w h
end Go.Proofs.YteilnbnnhocciaaDoor.KF

/-! KG1 -/
namespace Go.Proofs.YteilnbnnhocciaaDoor.KF
open Go.RowKit Go.Shelf Go.Proofs.YteilnbnnhocciaaDoorM
set_option linter.unusedVariables false
set_option linter.unusedSimpArgs false
attribute [local go_sem] Oper.semAt_some
def recs (k : Nat) (log : ByteArray) : Nat → Int → Option (List (ByteArray × Int))
  | 0, _ => none
  | j + 1, at_ => (frame_record.f k log at_).bind fun r => if r.2 = 0 then some [] else (recs k log j r.2).map (r :: ·)
def enc2 (x : ByteArray × Int) : Array Value := #[.string x.1, .int .i64 x.2]
def KeepLog (Bs : Nat) (log : ByteArray) (W W' : World) : Prop := W.cell? ⟨Bs, 0, none⟩ = some (.string log) → W'.cell? ⟨Bs, 0, none⟩ = some (.string log)
theorem grown_of_below {W W' : World} (h : Below W.heap.size W W') : W.grownBy W' none := ⟨h.os, h.tape, h.output, h.size, fun k hk _ => h.block k hk⟩
theorem recs_mono (k : Nat) (log : ByteArray) : ∀ (j : Nat) (at_ : Int) (r : List (ByteArray × Int)), recs k log j at_ = some r → recs k log (j + 1) at_ = some r
  | 0, at_, r, h => by simp [recs] at h
  | j + 1, at_, r, h => by
    unfold recs at h
    obtain ⟨q, hq, h2⟩ := Option.bind_eq_some_iff.mp h
    unfold recs
    rw [hq]
    simp only [Option.bind_some]
    by_cases hz : q.2 = 0
    · rw [if_pos hz] at h2 ⊢; exact h2
    · rw [if_neg hz] at h2 ⊢
      obtain ⟨r', hr', rfl⟩ := Option.map_eq_some_iff.mp h2
      rw [recs_mono k log j _ _ hr']
      rfl
theorem recs_le (k : Nat) (log : ByteArray) (j i : Nat) (at_ : Int) (r : List (ByteArray × Int)) (h : recs k log j at_ = some r) : recs k log (j + i) at_ = some r := by
  induction i with
  | zero => exact h
  | succ i ih => exact recs_mono _ _ _ _ _ ih
theorem recs_det (k : Nat) (log : ByteArray) (j i : Nat) (at_ : Int) (r s : List (ByteArray × Int)) (h : recs k log j at_ = some r) (h2 : recs k log i at_ = some s) : r = s := by
  have a := recs_le k log j i at_ r h
  have b := recs_le k log i j at_ s h2
  rw [Nat.add_comm] at b
  exact Option.some.inj (a.symm.trans b)
noncomputable def left (k : Nat) (log : ByteArray) (at_ : Int) : Nat := leastN fun j => ∃ r, recs k log j at_ = some r
theorem left_step (k : Nat) (log : ByteArray) (at_ : Int) (rest : List (ByteArray × Int)) (j : Nat) (h : recs k log j at_ = some rest) :
    ∃ q : ByteArray × Int, frame_record.f k log at_ = some q ∧ ((q.2 = 0 ∧ rest = []) ∨ (q.2 ≠ 0 ∧ ∃ r' j', rest = q :: r' ∧ recs k log j' q.2 = some r' ∧ left k log q.2 < left k log at_)) := by
  obtain ⟨r0, h0⟩ : ∃ r, recs k log (left k log at_) at_ = some r := leastN_spec (p := fun j => ∃ r, recs k log j at_ = some r) ⟨j, rest, h⟩
  obtain rfl := recs_det _ _ _ _ _ _ _ h h0
  obtain ⟨m, hm⟩ : ∃ m, m = left k log at_ := ⟨_, rfl⟩
  rw [← hm] at h0 ⊢
  cases m with
  | zero => simp [recs] at h0
  | succ m =>
    unfold recs at h0
    obtain ⟨q, hq, h2⟩ := Option.bind_eq_some_iff.mp h0
    refine ⟨q, hq, ?_⟩
    by_cases hz : q.2 = 0
    · rw [if_pos hz] at h2; exact .inl ⟨hz, (Option.some.inj h2).symm⟩
    · rw [if_neg hz] at h2
      obtain ⟨r', hr', rfl⟩ := Option.map_eq_some_iff.mp h2
      exact .inr ⟨hz, r', m, rfl, hr', Nat.lt_succ_of_le (leastN_le (p := fun j => ∃ r, recs k log j q.2 = some r) ⟨r', hr'⟩)⟩
set_option maxRecDepth 100000 in
set_option maxHeartbeats 2000000 in
theorem recs1_in (n k l Bs : Nat) (hn : 1 ≤ n) (log : ByteArray) (all : List (ByteArray × Int)) (J Jx : List (ByteArray × Int) → World → Prop) (N : Nat) (hN : all.length ≤ N)
    (hY : ∀ pre x W, J pre W → pre.length < N → YieldAt Fence.wide (n - 1) Tryd.prog l (enc2 x) W fun e W' =>
      (e = .returned (.bool true) ∧ J (pre ++ [x]) W' ∧ KeepLog Bs log W W') ∨ (e = .returned (.bool false) ∧ Jx (pre ++ [x]) W'))
    (W : World) (hJ : AbidesFrom W.heap.size J) (hBs : W.cell? ⟨Bs, 0, none⟩ = some (.string log)) (j : Nat) (hr : recs k log j 0 = some all) (h0 : J [] W) :
    CallsIn Fence.wide n Tryd.prog 75 #[.func (.yield l) #[] #[], .pointer (some ⟨Bs, 0, none⟩)] W fun e W' => (∃ v, e = .returned v) ∧
      ((∃ ys, ys = all ∧ J ys W') ∨ (∃ pre, pre <+: all ∧ Jx pre W')) := by
  have hro : Fence.wide.round = none := rfl
  refine callsIn_of_wp Tryd.func75 rfl trivial ?_ hro
  simp only [Tryd.ntmps75, List.size_toArray, List.length_cons, List.length_nil, Nat.reduceAdd, Nat.reduceSub, Array.replicate_succ, Array.replicate_zero, List.push_toArray, List.append_toArray, List.nil_append, List.cons_append]
  gi_wp2
  gi_loopw [3] (fun p wr => ∃ (pre rest : List (ByteArray × Int)) (at_ : Int) (j : Nat), p = .int .i64 at_ ∧ all = pre ++ rest ∧ recs k log j at_ = some rest ∧ wr.cell? ⟨Bs, 0, none⟩ = some (.string log) ∧ J pre wr)
    (fun p _ => left k log (intOf p))
  case atStart => exact ⟨[], all, 0, j, rfl, rfl, hr, hBs, h0⟩
  case round =>
    obtain ⟨pre, rest, at_, j, rfl, hx, hl, hc, hJs⟩ := hrel
    obtain ⟨⟨s, tw⟩, hq, hcase⟩ := left_step k log at_ rest j hl
    rcases hcase with ⟨hz, rfl⟩ | ⟨hz, r', j', rfl, hr', hlt⟩
    · obtain rfl : tw = 0 := hz
      gi_wp2_with (refine ⟨trivial, ?_⟩; gi_at_call 76; refine (callsIn_wide.2 (frame_record.calls k log at_ s 0 _ hq)).mono ?_; rintro e w2 ⟨rfl, hb⟩)
      refine ⟨fun _ h => (by cases h), ?_⟩
      gi_wp2
      refine bodyPost_ret (results_none rfl _ _ _) rfl ?_
      exact ⟨⟨_, rfl⟩, .inl ⟨pre, by simp [hx], hJ _ _ _ none hJs (grown_of_below hb) (fun r e => by cases e)⟩⟩
    · have hz' := eq_false hz
      have hzb : (tw == 0) = false := by simpa using hz
      gi_wp2_with fail
      refine ⟨trivial, ?_⟩; gi_at_call 76; refine (callsIn_wide.2 (frame_record.calls k log at_ s tw _ hq)).mono ?_; rintro e w2 ⟨rfl, hb⟩
      obtain ⟨fn, tmps, assign, body, hy, hR⟩ := hY pre (s, tw) w2 (hJ _ _ _ none hJs (grown_of_below hb) (fun r e => by cases e)) (by have := congrArg List.length hx; simp at this; omega)
      dsimp only [enc2] at hy
      have hc2 := (hb.cell (World.block_lt_of_cell? _ _ hc)).trans hc
      gi_wp2
      refine hR.mono ?_
      rintro e W3 (⟨rfl, hJ3, hk3⟩ | ⟨rfl, hJx3⟩)
      · have hc3 := hk3 hc2
        gi_wp2
        go_roundw
        case rel => exact ⟨pre ++ [(s, tw)], r', tw, j', rfl, by simp [hx], hr', hc3, hJ3⟩
        case measure => exact hlt
      · gi_wp2
        refine bodyPost_ret (results_none rfl _ _ _) rfl ?_
        exact ⟨⟨_, rfl⟩, .inr ⟨pre ++ [(s, tw)], ⟨r', by simp [hx]⟩, hJx3⟩⟩
theorem keepLog_t {Bs : Nat} {log : ByteArray} {A B C : World} (h : KeepLog Bs log A B) (k : KeepLog Bs log B C) : KeepLog Bs log A C := fun x => k (h x)
theorem keepLog_b {Bs : Nat} {log : ByteArray} {w : World} (W : World) (l : Nat) (o o' : Obj) (hl : w.heap.size ≤ l) (h : W.heap[l]? = some o) (ho : o.isCells = false) (hw : o.isWalk = false) : KeepLog Bs log W (W.putObj l o') :=
  fun hc => cell_kept hc (grownBy_putObj' W l o') (fun r e => by cases e; exact ⟨_, h, ho⟩)
theorem recs_stops (n k Bs : Nat) (hn : 1 ≤ n) (log : ByteArray) (all : List (ByteArray × Int)) (j : Nat) (hr : recs k log j 0 = some all) (w : World) (hBs : w.cell? ⟨Bs, 0, none⟩ = some (.string log)) :
    SeqStopsK Fence.wide n Tryd.prog 75 #[.pointer (some ⟨Bs, 0, none⟩)] enc2 (KeepLog Bs log) (fun ys => ys = all) (fun pre => pre <+: all) all.length w := fun l J Jx W hW hJ _ hY h0 =>
  recs1_in n k l Bs hn log all J Jx all.length (Nat.le_refl _) hY W hJ ((hW.cell (World.block_lt_of_cell? _ _ hBs)).trans hBs) j hr h0
set_option maxHeartbeats 1000000 in
theorem frame_Records.in_ (n : Nat) (log : ByteArray) (w : World) :
    CallsIn Fence.wide n Tryd.prog 26 #[.string log] w fun e w' => e = .returned (.func (.func 75) #[] #[.pointer (some ⟨w.heap.size, 0, none⟩)]) ∧ w' = w.alloc (.cells #[.string log] 9) := by
  have hro : Fence.wide.round = none := rfl
  refine callsIn_of_wp Tryd.func26 rfl trivial ?_ hro
  simp only [Tryd.ntmps26, List.size_toArray, List.length_cons, List.length_nil, Nat.reduceAdd, Nat.reduceSub, Array.replicate_succ, Array.replicate_zero, List.push_toArray, List.append_toArray, List.nil_append, List.cons_append]
  gi_wp2
  go_ret
  exact ⟨rfl, rfl⟩
def lastTo : List (ByteArray × Int) → Int := List.foldl (fun _ x => x.2) 0
theorem lastTo_snoc (pre : List (ByteArray × Int)) (x : ByteArray × Int) : lastTo (pre ++ [x]) = x.2 := by simp [lastTo]
set_option maxRecDepth 100000 in
set_option maxHeartbeats 2000000 in
theorem frame_Whole.calls (k j : Nat) (log : ByteArray) (all : List (ByteArray × Int)) (w : World) (hr : recs k log j 0 = some all) :
    Calls Tryd.prog 27 #[.string log] w fun e w' => e = .returned (.int .i64 (lastTo all)) ∧ Below w.heap.size w w' := by
  have hro : Fence.wide.round = none := rfl
  refine (callsIn_wide (n := 6)).1 ?_
  refine callsIn_of_wp_marks Tryd.func27 rfl trivial ?_ hro
  simp only [Tryd.ntmps27, List.size_toArray, List.length_cons, List.length_nil, Nat.reduceAdd, Nat.reduceSub, Array.replicate_succ, Array.replicate_zero, List.push_toArray, List.append_toArray, List.nil_append, List.cons_append]
  gi_wp2_with (refine ⟨trivial, ?_⟩; gi_at_call 26; refine (frame_Records.in_ 5 log _).mono ?_; rintro e w' ⟨rfl, rfl⟩)
  have bN := Boxed.new w 3 (.int .i64 0)
  have bL := Boxed.new (w.alloc (.cells #[.int .i64 0] 3)) 9 (.string log)
  rw [World.size_alloc] at bL
  have hB0 : Below w.heap.size w ((w.alloc (.cells #[.int .i64 0] 3)).alloc (.cells #[.string log] 9)) := ((Below.refl _ w).alloc (Nat.le_refl _) _).alloc (by simp) _
  refine wpIn_rangeFunc_ownF hro (by omega) (gf := 75) (lb := #[.pointer (some ⟨w.heap.size + 1, 0, none⟩)]) rfl trivial (enters_of Tryd.func75 (by kernel_rfl) rfl)
    (recs_stops _ k (w.heap.size + 1) (by omega) log all j hr _ bL.cell) keepLog_t keepLog_b (Below.refl _ _) (fun _ => rfl)
    (fun pre W => (W.cell? ⟨w.heap.size, 0, none⟩ = some (.int .i64 (lastTo pre)) ∧ W.frozen? ⟨w.heap.size, 0, none⟩ = false) ∧ Below w.heap.size w W)
    (fun _ _ _ => False)
    (OwnFrom.and (Own.from (fun s A B row hs hg hr => ⟨cell_kept hs.1 hg hr, (frozen_kept hs.1 hg hr).trans hs.2⟩) _) (ownFrom_below (Nat.le_refl _) (by simp; omega)))
    (fun _ _ _ _ _ hs _ _ => hs)
    ⟨⟨(bN.alloc _).cell, (bN.alloc _).frozen⟩, hB0⟩
    (fun x => { tmps := #[.string log, undef, .int .i64 0, .pointer (some ⟨w.heap.size, 0, none⟩), undef, .int .i64 x.2, .string log, .func (.func 75) #[] #[.pointer (some ⟨w.heap.size + 1, 0, none⟩)], .string x.1, .int .i64 x.2, undef, undef], defers := [] }) ?assign ?body ?done ?stop
  case assign =>
    intro l x W K hK
    simp only [enc2]
    gi_wp2
    exact hK
  case body =>
    rintro l pre x W ⟨⟨hc, hf⟩, hB⟩ _
    gi_wp2
    exact ⟨KeepsOthers.setCell _ _ _, fun hL => by rw [World.cell?_setCell_other _ _ _ _ (by simp)]; exact hL, ⟨by rw [lastTo_snoc]; exact World.cell?_setCell_same' _ _ _ (by rw [hc]; rfl), by rw [World.frozen?_setCell]; exact hf⟩, hB.setCell (p := ⟨w.heap.size, 0, none⟩) (Nat.le_refl _) _⟩
  case done =>
    rintro D ys W hD rfl ⟨⟨hc, _⟩, hB⟩ hK
    gi_wp2
    refine ⟨by simp, .inl ⟨_, _, rfl, run_takeDeferred hK, ?_⟩⟩
    exact ⟨_, results_tmp rfl _ _ _, rfl, hB.trans (belowK_b (w := w) (Nat.le_refl _) W D _ _ (by simp at hD; omega) hK rfl rfl)⟩
  case stop =>
    rintro D c pre W _ _ h _
    exact h.elim
end Go.Proofs.YteilnbnnhocciaaDoor.KF

/-! KF5 -/
namespace Go.Proofs.YteilnbnnhocciaaDoor.KF
open Go.RowKit Go.Proofs.YteilnbnnhocciaaDoorW.PrintWords Go.Proofs.YteilnbnnhocciaaDoorW.PrintLast Go.Proofs.YteilnbnnhocciaaDoorW.PrintMore Go.Proofs.YteilnbnnhocciaaDoorM
attribute [local go_sem] max2_int min2_int max_two min_two max_three min_three max_four min_four
set_option linter.unusedVariables false
set_option linter.unusedSimpArgs false
def varint_little.l0 : Nat → Int → List Int → Int → Int → Option (ByteArray)
  | 0, _, _, _, _ => none
  | k + 1, x0, x5, x10, x11 => if x11 < x10 then (if 0 ≤ (wrap64 (8 * x11)) then (if 0 ≤ x11 then (if x11 < (x5.length : Int) then (varint_little.l0 k x0 (x5.set (x11 : Int).toNat ((shr .u64 x0 (wrap64 (8 * x11))) % 256)) x10 (wrap64 (x11 + 1))) else (none)) else (none)) else (none)) else (some (strOfNums x5))
def varint_little.f (k : Nat) (a0 : Int) (a1 : Int) : Option (ByteArray) := if 0 ≤ a1 then (if (a1 : Int).toNat ≤ 281474976710656 then ((some (List.replicate (a1 : Int).toNat 0 : List Int)).bind fun y102 => (varint_little.l0 k a0 y102 (y102.length : Int) 0)) else (none)) else (none)
set_option maxHeartbeats 8000000 in
set_option maxRecDepth 100000 in
theorem varint_little.calls (k : Nat) (a0 : Int) (a1 : Int) (r : ByteArray) (w : World) (h : varint_little.f k a0 a1 = some r) :
    Calls Tryd.prog 148 #[.int .u64 a0, .int .i64 a1] w fun e w' => e = .returned (.string r) ∧ Below w.heap.size w w' := by
  have HB := Aside0.mk (Below.refl w.heap.size w)
  have H : (if 0 ≤ a1 then (if (a1 : Int).toNat ≤ 281474976710656 then ((some (List.replicate (a1 : Int).toNat 0 : List Int)).bind fun y102 => (varint_little.l0 k a0 y102 (y102.length : Int) 0)) else (none)) else (none)) = some r := h
  clear h
  by_cases c3 : 0 ≤ a1
  · rw [if_pos c3] at H
    have c3b0 := eq_true c3
    have c3b1 : decide (0 ≤ a1) = true := decide_eq_true c3
    clear c3
    by_cases c4 : (a1 : Int).toNat ≤ 281474976710656
    · rw [if_pos c4] at H
      have c4b0 := eq_true c4
      have c4b1 : decide ((a1 : Int).toNat ≤ 281474976710656) = true := decide_eq_true c4
      clear c4
      obtain ⟨y102, hy102⟩ : ∃ y_ : List Int, y_ = (List.replicate (a1 : Int).toNat 0) := ⟨_, rfl⟩
      replace H : (varint_little.l0 k a0 y102 (y102.length : Int) 0) = some r := by first | (rw [hy102]; with_reducible exact H) | (have H2_ := (Option.bind_some _ _).symm.trans H; rw [hy102]; with_reducible exact H2_) | (have H2_ := (Option.bind_some _ _).symm.trans H; with_reducible exact H2_) | with_reducible exact H | (rw [hy102]; exact H) | exact H
      have Ny102 := Aside0.mk hy102
      clear hy102
      have H' := Aside0.mk H
      clear H
      go_enter Tryd.func148, Tryd.ntmps148
      go_wp2_with (first | ((with_reducible refine gate_dst (N := 8) rfl ?_); refine Kd.R_make (Kd.int .u8) _ 5 rfl (N := 8) rfl 64 _ _ rfl a1 rfl rfl Tryd.underlying64 (.int .u8 0) 1 info5 rfl (by decide) (by omega) 0 (ok := fun _ => True) (okp := fun _ => True) rfl (fun _ hk => hk) trivial (of_decide_eq_true (by first | (with_reducible assumption) | assumption)) (Nat.le_trans (Nat.mul_le_mul_right _ (of_decide_eq_true (by first | (with_reducible assumption) | assumption) : a1.toNat ≤ 281474976710656)) (by omega)) (Below.refl _ _) (Nat.le_refl _) ?_; intro v103 w5 ho6 hb hg_ hnew_; clear hg_ hnew_; (first | rw [← Ny102.out] at ho6 | (simp only [Int.reduceToNat] at ho6; rw [← Ny102.out] at ho6)); have n0_ := Aside0.mk (Kd.R_lower ho6 (below_size (by repeat (first | (with_reducible first | exact HB.out | apply below_alloc | apply pw_below_drewN | apply below_drew1) | exact HB.out)))); have n1_ := Aside0.mk (below_step (by repeat (first | (with_reducible first | exact HB.out | apply below_alloc | apply pw_below_drewN | apply below_drew1) | exact HB.out)) hb); clear HB; have HO104 := n0_; have HB := n1_; clear n0_ n1_; clear hb ho6; obtain ⟨Ao7, co7, eo7⟩ := Kd.R_slice HO104.out; subst eo7))
      go_loopg [11] k (fun kq v11 w' => ∃ (x5_1 : List Int) (x11_1 : Int), v11 = .int .i64 x11_1 ∧ Aside0 (varint_little.l0 kq a0 x5_1 (y102.length : Int) x11_1 = some r) ∧ Aside0 (kq ≤ k) ∧ Aside0 (Kd.R (Kd.int .u8) 5 w' w.heap.size (fun _ => True) (.slice Ao7 y102.length co7) x5_1) ∧ Aside0 (Below w.heap.size w w'))
      case atStart => exact ⟨(y102), (0), (by first | rfl | (simp; done) | (simp [*]; done)), H', ⟨Nat.le_refl _⟩, ⟨by (with_reducible repeat (first | apply Kd.R_alloc | apply Kd.R_drewN | apply Kd.R_drew)); exact HO104.out⟩, ⟨by repeat (first | (with_reducible first | exact HB.out | apply below_alloc | apply pw_below_drewN | apply below_drew1) | exact HB.out)⟩⟩
      case round =>
        clear H'
        try clear c1
        try clear p2
        try clear c3
        try clear c3b0
        try clear c3b1
        try clear c4
        try clear c4b0
        try clear c4b1
        obtain ⟨x5_1, x11_1, rfl, HA, HK1, HO_5, HB⟩ := hrel
        have hl5_1 := (Kd.R_reads' HO_5.out).1
        rw [hl5_1] at HO_5
        (try simp only [hl5_1])
        cases gk with
        | zero => exact absurd HA.out (by simp [varint_little.l0])
        | succ k1 =>
          have H := HA.out
          clear HA
          simp only [varint_little.l0] at H
          by_cases c8 : x11_1 < (y102.length : Int)
          · rw [if_pos c8] at H
            have c8b0 : decide (x11_1 < (y102.length : Int)) = true := decide_eq_true c8
            clear c8
            obtain ⟨ji9, hji9⟩ : ∃ j_ : Int, (wrap64 (8 * x11_1)) = j_ := ⟨_, rfl⟩
            replace H : (if 0 ≤ (ji9) then (if 0 ≤ x11_1 then (if x11_1 < (x5_1.length : Int) then (varint_little.l0 k1 a0 (x5_1.set (x11_1 : Int).toNat ((shr .u64 a0 (ji9)) % 256)) (y102.length : Int) (wrap64 (x11_1 + 1))) else (none)) else (none)) else (none)) = some r := by first | (rw [hji9] at H; exact H) | (simp only [hji9] at H ⊢; exact H)
            have hji9w : (IntKind.i64.wrap (8 * x11_1)) = ji9 := (i64_w _).trans hji9
            by_cases c10 : 0 ≤ (ji9)
            · rw [if_pos c10] at H
              have c10b0 := eq_true c10
              have c10b1 : decide (0 ≤ (ji9)) = true := decide_eq_true c10
              clear c10
              obtain ⟨ji11, hji11⟩ : ∃ j_ : Int, (shr .u64 a0 (ji9)) = j_ := ⟨_, rfl⟩
              replace H : (if 0 ≤ x11_1 then (if x11_1 < (x5_1.length : Int) then (varint_little.l0 k1 a0 (x5_1.set (x11_1 : Int).toNat ((ji11) % 256)) (y102.length : Int) (wrap64 (x11_1 + 1))) else (none)) else (none)) = some r := by first | (rw [hji11] at H; exact H) | (simp only [hji11] at H ⊢; exact H)
              have hji11_ : (a0 / 2 ^ min (ji9).toNat 64) = ji11 := hji11
              have hji11z : (ji9) ≤ 64 → (a0 / 2 ^ (ji9).toNat) = ji11 := shr_small hji11
              by_cases c12 : 0 ≤ x11_1
              · rw [if_pos c12] at H
                have c12b0 : decide (0 ≤ x11_1) = true := decide_eq_true c12
                clear c12
                by_cases c13 : x11_1 < (x5_1.length : Int)
                · rw [if_pos c13] at H
                  have c13b0 : decide (x11_1 < (x5_1.length : Int)) = true := decide_eq_true c13
                  clear c13
                  obtain ⟨y105, hy105⟩ : ∃ y_ : List Int, y_ = (x5_1.set (x11_1 : Int).toNat ((ji11) % 256)) := ⟨_, rfl⟩
                  replace H : (varint_little.l0 k1 a0 y105 (y102.length : Int) (wrap64 (x11_1 + 1))) = some r := by first | (rw [hy105]; with_reducible exact H) | (have H2_ := (Option.bind_some _ _).symm.trans H; rw [hy105]; with_reducible exact H2_) | (have H2_ := (Option.bind_some _ _).symm.trans H; with_reducible exact H2_) | with_reducible exact H | (rw [hy105]; exact H) | exact H
                  have Ny105 := Aside0.mk hy105
                  clear hy105
                  have H' := Aside0.mk H
                  clear H
                  have p14 : 0 ≤ (x11_1 : Int) := of_decide_eq_true (by first | (with_reducible assumption) | assumption)
                  have q14 : (x11_1 : Int) < ((x5_1.length : Int) : Int) := of_decide_eq_true (by first | (with_reducible assumption) | assumption)
                  obtain ⟨go14, co14, eo14, gb14, gl14, cl14, HG14⟩ := Kd.R_form HO_5.out (by omega)
                  (first | cases eo14 | (injection eo14 with ea_ en_ ec_; (first | subst ea_ | (injection ea_ with ea_; subst ea_)); subst ec_; clear en_))
                  have GB14 := Aside0.mk gb14
                  have GG14 := Aside0.mk HG14
                  clear gb14 gl14 HG14
                  obtain ⟨hx14_0, hf14_0⟩ := Kd.R_celln 0 HO_5.out (x11_1 : Int) p14 q14
                  replace p14 := eq_true p14
                  replace q14 := eq_true q14
                  have HP15 := Kd.R_putg HO_5.out (x11_1 : Int) ((ji11) % 256)
                  go_wp2_with (first | ((with_reducible refine gate_store (t := 5) (p := 21) rfl ?_); refine store_event (t := 5) (p := 21) (v := ?vo_w16) (w1 := (wr.setCell ⟨go14, (x11_1 : Int).toNat, none⟩ (.int .u8 ((ji11) % 256)))) ?hg ?ho ?hn ?hr ?_; (case ho => rfl); (case hg => rfl); (case hn => rfl); (case hr => first | (go_simp; done) | (go_simp; rfl)); intro w16 hw; have hg : wr.grownBy w16 (some go14) := (by rw [hw]; exact HP15.2); have hp_ : Kd.R (Kd.int .u8) 5 w16 w.heap.size (fun _ => True) (.slice (some ⟨go14, 0, none⟩) x5_1.length co7) y105 := (by rw [hw, Ny105.out]; exact HP15.1); clear HP15; have n0_ := Aside0.mk (hp_); have n1_ := Aside0.mk ((by rw [hw]; exact below_set (HB.out) GB14.out : Below w.heap.size w w16)); clear HO_5; clear HB; have HO_5 := n0_; have HB := n1_; clear n0_ n1_; clear hg hw hp_))
                  (try simp only [← hl5_1])
                  go_roundg k1
                  case measure => have := HK1.out; omega
                  case rel => exact ⟨(y105), (wrap64 (x11_1 + 1)), (by first | rfl | (simp; done) | (simp [*]; done)), H', ⟨by have := HK1.out; omega⟩, ⟨by (try simp only [hl5_1]); (with_reducible repeat (first | apply Kd.R_alloc | apply Kd.R_drewN | apply Kd.R_drew)); exact HO_5.out⟩, ⟨by repeat (first | (with_reducible first | exact HB.out | apply below_alloc | apply pw_below_drewN | apply below_drew1) | exact HB.out)⟩⟩
                · rw [if_neg c13] at H
                  exact absurd H (by simp)
              · rw [if_neg c12] at H
                exact absurd H (by simp)
            · rw [if_neg c10] at H
              exact absurd H (by simp)
          · rw [if_neg c8] at H
            have c8b0 : decide (x11_1 < (y102.length : Int)) = false := decide_eq_false c8
            try (have c_b8 := c8b0; rw [hl5_1] at c_b8)
            try (have c_b9 := c8b0; rw [← hl5_1] at c_b9)
            clear c8
            obtain rfl := Option.some.inj H
            have hcv17 := own_string (P := Tryd.prog) Tryd.underlying64 Tryd.underlying5 Tryd.underlying9 (Kd.own_of_R HO_5.out)
            go_wp2
            go_ret
            exact ⟨by first | rfl | (simp [errW_none, errW_some] <;> rfl) | (simp [*, errW_none, errW_some] <;> rfl), by repeat (first | (with_reducible first | exact HB.out | apply below_alloc | apply pw_below_drewN | apply below_drew1) | exact HB.out)⟩
    · rw [if_neg c4] at H
      exact absurd H (by simp)
  · rw [if_neg c3] at H
    exact absurd H (by simp)
end Go.Proofs.YteilnbnnhocciaaDoor.KF

/-! KF6 -/
namespace Go.Proofs.YteilnbnnhocciaaDoor.KF
open Go.RowKit Go.Proofs.YteilnbnnhocciaaDoorW.PrintWords Go.Proofs.YteilnbnnhocciaaDoorW.PrintLast Go.Proofs.YteilnbnnhocciaaDoorW.PrintMore Go.Proofs.YteilnbnnhocciaaDoorM
attribute [local go_sem] max2_int min2_int max_two min_two max_three min_three max_four min_four
set_option linter.unusedVariables false
set_option linter.unusedSimpArgs false
def varint_Fixed.f (k : Nat) (a0 : Int) : Option (ByteArray) := (varint_little.f k (IntKind.u64.wrap (a0)) 4).bind fun t106 => (some t106)
set_option maxHeartbeats 8000000 in
set_option maxRecDepth 100000 in
theorem varint_Fixed.calls (k : Nat) (a0 : Int) (r : ByteArray) (w : World) (h : varint_Fixed.f k a0 = some r) :
    Calls Tryd.prog 123 #[.int .u32 a0] w fun e w' => e = .returned (.string r) ∧ Below w.heap.size w w' := by
  have HB := Aside0.mk (Below.refl w.heap.size w)
  have H : ((varint_little.f k (IntKind.u64.wrap (a0)) 4).bind fun t106 => (some t106)) = some r := h
  clear h
  replace H := Option.bind_eq_some_iff.mp H
  obtain ⟨t106, A20, H⟩ := H
  replace H : (some t106) = some r := H
  have A2 := Aside0.mk A20
  clear A20
  obtain rfl := Option.some.inj H
  go_enter Tryd.func123, Tryd.ntmps123
  go_wp2_with (first | ((with_reducible refine gate_callee (f := 148) rfl ?_); refine goesL_ (some 5) rfl rfl Tryd.func148 (by kernel_rfl) rfl #[.int .u64 (IntKind.u64.wrap (a0)), .int .i64 4] rfl (by (try simp only [List.map_toArray, List.map_cons, List.map_nil]); first | done | rfl | (simp only [List.length_drop, List.length_take]; rfl)) ?_; (with_reducible refine (varint_little.calls k (IntKind.u64.wrap (a0)) 4 t106 _ A2.out).mono ?_); rintro e w3 ⟨rfl, hb⟩; refine ⟨_, rfl, ?_⟩; have n0_ := Aside0.mk (below_step (by repeat (first | (with_reducible first | exact HB.out | apply below_alloc | apply pw_below_drewN | apply below_drew1) | exact HB.out)) hb); clear HB; have HB := n0_; clear n0_; (try clear hb); (try clear hb2); (try clear hk); (try clear hi)))
  go_ret
  exact ⟨by first | rfl | (simp [errW_none, errW_some] <;> rfl) | (simp [*, errW_none, errW_some] <;> rfl), by repeat (first | (with_reducible first | exact HB.out | apply below_alloc | apply pw_below_drewN | apply below_drew1) | exact HB.out)⟩
end Go.Proofs.YteilnbnnhocciaaDoor.KF

/-! KF11 -/
namespace Go.Proofs.YteilnbnnhocciaaDoor.KF
open Go.RowKit Go.Proofs.YteilnbnnhocciaaDoorW.PrintWords Go.Proofs.YteilnbnnhocciaaDoorW.PrintLast Go.Proofs.YteilnbnnhocciaaDoorW.PrintMore Go.Proofs.YteilnbnnhocciaaDoorM
attribute [local go_sem] max2_int min2_int max_two min_two max_three min_three max_four min_four
set_option linter.unusedVariables false
set_option linter.unusedSimpArgs false
def frame_piece.f (k : Nat) (a0 : Int) (a1 : ByteArray) : Option (ByteArray) := (frame_sum.f a0 a1).bind fun t113 => ((varint_Fixed.f k t113).bind fun t114 => ((some (([((a1.size : Int)) % 256, ((a1.size : Int) / 256) % 256, a0] : List Int) : List Int)).bind fun y115 => (if t114.size + (strOfNums y115).size ≤ 9223372036854775807 then (if (t114 ++ (strOfNums y115)).size + a1.size ≤ 9223372036854775807 then (some ((t114 ++ (strOfNums y115)) ++ a1)) else (none)) else (none))))
def frame_piece.T1 : Bool × List (List Nat × List Nat) := (true, [([], []), ([], []), ([0, 1], [0, 1]), ([2, 2], [2]), ([], []), ([4], [4]), ([5], [5]), ([], []), ([7], [7]), ([8], [8]), ([9], [9]), ([], []), ([6, 10, 11], [6, 10, 11]), ([12], [12]), ([3, 13], [3, 13]), ([], []), ([14, 15], [14, 15]), ([16, 3, 0, 1, 2, 3, 4, 5, 6, 7, 8, 9, 10, 11, 12, 13, 14, 15, 16], [16])])
def frame_piece.B1 : List Nat := [0, 0, 3, 7, 0, 16, 48, 0, 128, 384, 896, 0, 4080, 8176, 16383, 0, 65535, 131071]
theorem frame_piece.tab1 : rtab .any (opsOf Tryd.f81 1) = frame_piece.T1 := by kernel_rfl
theorem frame_piece.bits1 : waitsOk frame_piece.T1.2 frame_piece.B1 = true := by kernel_rfl
set_option maxHeartbeats 8000000 in
set_option maxRecDepth 100000 in
theorem frame_piece.calls (k : Nat) (a0 : Int) (a1 : ByteArray) (r : ByteArray) (w : World) (h : frame_piece.f k a0 a1 = some r) :
    Calls Tryd.prog 81 #[.int .u8 a0, .string a1] w fun e w' => e = .returned (.string r) ∧ Below w.heap.size w w' := by
  have HB := Aside0.mk (Below.refl w.heap.size w)
  have H : ((frame_sum.f a0 a1).bind fun t113 => ((varint_Fixed.f k t113).bind fun t114 => ((some (([((a1.size : Int)) % 256, ((a1.size : Int) / 256) % 256, a0] : List Int) : List Int)).bind fun y115 => (if t114.size + (strOfNums y115).size ≤ 9223372036854775807 then (if (t114 ++ (strOfNums y115)).size + a1.size ≤ 9223372036854775807 then (some ((t114 ++ (strOfNums y115)) ++ a1)) else (none)) else (none))))) = some r := h
  clear h
  replace H := Option.bind_eq_some_iff.mp H
  obtain ⟨t113, A30, H⟩ := H
  replace H : ((varint_Fixed.f k t113).bind fun t114 => ((some (([((a1.size : Int)) % 256, ((a1.size : Int) / 256) % 256, a0] : List Int) : List Int)).bind fun y115 => (if t114.size + (strOfNums y115).size ≤ 9223372036854775807 then (if (t114 ++ (strOfNums y115)).size + a1.size ≤ 9223372036854775807 then (some ((t114 ++ (strOfNums y115)) ++ a1)) else (none)) else (none)))) = some r := H
  have A3 := Aside0.mk A30
  clear A30
  replace H := Option.bind_eq_some_iff.mp H
  obtain ⟨t114, A40, H⟩ := H
  replace H : ((some (([((a1.size : Int)) % 256, ((a1.size : Int) / 256) % 256, a0] : List Int) : List Int)).bind fun y115 => (if t114.size + (strOfNums y115).size ≤ 9223372036854775807 then (if (t114 ++ (strOfNums y115)).size + a1.size ≤ 9223372036854775807 then (some ((t114 ++ (strOfNums y115)) ++ a1)) else (none)) else (none))) = some r := H
  have A4 := Aside0.mk A40
  clear A40
  obtain ⟨y115, hy115⟩ : ∃ y_ : List Int, y_ = (([((a1.size : Int)) % 256, ((a1.size : Int) / 256) % 256, a0] : List Int)) := ⟨_, rfl⟩
  replace H : (if t114.size + (strOfNums y115).size ≤ 9223372036854775807 then (if (t114 ++ (strOfNums y115)).size + a1.size ≤ 9223372036854775807 then (some ((t114 ++ (strOfNums y115)) ++ a1)) else (none)) else (none)) = some r := by first | (rw [hy115]; with_reducible exact H) | (have H2_ := (Option.bind_some _ _).symm.trans H; rw [hy115]; with_reducible exact H2_) | (have H2_ := (Option.bind_some _ _).symm.trans H; with_reducible exact H2_) | with_reducible exact H | (rw [hy115]; exact H) | exact H
  have Ny115 := Aside0.mk hy115
  clear hy115
  by_cases c5 : t114.size + (strOfNums y115).size ≤ 9223372036854775807
  · rw [if_pos c5] at H
    have c5b0 := eq_true c5
    have c5b1 : decide (t114.size + (strOfNums y115).size ≤ 9223372036854775807) = true := decide_eq_true c5
    try have c5b2 : (9223372036854775807 < t114.size + (strOfNums y115).size) = False := eq_false (Nat.not_lt.2 c5)
    by_cases c6 : (t114 ++ (strOfNums y115)).size + a1.size ≤ 9223372036854775807
    · rw [if_pos c6] at H
      have c6b0 := eq_true c6
      have c6b1 : decide ((t114 ++ (strOfNums y115)).size + a1.size ≤ 9223372036854775807) = true := decide_eq_true c6
      try have c6b2 : (9223372036854775807 < (t114 ++ (strOfNums y115)).size + a1.size) = False := eq_false (Nat.not_lt.2 c6)
      try (have c6b3 := c6b2; simp only [ByteArray.size_append'] at c6b3)
      obtain rfl := Option.some.inj H
      go_enter Tryd.func81, Tryd.ntmps81
      try go_wp2
      have n0_ := Aside0.mk (below_drew1 HB.out)
      clear HB
      have HB := n0_
      clear n0_
      refine start_ (n := 18) (S := fun w' => True) (ds := []) #[false, false, false, false, false, false, false, false, false, false, false, false, false, false, false, false, false, false] (by kernel_rfl) rfl rfl trivial (fun hHeld => ?_); refine with_tabW frame_piece.tab1 frame_piece.bits1 (fun HT_ HW_ => ?_)
      generalize w.drew = w7 at HB hHeld ⊢
      refine pure_ (i := 0) (N := some 5) (v := ?_) (a' := ?_) #[true, false, false, false, false, false, false, false, false, false, false, false, false, false, false, false, false, false] rfl rfl (any_of HT_.out (by kernel_rfl)) (fun _ _ _ h => h) (Or.inl ⟨by rfl, ?_⟩) ?_ ?_
      rotate_left
      · intro w'
        go_simp
        with_reducible rfl
      rotate_left
      · simp only [Act.put, List.setIfInBounds_toArray, List.set_cons_zero, List.set_cons_succ, i64_w, i32_w]
        rfl
      refine pure_ (i := 1) (N := some 6) (v := ?_) (a' := ?_) #[true, true, false, false, false, false, false, false, false, false, false, false, false, false, false, false, false, false] rfl rfl (any_of HT_.out (by kernel_rfl)) (fun _ _ _ h => h) (Or.inl ⟨by rfl, ?_⟩) ?_ ?_
      rotate_left
      · intro w'
        go_simp
        with_reducible rfl
      rotate_left
      · simp only [Act.put, List.setIfInBounds_toArray, List.set_cons_zero, List.set_cons_succ, i64_w, i32_w]
        rfl
      refine pure_ (i := 4) (N := some 9) (v := ?_) (a' := ?_) #[true, true, false, false, true, false, false, false, false, false, false, false, false, false, false, false, false, false] rfl rfl (any_of HT_.out (by kernel_rfl)) (fun _ _ _ h => h) (Or.inl ⟨by rfl, ?_⟩) ?_ ?_
      rotate_left
      · intro w'
        go_simp
        with_reducible rfl
      rotate_left
      · simp only [Act.put, List.setIfInBounds_toArray, List.set_cons_zero, List.set_cons_succ, i64_w, i32_w]
        rfl
      refine pure_ (i := 5) (N := some 10) (v := ?_) (a' := ?_) #[true, true, false, false, true, true, false, false, false, false, false, false, false, false, false, false, false, false] rfl rfl (any_of HT_.out (by kernel_rfl)) (fun _ _ _ h => h) (Or.inl ⟨by rfl, ?_⟩) ?_ ?_
      rotate_left
      · intro w'
        go_simp
        with_reducible rfl
      rotate_left
      · simp only [Act.put, List.setIfInBounds_toArray, List.set_cons_zero, List.set_cons_succ, i64_w, i32_w]
        rfl
      refine pure_ (i := 6) (N := some 11) (v := ?_) (a' := ?_) #[true, true, false, false, true, true, true, false, false, false, false, false, false, false, false, false, false, false] rfl rfl (any_of HT_.out (by kernel_rfl)) (fun _ _ _ h => h) (Or.inl ⟨by rfl, ?_⟩) ?_ ?_
      rotate_left
      · intro w'
        go_simp
        with_reducible rfl
      rotate_left
      · simp only [Act.put, List.setIfInBounds_toArray, List.set_cons_zero, List.set_cons_succ, i64_w, i32_w]
        rfl
      refine pure_ (i := 7) (N := some 12) (v := ?_) (a' := ?_) #[true, true, false, false, true, true, true, true, false, false, false, false, false, false, false, false, false, false] rfl rfl (any_of HT_.out (by kernel_rfl)) (fun _ _ _ h => h) (Or.inl ⟨by rfl, ?_⟩) ?_ ?_
      rotate_left
      · intro w'
        go_simp
        with_reducible rfl
      rotate_left
      · simp only [Act.put, List.setIfInBounds_toArray, List.set_cons_zero, List.set_cons_succ, i64_w, i32_w]
        rfl
      refine pure_ (i := 8) (N := some 13) (v := ?_) (a' := ?_) #[true, true, false, false, true, true, true, true, true, false, false, false, false, false, false, false, false, false] rfl rfl (any_of HT_.out (by kernel_rfl)) (fun _ _ _ h => h) (Or.inl ⟨by rfl, ?_⟩) ?_ ?_
      rotate_left
      · intro w'
        go_simp
        with_reducible rfl
      rotate_left
      · simp only [Act.put, List.setIfInBounds_toArray, List.set_cons_zero, List.set_cons_succ, i64_w, i32_w]
        rfl
      refine pure_ (i := 9) (N := some 14) (v := ?_) (a' := ?_) #[true, true, false, false, true, true, true, true, true, true, false, false, false, false, false, false, false, false] rfl rfl (any_of HT_.out (by kernel_rfl)) (fun _ _ _ h => h) (Or.inl ⟨by rfl, ?_⟩) ?_ ?_
      rotate_left
      · intro w'
        go_simp
        with_reducible rfl
      rotate_left
      · simp only [Act.put, List.setIfInBounds_toArray, List.set_cons_zero, List.set_cons_succ, i64_w, i32_w]
        rfl
      refine pure_ (i := 10) (N := some 15) (v := ?_) (a' := ?_) #[true, true, false, false, true, true, true, true, true, true, true, false, false, false, false, false, false, false] rfl rfl (any_of HT_.out (by kernel_rfl)) (fun _ _ _ h => h) (Or.inl ⟨by rfl, ?_⟩) ?_ ?_
      rotate_left
      · intro w'
        go_simp
        with_reducible rfl
      rotate_left
      · simp only [Act.put, List.setIfInBounds_toArray, List.set_cons_zero, List.set_cons_succ, i64_w, i32_w]
        rfl
      refine pure_ (i := 11) (N := some 16) (v := ?_) (a' := ?_) #[true, true, false, false, true, true, true, true, true, true, true, true, false, false, false, false, false, false] rfl rfl (any_of HT_.out (by kernel_rfl)) (fun _ _ _ h => h) (Or.inl ⟨by rfl, ?_⟩) ?_ ?_
      rotate_left
      · intro w'
        go_simp
        with_reducible rfl
      rotate_left
      · simp only [Act.put, List.setIfInBounds_toArray, List.set_cons_zero, List.set_cons_succ, i64_w, i32_w]
        rfl
      refine pure_ (i := 15) (N := some 20) (v := ?_) (a' := ?_) #[true, true, false, false, true, true, true, true, true, true, true, true, false, false, false, true, false, false] rfl rfl (any_of HT_.out (by kernel_rfl)) (fun _ _ _ h => h) (Or.inl ⟨by rfl, ?_⟩) ?_ ?_
      rotate_left
      · intro w'
        go_simp
        with_reducible rfl
      rotate_left
      · simp only [Act.put, List.setIfInBounds_toArray, List.set_cons_zero, List.set_cons_succ, i64_w, i32_w]
        rfl
      refine join_ (σ := Value) 3 #[true, true, true, true, true, true, true, true, true, true, true, true, true, true, false, true, false, false] (fun s_ => [(7, .int .u32 t113), (8, .string t114), (17, s_), (18, .string (strOfNums y115))]) (fun s_ w' => (Kd.R (Kd.int .u8) 5 w' w.heap.size (fun _ => True) s_ y115) ∧ (Below w.heap.size w w')) ?_ ?_
      rotate_left
      · intro hJ2_3_12_13
        refine join_ (σ := Value) 4 #[true, true, true, true, true, true, true, true, true, true, true, true, true, false, false, true, false, false] (fun s_ => [(7, .int .u32 t113), (8, .string t114), (17, s_)]) (fun s_ w' => (Kd.R (Kd.int .u8) 5 w' w.heap.size (fun _ => True) s_ y115) ∧ (Below w.heap.size w w')) ?_ ?_
        rotate_left
        · intro hJ2_3_12
          refine join_ (σ := Value) 4 #[true, true, true, false, true, true, true, true, true, true, true, true, true, true, false, true, false, false] (fun s_ => [(7, .int .u32 t113), (17, s_), (18, .string (strOfNums y115))]) (fun s_ w' => (Kd.R (Kd.int .u8) 5 w' w.heap.size (fun _ => True) s_ y115) ∧ (Below w.heap.size w w')) ?_ ?_
          rotate_left
          · intro hJ2_12_13
            refine join_ (σ := Unit) 5 #[true, true, true, true, true, true, true, true, true, true, true, true, false, false, false, true, false, false] (fun s_ => [(7, .int .u32 t113), (8, .string t114)]) (fun s_ w' => (Below w.heap.size w w')) ?_ ?_
            rotate_left
            · intro hJ2_3
              refine join_ (σ := Value) 5 #[true, true, true, false, true, true, true, true, true, true, true, true, true, false, false, true, false, false] (fun s_ => [(7, .int .u32 t113), (17, s_)]) (fun s_ w' => (Kd.R (Kd.int .u8) 5 w' w.heap.size (fun _ => True) s_ y115) ∧ (Below w.heap.size w w')) ?_ ?_
              rotate_left
              · intro hJ2_12
                refine join_ (σ := Value) 5 #[true, true, false, false, true, true, true, true, true, true, true, true, true, true, false, true, false, false] (fun s_ => [(17, s_), (18, .string (strOfNums y115))]) (fun s_ w' => (Kd.R (Kd.int .u8) 5 w' w.heap.size (fun _ => True) s_ y115) ∧ (Below w.heap.size w w')) ?_ ?_
                rotate_left
                · intro hJ12_13
                  refine join_ (σ := Unit) 6 #[true, true, true, false, true, true, true, true, true, true, true, true, false, false, false, true, false, false] (fun s_ => [(7, .int .u32 t113)]) (fun s_ w' => (Below w.heap.size w w')) ?_ ?_
                  rotate_left
                  · intro hJ2
                    refine join_ (σ := Value) 6 #[true, true, false, false, true, true, true, true, true, true, true, true, true, false, false, true, false, false] (fun s_ => [(17, s_)]) (fun s_ w' => (Kd.R (Kd.int .u8) 5 w' w.heap.size (fun _ => True) s_ y115) ∧ (Below w.heap.size w w')) ?_ ?_
                    rotate_left
                    · intro hJ12
                      refine two_ (i := 2) (j := 12) (Ni := some 7) (Nj := some 17) #[true, true, true, false, true, true, true, true, true, true, true, true, false, false, false, true, false, false] #[true, true, false, false, true, true, true, true, true, true, true, true, true, false, false, true, false, false] rfl rfl rfl rfl (two_of HT_.out (by kernel_rfl)) (by decide) (by decide) (fun K hK => ?_) (fun K hK => ?_)
                      · skip
                        refine goes_ Tryd.func124 (by kernel_rfl) rfl #[.int .u8 a0, .string a1] (by rfl) rfl rfl (by (try simp only [List.map_toArray, List.map_cons, List.map_nil]); first | done | rfl | (simp only [List.length_drop, List.length_take]; rfl)) ?_
                        with_reducible refine (frame_sum.calls a0 a1 t113 _ A3.out).mono ?_
                        rintro e w8 ⟨rfl, hb⟩
                        refine ⟨_, rfl, ?_⟩
                        have n0_ := Aside0.mk (below_step (by repeat (first | (with_reducible first | exact HB.out | apply below_alloc | apply pw_below_drewN | apply below_drew1) | exact HB.out)) hb)
                        clear HB
                        have HB := n0_
                        clear n0_
                        (try clear hb)
                        (try clear hb2)
                        (try clear hk)
                        (try clear hi)
                        refine hK.out _ _ trivial (fun hHeld => ?_)
                        clear hK K
                        refine norm_ (a' := ?_) ?_ ?_
                        rotate_left
                        · show Act.put _ (some 7) _ = _
                          simp only [Act.put, List.setIfInBounds_toArray, List.set_cons_zero, List.set_cons_succ, i64_w, i32_w]
                          rfl
                        exact norm_ (by first | (simp only [putAll, Act.put, List.setIfInBounds_toArray, List.set_cons_zero, List.set_cons_succ]; done) | (simp only [putAll, Act.put, List.setIfInBounds_toArray, List.set_cons_zero, List.set_cons_succ]; rfl)) (hJ2 () _ (by repeat (first | (with_reducible first | exact HB.out | apply below_alloc | apply pw_below_drewN | apply below_drew1) | exact HB.out)))
                      · skip
                        refine Kd.R_lit_step (Kd.int .u8) _ 5 ?hg (N := 17) ?hd (xs := ([((a1.size : Int)) % 256, ((a1.size : Int) / 256) % 256, a0] : List Int)) (inner := [.int .u8 (((a1.size : Int)) % 256), .int .u8 (((a1.size : Int) / 256) % 256), .int .u8 a0]) (ok := fun _ => True) (okp := fun _ => True) ?hr ?hp (fun _ hk => hk) trivial (Below.refl _ _) (Nat.le_refl _) (by simp) ?_; (case hd => rfl); (case hg => rfl); (case hr => first | (go_simp; done) | (go_simp; rfl)); (case hp => exact (Reps.one (show Kd.M (Kd.int .u8) _ _ _ (((a1.size : Int)) % 256) [.int .u8 (((a1.size : Int)) % 256)] from rfl) (Reps.one (show Kd.M (Kd.int .u8) _ _ _ (((a1.size : Int) / 256) % 256) [.int .u8 (((a1.size : Int) / 256) % 256)] from rfl) (Reps.one (show Kd.M (Kd.int .u8) _ _ _ a0 [.int .u8 a0] from rfl) (Reps.none _ _)))))
                        intro v116 w8 ho9 hb hg_ hnew_
                        clear hg_ hnew_
                        (first | rw [← Ny115.out] at ho9 | (simp only [Int.reduceToNat] at ho9; rw [← Ny115.out] at ho9))
                        have n0_ := Aside0.mk (Kd.R_lower ho9 (below_size (by repeat (first | (with_reducible first | exact HB.out | apply below_alloc | apply pw_below_drewN | apply below_drew1) | exact HB.out))))
                        have n1_ := Aside0.mk (below_step (by repeat (first | (with_reducible first | exact HB.out | apply below_alloc | apply pw_below_drewN | apply below_drew1) | exact HB.out)) hb)
                        clear HB
                        have HO117 := n0_
                        have HB := n1_
                        clear n0_ n1_
                        clear hb ho9
                        refine hK.out _ _ trivial (fun hHeld => ?_)
                        clear hK K
                        refine norm_ (a' := ?_) ?_ ?_
                        rotate_left
                        · show Act.put _ (some 17) _ = _
                          simp only [Act.put, List.setIfInBounds_toArray, List.set_cons_zero, List.set_cons_succ, i64_w, i32_w]
                          rfl
                        exact norm_ (by first | (simp only [putAll, Act.put, List.setIfInBounds_toArray, List.set_cons_zero, List.set_cons_succ]; done) | (simp only [putAll, Act.put, List.setIfInBounds_toArray, List.set_cons_zero, List.set_cons_succ]; rfl)) (hJ12 (v116) _ ⟨(by (with_reducible repeat (first | apply Kd.R_alloc | apply Kd.R_drewN | apply Kd.R_drew)); exact HO117.out), (by repeat (first | (with_reducible first | exact HB.out | apply below_alloc | apply pw_below_drewN | apply below_drew1) | exact HB.out))⟩)
                    · skip
                      rintro v116 w10 ⟨h0_, h1_⟩
                      have n0_ : Aside0 (Kd.R (Kd.int .u8) 5 w10 w.heap.size (fun _ => True) v116 y115) := ⟨h0_⟩
                      have n1_ : Aside0 (Below w.heap.size w w10) := ⟨h1_⟩
                      clear HB
                      clear h0_ h1_
                      have HO117 := n0_
                      have HB := n1_
                      clear n0_ n1_
                      have hHeld := trivial
                      refine norm_ (a' := ?_) ?_ ?_
                      rotate_left
                      · simp only [putAll, Act.put, List.setIfInBounds_toArray, List.set_cons_zero, List.set_cons_succ]
                        rfl
                      refine two_ (i := 2) (j := 13) (Ni := some 7) (Nj := some 18) #[true, true, true, false, true, true, true, true, true, true, true, true, true, false, false, true, false, false] #[true, true, false, false, true, true, true, true, true, true, true, true, true, true, false, true, false, false] rfl rfl rfl rfl (two_of HT_.out (by kernel_rfl)) (by decide) (by decide) (fun K hK => ?_) (fun K hK => ?_)
                      · skip
                        refine goes_ Tryd.func124 (by kernel_rfl) rfl #[.int .u8 a0, .string a1] (by rfl) rfl rfl (by (try simp only [List.map_toArray, List.map_cons, List.map_nil]); first | done | rfl | (simp only [List.length_drop, List.length_take]; rfl)) ?_
                        with_reducible refine (frame_sum.calls a0 a1 t113 _ A3.out).mono ?_
                        rintro e w11 ⟨rfl, hb⟩
                        refine ⟨_, rfl, ?_⟩
                        have n0_ := Aside0.mk (Kd.R_below (by (with_reducible repeat (first | apply Kd.R_alloc | apply Kd.R_drewN | apply Kd.R_drew)); exact HO117.out) hb)
                        have n1_ := Aside0.mk (below_step (by repeat (first | (with_reducible first | exact HB.out | apply below_alloc | apply pw_below_drewN | apply below_drew1) | exact HB.out)) hb)
                        clear HO117
                        clear HB
                        have HO117 := n0_
                        have HB := n1_
                        clear n0_ n1_
                        (try clear hb)
                        (try clear hb2)
                        (try clear hk)
                        (try clear hi)
                        refine hK.out _ _ trivial (fun hHeld => ?_)
                        clear hK K
                        refine norm_ (a' := ?_) ?_ ?_
                        rotate_left
                        · show Act.put _ (some 7) _ = _
                          simp only [Act.put, List.setIfInBounds_toArray, List.set_cons_zero, List.set_cons_succ, i64_w, i32_w]
                          rfl
                        exact norm_ (by first | (simp only [putAll, Act.put, List.setIfInBounds_toArray, List.set_cons_zero, List.set_cons_succ]; done) | (simp only [putAll, Act.put, List.setIfInBounds_toArray, List.set_cons_zero, List.set_cons_succ]; rfl)) (hJ2_12 (v116) _ ⟨(by (with_reducible repeat (first | apply Kd.R_alloc | apply Kd.R_drewN | apply Kd.R_drew)); exact HO117.out), (by repeat (first | (with_reducible first | exact HB.out | apply below_alloc | apply pw_below_drewN | apply below_drew1) | exact HB.out))⟩)
                      · skip
                        have hcv11 := own_string (P := Tryd.prog) Tryd.underlying64 Tryd.underlying5 Tryd.underlying9 (Kd.own_of_R HO117.out)
                        refine value_ (w1 := ?_) (v := ?_) (by rfl) rfl ?_ ?_
                        rotate_left 2
                        · go_simp
                          constructor
                          · rfl
                          · rfl
                        clear hcv11
                        refine hK.out _ _ trivial (fun hHeld => ?_)
                        clear hK K
                        refine norm_ (a' := ?_) ?_ ?_
                        rotate_left
                        · show Act.put _ (some 18) _ = _
                          simp only [Act.put, List.setIfInBounds_toArray, List.set_cons_zero, List.set_cons_succ, i64_w, i32_w]
                          rfl
                        exact norm_ (by first | (simp only [putAll, Act.put, List.setIfInBounds_toArray, List.set_cons_zero, List.set_cons_succ]; done) | (simp only [putAll, Act.put, List.setIfInBounds_toArray, List.set_cons_zero, List.set_cons_succ]; rfl)) (hJ12_13 (v116) _ ⟨(by (with_reducible repeat (first | apply Kd.R_alloc | apply Kd.R_drewN | apply Kd.R_drew)); exact HO117.out), (by repeat (first | (with_reducible first | exact HB.out | apply below_alloc | apply pw_below_drewN | apply below_drew1) | exact HB.out))⟩)
                  · skip
                    rintro _ w9 h0_
                    have n0_ : Aside0 (Below w.heap.size w w9) := ⟨h0_⟩
                    clear HB
                    clear h0_
                    have HB := n0_
                    clear n0_
                    have hHeld := trivial
                    refine norm_ (a' := ?_) ?_ ?_
                    rotate_left
                    · simp only [putAll, Act.put, List.setIfInBounds_toArray, List.set_cons_zero, List.set_cons_succ]
                      rfl
                    refine two_ (i := 3) (j := 12) (Ni := some 8) (Nj := some 17) #[true, true, true, true, true, true, true, true, true, true, true, true, false, false, false, true, false, false] #[true, true, true, false, true, true, true, true, true, true, true, true, true, false, false, true, false, false] rfl rfl rfl rfl (two_of HT_.out (by kernel_rfl)) (by decide) (by decide) (fun K hK => ?_) (fun K hK => ?_)
                    · skip
                      refine goes_ Tryd.func123 (by kernel_rfl) rfl #[.int .u32 t113] (by rfl) rfl rfl (by (try simp only [List.map_toArray, List.map_cons, List.map_nil]); first | done | rfl | (simp only [List.length_drop, List.length_take]; rfl)) ?_
                      with_reducible refine (varint_Fixed.calls k t113 t114 _ A4.out).mono ?_
                      rintro e w10 ⟨rfl, hb⟩
                      refine ⟨_, rfl, ?_⟩
                      have n0_ := Aside0.mk (below_step (by repeat (first | (with_reducible first | exact HB.out | apply below_alloc | apply pw_below_drewN | apply below_drew1) | exact HB.out)) hb)
                      clear HB
                      have HB := n0_
                      clear n0_
                      (try clear hb)
                      (try clear hb2)
                      (try clear hk)
                      (try clear hi)
                      refine hK.out _ _ trivial (fun hHeld => ?_)
                      clear hK K
                      refine norm_ (a' := ?_) ?_ ?_
                      rotate_left
                      · show Act.put _ (some 8) _ = _
                        simp only [Act.put, List.setIfInBounds_toArray, List.set_cons_zero, List.set_cons_succ, i64_w, i32_w]
                        rfl
                      exact norm_ (by first | (simp only [putAll, Act.put, List.setIfInBounds_toArray, List.set_cons_zero, List.set_cons_succ]; done) | (simp only [putAll, Act.put, List.setIfInBounds_toArray, List.set_cons_zero, List.set_cons_succ]; rfl)) (hJ2_3 () _ (by repeat (first | (with_reducible first | exact HB.out | apply below_alloc | apply pw_below_drewN | apply below_drew1) | exact HB.out)))
                    · skip
                      refine Kd.R_lit_step (Kd.int .u8) _ 5 ?hg (N := 17) ?hd (xs := ([((a1.size : Int)) % 256, ((a1.size : Int) / 256) % 256, a0] : List Int)) (inner := [.int .u8 (((a1.size : Int)) % 256), .int .u8 (((a1.size : Int) / 256) % 256), .int .u8 a0]) (ok := fun _ => True) (okp := fun _ => True) ?hr ?hp (fun _ hk => hk) trivial (Below.refl _ _) (Nat.le_refl _) (by simp) ?_; (case hd => rfl); (case hg => rfl); (case hr => first | (go_simp; done) | (go_simp; rfl)); (case hp => exact (Reps.one (show Kd.M (Kd.int .u8) _ _ _ (((a1.size : Int)) % 256) [.int .u8 (((a1.size : Int)) % 256)] from rfl) (Reps.one (show Kd.M (Kd.int .u8) _ _ _ (((a1.size : Int) / 256) % 256) [.int .u8 (((a1.size : Int) / 256) % 256)] from rfl) (Reps.one (show Kd.M (Kd.int .u8) _ _ _ a0 [.int .u8 a0] from rfl) (Reps.none _ _)))))
                      intro v116 w10 ho11 hb hg_ hnew_
                      clear hg_ hnew_
                      (first | rw [← Ny115.out] at ho11 | (simp only [Int.reduceToNat] at ho11; rw [← Ny115.out] at ho11))
                      have n0_ := Aside0.mk (Kd.R_lower ho11 (below_size (by repeat (first | (with_reducible first | exact HB.out | apply below_alloc | apply pw_below_drewN | apply below_drew1) | exact HB.out))))
                      have n1_ := Aside0.mk (below_step (by repeat (first | (with_reducible first | exact HB.out | apply below_alloc | apply pw_below_drewN | apply below_drew1) | exact HB.out)) hb)
                      clear HB
                      have HO117 := n0_
                      have HB := n1_
                      clear n0_ n1_
                      clear hb ho11
                      refine hK.out _ _ trivial (fun hHeld => ?_)
                      clear hK K
                      refine norm_ (a' := ?_) ?_ ?_
                      rotate_left
                      · show Act.put _ (some 17) _ = _
                        simp only [Act.put, List.setIfInBounds_toArray, List.set_cons_zero, List.set_cons_succ, i64_w, i32_w]
                        rfl
                      exact norm_ (by first | (simp only [putAll, Act.put, List.setIfInBounds_toArray, List.set_cons_zero, List.set_cons_succ]; done) | (simp only [putAll, Act.put, List.setIfInBounds_toArray, List.set_cons_zero, List.set_cons_succ]; rfl)) (hJ2_12 (v116) _ ⟨(by (with_reducible repeat (first | apply Kd.R_alloc | apply Kd.R_drewN | apply Kd.R_drew)); exact HO117.out), (by repeat (first | (with_reducible first | exact HB.out | apply below_alloc | apply pw_below_drewN | apply below_drew1) | exact HB.out))⟩)
                · skip
                  rintro v116 w11 ⟨h0_, h1_⟩
                  have n0_ : Aside0 (Kd.R (Kd.int .u8) 5 w11 w.heap.size (fun _ => True) v116 y115) := ⟨h0_⟩
                  have n1_ : Aside0 (Below w.heap.size w w11) := ⟨h1_⟩
                  clear HB
                  clear h0_ h1_
                  have HO117 := n0_
                  have HB := n1_
                  clear n0_ n1_
                  have hHeld := trivial
                  refine norm_ (a' := ?_) ?_ ?_
                  rotate_left
                  · simp only [putAll, Act.put, List.setIfInBounds_toArray, List.set_cons_zero, List.set_cons_succ]
                    rfl
                  refine one_ (i := 2) (N := some 7) #[true, true, true, false, true, true, true, true, true, true, true, true, true, true, false, true, false, false] rfl rfl (one_of HT_.out (by kernel_rfl)) (by decide) (fun K hK => ?_)
                  refine goes_ Tryd.func124 (by kernel_rfl) rfl #[.int .u8 a0, .string a1] (by rfl) rfl rfl (by (try simp only [List.map_toArray, List.map_cons, List.map_nil]); first | done | rfl | (simp only [List.length_drop, List.length_take]; rfl)) ?_
                  with_reducible refine (frame_sum.calls a0 a1 t113 _ A3.out).mono ?_
                  rintro e w12 ⟨rfl, hb⟩
                  refine ⟨_, rfl, ?_⟩
                  have n0_ := Aside0.mk (Kd.R_below (by (with_reducible repeat (first | apply Kd.R_alloc | apply Kd.R_drewN | apply Kd.R_drew)); exact HO117.out) hb)
                  have n1_ := Aside0.mk (below_step (by repeat (first | (with_reducible first | exact HB.out | apply below_alloc | apply pw_below_drewN | apply below_drew1) | exact HB.out)) hb)
                  clear HO117
                  clear HB
                  have HO117 := n0_
                  have HB := n1_
                  clear n0_ n1_
                  (try clear hb)
                  (try clear hb2)
                  (try clear hk)
                  (try clear hi)
                  refine hK.out _ _ trivial (fun hHeld => ?_)
                  clear hK K
                  refine norm_ (a' := ?_) ?_ ?_
                  rotate_left
                  · show Act.put _ (some 7) _ = _
                    simp only [Act.put, List.setIfInBounds_toArray, List.set_cons_zero, List.set_cons_succ, i64_w, i32_w]
                    rfl
                  exact norm_ (by first | (simp only [putAll, Act.put, List.setIfInBounds_toArray, List.set_cons_zero, List.set_cons_succ]; done) | (simp only [putAll, Act.put, List.setIfInBounds_toArray, List.set_cons_zero, List.set_cons_succ]; rfl)) (hJ2_12_13 (v116) _ ⟨(by (with_reducible repeat (first | apply Kd.R_alloc | apply Kd.R_drewN | apply Kd.R_drew)); exact HO117.out), (by repeat (first | (with_reducible first | exact HB.out | apply below_alloc | apply pw_below_drewN | apply below_drew1) | exact HB.out))⟩)
              · skip
                rintro v116 w11 ⟨h0_, h1_⟩
                have n0_ : Aside0 (Kd.R (Kd.int .u8) 5 w11 w.heap.size (fun _ => True) v116 y115) := ⟨h0_⟩
                have n1_ : Aside0 (Below w.heap.size w w11) := ⟨h1_⟩
                clear HB
                clear h0_ h1_
                have HO117 := n0_
                have HB := n1_
                clear n0_ n1_
                have hHeld := trivial
                refine norm_ (a' := ?_) ?_ ?_
                rotate_left
                · simp only [putAll, Act.put, List.setIfInBounds_toArray, List.set_cons_zero, List.set_cons_succ]
                  rfl
                refine two_ (i := 3) (j := 13) (Ni := some 8) (Nj := some 18) #[true, true, true, true, true, true, true, true, true, true, true, true, true, false, false, true, false, false] #[true, true, true, false, true, true, true, true, true, true, true, true, true, true, false, true, false, false] rfl rfl rfl rfl (two_of HT_.out (by kernel_rfl)) (by decide) (by decide) (fun K hK => ?_) (fun K hK => ?_)
                · skip
                  refine goes_ Tryd.func123 (by kernel_rfl) rfl #[.int .u32 t113] (by rfl) rfl rfl (by (try simp only [List.map_toArray, List.map_cons, List.map_nil]); first | done | rfl | (simp only [List.length_drop, List.length_take]; rfl)) ?_
                  with_reducible refine (varint_Fixed.calls k t113 t114 _ A4.out).mono ?_
                  rintro e w12 ⟨rfl, hb⟩
                  refine ⟨_, rfl, ?_⟩
                  have n0_ := Aside0.mk (Kd.R_below (by (with_reducible repeat (first | apply Kd.R_alloc | apply Kd.R_drewN | apply Kd.R_drew)); exact HO117.out) hb)
                  have n1_ := Aside0.mk (below_step (by repeat (first | (with_reducible first | exact HB.out | apply below_alloc | apply pw_below_drewN | apply below_drew1) | exact HB.out)) hb)
                  clear HO117
                  clear HB
                  have HO117 := n0_
                  have HB := n1_
                  clear n0_ n1_
                  (try clear hb)
                  (try clear hb2)
                  (try clear hk)
                  (try clear hi)
                  refine hK.out _ _ trivial (fun hHeld => ?_)
                  clear hK K
                  refine norm_ (a' := ?_) ?_ ?_
                  rotate_left
                  · show Act.put _ (some 8) _ = _
                    simp only [Act.put, List.setIfInBounds_toArray, List.set_cons_zero, List.set_cons_succ, i64_w, i32_w]
                    rfl
                  exact norm_ (by first | (simp only [putAll, Act.put, List.setIfInBounds_toArray, List.set_cons_zero, List.set_cons_succ]; done) | (simp only [putAll, Act.put, List.setIfInBounds_toArray, List.set_cons_zero, List.set_cons_succ]; rfl)) (hJ2_3_12 (v116) _ ⟨(by (with_reducible repeat (first | apply Kd.R_alloc | apply Kd.R_drewN | apply Kd.R_drew)); exact HO117.out), (by repeat (first | (with_reducible first | exact HB.out | apply below_alloc | apply pw_below_drewN | apply below_drew1) | exact HB.out))⟩)
                · skip
                  have hcv12 := own_string (P := Tryd.prog) Tryd.underlying64 Tryd.underlying5 Tryd.underlying9 (Kd.own_of_R HO117.out)
                  refine value_ (w1 := ?_) (v := ?_) (by rfl) rfl ?_ ?_
                  rotate_left 2
                  · go_simp
                    constructor
                    · rfl
                    · rfl
                  clear hcv12
                  refine hK.out _ _ trivial (fun hHeld => ?_)
                  clear hK K
                  refine norm_ (a' := ?_) ?_ ?_
                  rotate_left
                  · show Act.put _ (some 18) _ = _
                    simp only [Act.put, List.setIfInBounds_toArray, List.set_cons_zero, List.set_cons_succ, i64_w, i32_w]
                    rfl
                  exact norm_ (by first | (simp only [putAll, Act.put, List.setIfInBounds_toArray, List.set_cons_zero, List.set_cons_succ]; done) | (simp only [putAll, Act.put, List.setIfInBounds_toArray, List.set_cons_zero, List.set_cons_succ]; rfl)) (hJ2_12_13 (v116) _ ⟨(by (with_reducible repeat (first | apply Kd.R_alloc | apply Kd.R_drewN | apply Kd.R_drew)); exact HO117.out), (by repeat (first | (with_reducible first | exact HB.out | apply below_alloc | apply pw_below_drewN | apply below_drew1) | exact HB.out))⟩)
            · skip
              rintro _ w10 h0_
              have n0_ : Aside0 (Below w.heap.size w w10) := ⟨h0_⟩
              clear HB
              clear h0_
              have HB := n0_
              clear n0_
              have hHeld := trivial
              refine norm_ (a' := ?_) ?_ ?_
              rotate_left
              · simp only [putAll, Act.put, List.setIfInBounds_toArray, List.set_cons_zero, List.set_cons_succ]
                rfl
              refine one_ (i := 12) (N := some 17) #[true, true, true, true, true, true, true, true, true, true, true, true, true, false, false, true, false, false] rfl rfl (one_of HT_.out (by kernel_rfl)) (by decide) (fun K hK => ?_)
              refine Kd.R_lit_step (Kd.int .u8) _ 5 ?hg (N := 17) ?hd (xs := ([((a1.size : Int)) % 256, ((a1.size : Int) / 256) % 256, a0] : List Int)) (inner := [.int .u8 (((a1.size : Int)) % 256), .int .u8 (((a1.size : Int) / 256) % 256), .int .u8 a0]) (ok := fun _ => True) (okp := fun _ => True) ?hr ?hp (fun _ hk => hk) trivial (Below.refl _ _) (Nat.le_refl _) (by simp) ?_; (case hd => rfl); (case hg => rfl); (case hr => first | (go_simp; done) | (go_simp; rfl)); (case hp => exact (Reps.one (show Kd.M (Kd.int .u8) _ _ _ (((a1.size : Int)) % 256) [.int .u8 (((a1.size : Int)) % 256)] from rfl) (Reps.one (show Kd.M (Kd.int .u8) _ _ _ (((a1.size : Int) / 256) % 256) [.int .u8 (((a1.size : Int) / 256) % 256)] from rfl) (Reps.one (show Kd.M (Kd.int .u8) _ _ _ a0 [.int .u8 a0] from rfl) (Reps.none _ _)))))
              intro v116 w11 ho12 hb hg_ hnew_
              clear hg_ hnew_
              (first | rw [← Ny115.out] at ho12 | (simp only [Int.reduceToNat] at ho12; rw [← Ny115.out] at ho12))
              have n0_ := Aside0.mk (Kd.R_lower ho12 (below_size (by repeat (first | (with_reducible first | exact HB.out | apply below_alloc | apply pw_below_drewN | apply below_drew1) | exact HB.out))))
              have n1_ := Aside0.mk (below_step (by repeat (first | (with_reducible first | exact HB.out | apply below_alloc | apply pw_below_drewN | apply below_drew1) | exact HB.out)) hb)
              clear HB
              have HO117 := n0_
              have HB := n1_
              clear n0_ n1_
              clear hb ho12
              refine hK.out _ _ trivial (fun hHeld => ?_)
              clear hK K
              refine norm_ (a' := ?_) ?_ ?_
              rotate_left
              · show Act.put _ (some 17) _ = _
                simp only [Act.put, List.setIfInBounds_toArray, List.set_cons_zero, List.set_cons_succ, i64_w, i32_w]
                rfl
              exact norm_ (by first | (simp only [putAll, Act.put, List.setIfInBounds_toArray, List.set_cons_zero, List.set_cons_succ]; done) | (simp only [putAll, Act.put, List.setIfInBounds_toArray, List.set_cons_zero, List.set_cons_succ]; rfl)) (hJ2_3_12 (v116) _ ⟨(by (with_reducible repeat (first | apply Kd.R_alloc | apply Kd.R_drewN | apply Kd.R_drew)); exact HO117.out), (by repeat (first | (with_reducible first | exact HB.out | apply below_alloc | apply pw_below_drewN | apply below_drew1) | exact HB.out))⟩)
          · skip
            rintro v116 w12 ⟨h0_, h1_⟩
            have n0_ : Aside0 (Kd.R (Kd.int .u8) 5 w12 w.heap.size (fun _ => True) v116 y115) := ⟨h0_⟩
            have n1_ : Aside0 (Below w.heap.size w w12) := ⟨h1_⟩
            clear HB
            clear h0_ h1_
            have HO117 := n0_
            have HB := n1_
            clear n0_ n1_
            have hHeld := trivial
            refine norm_ (a' := ?_) ?_ ?_
            rotate_left
            · simp only [putAll, Act.put, List.setIfInBounds_toArray, List.set_cons_zero, List.set_cons_succ]
              rfl
            refine one_ (i := 3) (N := some 8) #[true, true, true, true, true, true, true, true, true, true, true, true, true, true, false, true, false, false] rfl rfl (one_of HT_.out (by kernel_rfl)) (by decide) (fun K hK => ?_)
            refine goes_ Tryd.func123 (by kernel_rfl) rfl #[.int .u32 t113] (by rfl) rfl rfl (by (try simp only [List.map_toArray, List.map_cons, List.map_nil]); first | done | rfl | (simp only [List.length_drop, List.length_take]; rfl)) ?_
            with_reducible refine (varint_Fixed.calls k t113 t114 _ A4.out).mono ?_
            rintro e w13 ⟨rfl, hb⟩
            refine ⟨_, rfl, ?_⟩
            have n0_ := Aside0.mk (Kd.R_below (by (with_reducible repeat (first | apply Kd.R_alloc | apply Kd.R_drewN | apply Kd.R_drew)); exact HO117.out) hb)
            have n1_ := Aside0.mk (below_step (by repeat (first | (with_reducible first | exact HB.out | apply below_alloc | apply pw_below_drewN | apply below_drew1) | exact HB.out)) hb)
            clear HO117
            clear HB
            have HO117 := n0_
            have HB := n1_
            clear n0_ n1_
            (try clear hb)
            (try clear hb2)
            (try clear hk)
            (try clear hi)
            refine hK.out _ _ trivial (fun hHeld => ?_)
            clear hK K
            refine norm_ (a' := ?_) ?_ ?_
            rotate_left
            · show Act.put _ (some 8) _ = _
              simp only [Act.put, List.setIfInBounds_toArray, List.set_cons_zero, List.set_cons_succ, i64_w, i32_w]
              rfl
            exact norm_ (by first | (simp only [putAll, Act.put, List.setIfInBounds_toArray, List.set_cons_zero, List.set_cons_succ]; done) | (simp only [putAll, Act.put, List.setIfInBounds_toArray, List.set_cons_zero, List.set_cons_succ]; rfl)) (hJ2_3_12_13 (v116) _ ⟨(by (with_reducible repeat (first | apply Kd.R_alloc | apply Kd.R_drewN | apply Kd.R_drew)); exact HO117.out), (by repeat (first | (with_reducible first | exact HB.out | apply below_alloc | apply pw_below_drewN | apply below_drew1) | exact HB.out))⟩)
        · skip
          rintro v116 w12 ⟨h0_, h1_⟩
          have n0_ : Aside0 (Kd.R (Kd.int .u8) 5 w12 w.heap.size (fun _ => True) v116 y115) := ⟨h0_⟩
          have n1_ : Aside0 (Below w.heap.size w w12) := ⟨h1_⟩
          clear HB
          clear h0_ h1_
          have HO117 := n0_
          have HB := n1_
          clear n0_ n1_
          have hHeld := trivial
          refine norm_ (a' := ?_) ?_ ?_
          rotate_left
          · simp only [putAll, Act.put, List.setIfInBounds_toArray, List.set_cons_zero, List.set_cons_succ]
            rfl
          refine one_ (i := 13) (N := some 18) #[true, true, true, true, true, true, true, true, true, true, true, true, true, true, false, true, false, false] rfl rfl (one_of HT_.out (by kernel_rfl)) (by decide) (fun K hK => ?_)
          have hcv13 := own_string (P := Tryd.prog) Tryd.underlying64 Tryd.underlying5 Tryd.underlying9 (Kd.own_of_R HO117.out)
          refine value_ (w1 := ?_) (v := ?_) (by rfl) rfl ?_ ?_
          rotate_left 2
          · go_simp
            constructor
            · rfl
            · rfl
          clear hcv13
          refine hK.out _ _ trivial (fun hHeld => ?_)
          clear hK K
          refine norm_ (a' := ?_) ?_ ?_
          rotate_left
          · show Act.put _ (some 18) _ = _
            simp only [Act.put, List.setIfInBounds_toArray, List.set_cons_zero, List.set_cons_succ, i64_w, i32_w]
            rfl
          exact norm_ (by first | (simp only [putAll, Act.put, List.setIfInBounds_toArray, List.set_cons_zero, List.set_cons_succ]; done) | (simp only [putAll, Act.put, List.setIfInBounds_toArray, List.set_cons_zero, List.set_cons_succ]; rfl)) (hJ2_3_12_13 (v116) _ ⟨(by (with_reducible repeat (first | apply Kd.R_alloc | apply Kd.R_drewN | apply Kd.R_drew)); exact HO117.out), (by repeat (first | (with_reducible first | exact HB.out | apply below_alloc | apply pw_below_drewN | apply below_drew1) | exact HB.out))⟩)
      rintro v116 w13 ⟨h0_, h1_⟩
      have n0_ : Aside0 (Kd.R (Kd.int .u8) 5 w13 w.heap.size (fun _ => True) v116 y115) := ⟨h0_⟩
      have n1_ : Aside0 (Below w.heap.size w w13) := ⟨h1_⟩
      clear HB
      clear h0_ h1_
      have HO117 := n0_
      have HB := n1_
      clear n0_ n1_
      have hHeld := trivial
      refine norm_ (a' := ?_) ?_ ?_
      rotate_left
      · simp only [putAll, Act.put, List.setIfInBounds_toArray, List.set_cons_zero, List.set_cons_succ]
        rfl
      refine pure_ (i := 14) (N := some 19) (v := ?_) (a' := ?_) #[true, true, true, true, true, true, true, true, true, true, true, true, true, true, true, true, false, false] rfl rfl (any_of HT_.out (by kernel_rfl)) (fun _ _ _ h => h) (Or.inl ⟨by rfl, ?_⟩) ?_ ?_
      rotate_left
      · intro w'
        go_simp
        with_reducible rfl
      rotate_left
      · simp only [Act.put, List.setIfInBounds_toArray, List.set_cons_zero, List.set_cons_succ, i64_w, i32_w]
        rfl
      refine pure_ (i := 16) (N := some 21) (v := ?_) (a' := ?_) #[true, true, true, true, true, true, true, true, true, true, true, true, true, true, true, true, true, false] rfl rfl (any_of HT_.out (by kernel_rfl)) (fun _ _ _ h => h) (Or.inl ⟨by rfl, ?_⟩) ?_ ?_
      rotate_left
      · intro w'
        go_simp
        with_reducible rfl
      rotate_left
      · simp only [Act.put, List.setIfInBounds_toArray, List.set_cons_zero, List.set_cons_succ, i64_w, i32_w]
        rfl
      refine pure_ (i := 17) (N := some 4) (v := ?_) (a' := ?_) #[true, true, true, true, true, true, true, true, true, true, true, true, true, true, true, true, true, true] rfl rfl (any_of HT_.out (by kernel_rfl)) (fun _ _ _ h => h) (Or.inl ⟨by rfl, ?_⟩) ?_ ?_
      rotate_left
      · intro w'
        go_simp
        with_reducible rfl
      rotate_left
      · simp only [Act.put, List.setIfInBounds_toArray, List.set_cons_zero, List.set_cons_succ, i64_w, i32_w]
        rfl
      refine done_ (done_of HT_.out (by kernel_rfl)) ?_
      try go_wp2
      go_ret
      exact ⟨by first | rfl | (simp [errW_none, errW_some] <;> rfl) | (simp [*, errW_none, errW_some] <;> rfl), by repeat (first | (with_reducible first | exact HB.out | apply below_alloc | apply pw_below_drewN | apply below_drew1) | exact HB.out)⟩
    · rw [if_neg c6] at H
      exact absurd H (by simp)
  · rw [if_neg c5] at H
    exact absurd H (by simp)
end Go.Proofs.YteilnbnnhocciaaDoor.KF

/-! KF12 -/
namespace Go.Proofs.YteilnbnnhocciaaDoor.KF
open Go.RowKit Go.Proofs.YteilnbnnhocciaaDoorW.PrintWords Go.Proofs.YteilnbnnhocciaaDoorW.PrintLast Go.Proofs.YteilnbnnhocciaaDoorW.PrintMore Go.Proofs.YteilnbnnhocciaaDoorM
attribute [local go_sem] max2_int min2_int max_two min_two max_three min_three max_four min_four
set_option linter.unusedVariables false
set_option linter.unusedSimpArgs false
def frame_kind.j0 : Nat → Bool → Bool → Bool → Option (Int)
  | 0, _, _, _ => none
  | k + 1, x0, x1, x5 => if x5 = true then (some 1) else (if x0 = true then (some 2) else (if x1 = true then (some 4) else (some 3)))
def frame_kind.f (k : Nat) (a0 : Bool) (a1 : Bool) : Option (Int) := if a0 = true then (frame_kind.j0 k a0 a1 a1) else (frame_kind.j0 k a0 a1 false)
set_option maxHeartbeats 8000000 in
set_option maxRecDepth 100000 in
theorem frame_kind.calls (k : Nat) (a0 : Bool) (a1 : Bool) (r : Int) (w : World) (h : frame_kind.f k a0 a1 = some r) :
    Calls Tryd.prog 82 #[.bool a0, .bool a1] w fun e w' => e = .returned (.int .u8 r) ∧ Drawn0 w w' := by
  have H : (if a0 = true then (frame_kind.j0 k a0 a1 a1) else (frame_kind.j0 k a0 a1 false)) = some r := h
  clear h
  have HC3 := Aside0.mk H
  clear H
  go_enter Tryd.func82, Tryd.ntmps82
  go_upto_region 1 with (fail)
  go_cut [5] (fun v5 wc => ∃ (kq : Nat) (x5_2 : Bool), v5 = .bool x5_2 ∧ Aside0 (frame_kind.j0 kq a0 a1 x5_2 = some r) ∧ Aside0 (kq ≤ k) ∧ Drawn0 w wc)
  case first =>
    have H := HC3.out
    clear HC3
    by_cases c4 : a0 = true
    · subst c4
      have H1 : (frame_kind.j0 k true a1 a1) = some r := by rw [if_pos rfl] at H; exact H
      clear H
      have H := H1
      clear H1
      have H' := Aside0.mk H
      clear H
      go_wp2
      go_meet
      case rel => exact ⟨_, (a1), (by first | rfl | (simp; done) | (simp [*]; done)), H', ⟨by first | omega | exact Nat.le_refl _⟩, by repeat (first | exact Drawn0.refl _ | apply Drawn0.step)⟩
    · replace c4 := Bool.eq_false_iff.mpr c4
      subst c4
      have H1 : (frame_kind.j0 k false a1 false) = some r := by rw [if_neg (show ¬ (false = true) by decide)] at H; exact H
      clear H
      have H := H1
      clear H1
      have H' := Aside0.mk H
      clear H
      go_wp2
      go_meet
      case rel => exact ⟨_, (false), (by first | rfl | (simp; done) | (simp [*]; done)), H', ⟨by first | omega | exact Nat.le_refl _⟩, by repeat (first | exact Drawn0.refl _ | apply Drawn0.step)⟩
  case rest =>
    clear HC3
    try clear p2
    try clear c4
    obtain ⟨kq, x5_2, rfl, HA, HJ2, ⟨mc2, rfl⟩⟩ := hcut
    cases kq with
    | zero => exact absurd HA.out (by simp [frame_kind.j0])
    | succ kj2 =>
      have H := HA.out
      clear HA
      simp only [frame_kind.j0] at H
      by_cases c5 : x5_2 = true
      · subst c5
        have H1 : (some 1) = some r := by rw [if_pos rfl] at H; exact H
        clear H
        have H := H1
        clear H1
        obtain rfl := Option.some.inj H
        go_wp2
        go_ret
        exact ⟨by first | rfl | (simp; done) | (simp [*]; done), by repeat (first | exact Drawn0.refl _ | apply Drawn0.step)⟩
      · replace c5 := Bool.eq_false_iff.mpr c5
        subst c5
        have H1 : (if a0 = true then (some 2) else (if a1 = true then (some 4) else (some 3))) = some r := by rw [if_neg (show ¬ (false = true) by decide)] at H; exact H
        clear H
        have H := H1
        clear H1
        by_cases c6 : a0 = true
        · subst c6
          have H1 : (some 2) = some r := by rw [if_pos rfl] at H; exact H
          clear H
          have H := H1
          clear H1
          obtain rfl := Option.some.inj H
          go_wp2
          go_ret
          exact ⟨by first | rfl | (simp; done) | (simp [*]; done), by repeat (first | exact Drawn0.refl _ | apply Drawn0.step)⟩
        · replace c6 := Bool.eq_false_iff.mpr c6
          subst c6
          have H1 : (if a1 = true then (some 4) else (some 3)) = some r := by rw [if_neg (show ¬ (false = true) by decide)] at H; exact H
          clear H
          have H := H1
          clear H1
          by_cases c7 : a1 = true
          · subst c7
            have H1 : (some 4) = some r := by rw [if_pos rfl] at H; exact H
            clear H
            have H := H1
            clear H1
            obtain rfl := Option.some.inj H
            go_wp2
            go_ret
            exact ⟨by first | rfl | (simp; done) | (simp [*]; done), by repeat (first | exact Drawn0.refl _ | apply Drawn0.step)⟩
          · replace c7 := Bool.eq_false_iff.mpr c7
            subst c7
            have H1 : (some 3) = some r := by rw [if_neg (show ¬ (false = true) by decide)] at H; exact H
            clear H
            have H := H1
            clear H1
            obtain rfl := Option.some.inj H
            go_wp2
            go_ret
            exact ⟨by first | rfl | (simp; done) | (simp [*]; done), by repeat (first | exact Drawn0.refl _ | apply Drawn0.step)⟩
end Go.Proofs.YteilnbnnhocciaaDoor.KF
