/- VersionWhole: the card of the statement VersionWhole, with no condition: what a pick has is all that overlaps it, a version made of another one's files is that one, edits change no version. (part 2 of 8; packed by program out of the texts named below) -/
import Derived.Test.YteilnbnnhocciaaDoorXJ1
import Derived.Below
import Derived.WalkKit
import Derived.ScopeJumps
import Derived.RowKit
import Derived.Laws.BytesArg
import Derived.Laws.Strings
import Derived.Laws.OwnMore
import Derived.Test.YteilnbnnhocciaaDoorProg
import Derived.Shelf.SlSortCmp.QuietGrown
import Derived.Shelf.Small.Strs
import Derived.Deep.RegionWith
import Derived.Deep.QuietTactic
import Derived.BigQuiet
import Derived.RangeFuncRecord
import Derived.Sort.LotA
import Derived.Shelf.SlSortCmp.InsertionK
import Derived.IntWalk
import Derived.Shelf.SlLaysF0
import Derived.Shelf.SlLaysE0
import Derived.Shelf.SlLaysH0
import Derived.Maps.OwnSet
import Derived.Maps.Views
import Derived.Shelf.Strings.Builder1
import Derived.KernelRfl
import Derived.Laws.Externs
import Derived.Shelf.Strconv.Itoa1
import Derived.Lib.ItoaNum
import Derived.Deep.Draws
import Derived.Deep.AppendLies
import Derived.Maps.AppendAt
import Derived.OwnWalk
import Derived.Laws.MakeOwn
import Derived.Deep.OwnRows
import Derived.Tactics
import Derived.Lib.ConvBytes
import Derived.Laws.Slices
import Derived.RowKit3
import Derived.Deep.LoopGhost
import Derived.WideLaws
import Derived.Deep.DeepCutAuto
import Derived.Deep.CutBlock
import Derived.Deep.RegionHeld3
import Derived.Laws.Rows
import Derived.Lib.AppendStr
import Derived.ArgAppend
import Derived.Laws.IdiomCopy
import Derived.OrdersHeld
import Derived.Laws.BitsLemmas
set_option linter.unusedVariables false
set_option linter.unusedSimpArgs false

/-! M0 -/
namespace Go.Proofs.YteilnbnnhocciaaDoorM
open Go.RowKit
structure Hush (p:Prop):Prop where mk :: (out:p)
theorem Exit.jump_mono {l:Nat} {J J':Act → World → Prop} {Q:Exit → Act → World → Prop} (h:∀ a w,J a w → J' a w):∀ e a w,Exit.jump l J Q e a w → Exit.jump l J' Q e a w:=by
 intro e a w hq
 cases e with
 | goto l'=>exact ⟨hq.1,h _ _ hq.2⟩
 | _=>exact hq
theorem wp_scope_first {P:Program} {a:Act} {w:World} {Q:Exit → Act → World → Prop} {c R:Code} (l:Nat) (J:Act → World → Prop) (μ:Act → World → Nat) (hf:findLabel c l = some (Code.skip.seq R))
  (pass:∀ a w,J a w → R.wp P (Exit.jump l (fun a' w'=>J a' w' ∧ μ a' w' < μ a w) Q) a w)
  (first:Hush (∀ a w,J a w → R.wp P (Exit.jump l J Q) a w) → c.wp P (Exit.jump l J Q) a w):(Code.scope c).wp P Q a w:=
 wp_scope_jumps l J μ hf (first ⟨fun a w hj=>wp_mono (pass a w hj) (Exit.jump_mono fun _ _ h=>h.1)⟩) fun a w hj=>wp_seq (wp_skip (pass a w hj))
theorem bytesLess_flip:∀ x y:List UInt8,(!(Op.bytesLess x y || x == y)) = Op.bytesLess y x
 | [],[]=>rfl
 | [],_ :: _=>rfl
 | _ :: _,[]=>rfl
 | a :: x,b :: y=>by
  have ih:=bytesLess_flip x y
  simp only [Op.bytesLess]
  rcases Nat.lt_trichotomy a.toNat b.toNat with h | h | h
  ·have h1:a < b:=UInt8.lt_iff_toNat_lt.2 h
   have h2:¬ b < a:=fun h'=>by have:=UInt8.lt_iff_toNat_lt.1 h';omega
   have h3:¬ b = a:=fun h'=>by subst h';omega
   simp [h1,h2,h3]
  ·have h1:a = b:=UInt8.toNat_inj.1 h
   subst h1
   have h2:¬ a < a:=fun h'=>by have:=UInt8.lt_iff_toNat_lt.1 h';omega
   rw [← ih]
   simp [h2]
  ·have h1:b < a:=UInt8.lt_iff_toNat_lt.2 h
   have h2:¬ a < b:=fun h'=>by have:=UInt8.lt_iff_toNat_lt.1 h';omega
   have h3:¬ a = b:=fun h'=>by subst h';omega
   simp [h1,h2,h3]
theorem gtr_run (t:TypeId) (a b:ByteArray):binOp .gtr t (.string a) (.string b) = pure (.bool (Op.bytesLess b.toList a.toList)):=by
 rw [← bytesLess_flip]
 simp [binOp,Op.stringOp]
theorem leq_run (t:TypeId) (a b:ByteArray):binOp .leq t (.string a) (.string b) = pure (.bool (!Op.bytesLess b.toList a.toList)):=by
 rw [← bytesLess_flip]
 simp [binOp,Op.stringOp]
theorem geq_run (t:TypeId) (a b:ByteArray):binOp .geq t (.string a) (.string b) = pure (.bool (!Op.bytesLess a.toList b.toList)):=by
 simp [binOp,Op.stringOp]
theorem toList_nil_iff (s:ByteArray):s.toList = [] ↔ s.size = 0:=by
 rw [ByteArray.toList_eq]
 constructor
 ·intro h
  have:=congrArg List.length h
  simpa using this
 ·intro h
  exact List.eq_nil_of_length_eq_zero (by simpa using h)
theorem run_convert_own {P:Program} {w:World} {src dst e base:Nat} {v:Value} {n:Nat} {xs:List Int} (hs:P.underlying src = some (.slice e)) (he:P.underlying e = some (.int .u8)) (hd:P.underlying dst = some .string)
  (hn:n = xs.length) (h:w.ownsRow base e 1 v n (xs.map (Value.int .u8))):(convert src dst v).run P w = .ok (.string (strOfNums xs)) w:=by
 subst hn
 rcases h.2 with ⟨rfl,hx⟩ | ⟨g,cap,cur,rfl,hb,hg,hl,hm,hc,htake⟩
 ·have:xs = []:=by simpa using hx
  subst this
  exact run_convert_bytes_nil w src e hs he 0 0 dst hd
 ·refine run_convert_bytes_arg w src e hs he g 0 xs.length cap xs rfl ?_ dst hd
  intro i hi
  have:=h.cellAt i (by simpa using hi)
  rw [Nat.zero_add,this]
  simp [List.getElem?_eq_getElem hi,List.getD]
end Go.Proofs.YteilnbnnhocciaaDoorM

/-! V0 -/
namespace Go.Proofs.YteilnbnnhocciaaDoor.V
open Go.RowKit Go.Proofs.YteilnbnnhocciaaDoorM Go.Proofs.YteilnbnnhocciaaDoorW.PrintWords Go.Proofs.YteilnbnnhocciaaDoorW.PrintLast Go.Proofs.YteilnbnnhocciaaDoorW.PrintMore
attribute [local go_sem] gtr_run leq_run geq_run
def Grown (w w':World):Prop:=∃ q os,w' = Go.Sort.grow (w.drewN q) os
theorem Grown.refl (w:World):Grown w w:=⟨0,#[],by simp;rfl⟩
theorem Grown.of_eq {w w':World} (h:w' = w):Grown w w':=h ▸ Grown.refl w
theorem Grown.alloc {w w':World} (h:Grown w w') (o:Obj):Grown w (w'.alloc o):=by
 obtain ⟨q,os,rfl⟩:=h
 exact ⟨q,os ++ #[o],by rw [Go.Sort.alloc_eq_grow,Go.Sort.grow_grow]⟩
theorem Grown.drew {w w':World} (h:Grown w w'):Grown w w'.drew:=by
 obtain ⟨q,os,rfl⟩:=h
 exact ⟨q + 1,os,rfl⟩
theorem Grown.grow {w w':World} (h:Grown w w') (n:Nat) (os:Array Obj):Grown w (Go.Sort.grow (w'.drewN n) os):=by
 obtain ⟨q,os',rfl⟩:=h
 refine ⟨q + n,os' ++ os,?_⟩
 show Go.Sort.grow (Go.Sort.grow ((w.drewN q).drewN n) os') os = _
 rw [Go.Sort.grow_grow,World.drewN_drewN]
theorem grown_cell {w:World} {a:Addr} {v:Value} (h:w.cell? a = some v) (n:Nat) (os:Array Obj):(Go.Sort.grow (w.drewN n) os).cell? a = some v:=Go.cell_grown (World.block_lt_of_cell? w _ h) h n os
theorem Grown.below {w w':World} (h:Grown w w'):Below w.heap.size w w':=by
 obtain ⟨q,os,rfl⟩:=h
 exact ⟨rfl,rfl,rfl,by show _ ≤ (w.heap ++ os).size;simp,fun k hk=>Go.Sort.heap_grow_old (w.drewN q) os hk⟩
def cmpI (a b:Int):Int:=if a < b then -1 else if b < a then 1 else 0
theorem nan_on (a:Int) (w:World):Calls Tryd.prog 163 #[.int .u64 a] w fun e w'=>e = .returned (.bool false) ∧ w' = w:=by
 go_enter Tryd.func163,Tryd.ntmps163
 go_wp2
 go_ret
 exact ⟨by simp,rfl⟩
theorem cmp_on (a b:Int) (w:World):Calls Tryd.prog 136 #[.int .u64 a,.int .u64 b] w fun e w'=>e = .returned (.int .i64 (cmpI a b)) ∧ w' = w:=by
 unfold cmpI
 by_cases h1:a < b
 all_goals by_cases h2:b < a
 all_goals try (exfalso;omega)
 all_goals
  go_enter Tryd.func136,Tryd.ntmps136
  go_wp2_with fail
  refine (nan_on _ _).mono ?_
  rintro e w1 ⟨rfl,rfl⟩
  go_wp2_with fail
  refine (nan_on _ _).mono ?_
  rintro e w1 ⟨rfl,rfl⟩
  go_wp2
  go_ret
  exact ⟨by simp [h1,h2],rfl⟩
theorem order_on (lv:Int) (w:World):Calls Tryd.prog 102 #[.int .i64 lv] w fun e w'=>e = .returned (.func (.func (if lv = 0 then 135 else 137)) #[] #[]) ∧ w' = w:=by
 by_cases h:lv = 0
 all_goals
  go_enter Tryd.func102,Tryd.ntmps102
  go_wp2
  go_ret
  exact ⟨by simp [h],rfl⟩
def orI (a b:Int):Int:=if a = 0 then b else a
theorem or_on (A:Option Addr) (a b:Int) (cap:Nat) (g:Nat) (w:World) (hA:A = some ⟨g,0,none⟩) (h0:w.cell? ⟨g,0,none⟩ = some (.int .i64 a)) (h1:w.cell? ⟨g,1,none⟩ = some (.int .i64 b)) :
  Calls Tryd.prog 138 #[.slice A 2 cap] w fun e w'=>e = .returned (.int .i64 (orI a b)) ∧ w' = w:=by
 subst hA
 unfold orI
 by_cases ha:a = 0
 ·subst ha
  by_cases hb:b = 0
  ·subst hb
   go_enter Tryd.func138,Tryd.ntmps138
   go_wp2
   go_loopw [8] (fun i wr=>∃ k':Nat,i = .int .i64 k' ∧ k' ≤ 2 ∧ Hush (wr = w)) (fun i _=>2 - (intOf i).toNat)
   case atStart=>exact ⟨0,rfl,by omega,⟨rfl⟩⟩
   case round=>
    obtain ⟨k',rfl,hk,HW⟩:=hrel
    obtain rfl:=HW.out
    by_cases h2:k' = 2
    ·subst h2
     go_wp2
     go_ret
     exact ⟨rfl,rfl⟩
    ·have hc:wr.cell? ⟨g,k',none⟩ = some (.int .i64 0):=by
      by_cases hz:k' = 0
      ·subst hz;exact h0
      ·obtain rfl:k' = 1:=by omega
       exact h1
     have hlt:(k':Int) < 2:=by omega
     go_wp2
     go_roundw
     case rel=>exact ⟨k' + 1,by go_num,by omega,⟨by trivial⟩⟩
     case measure=>simp [intOf];omega
  ·go_enter Tryd.func138,Tryd.ntmps138
   go_wp2
   go_loopw [8] (fun i wr=>∃ k':Nat,i = .int .i64 k' ∧ k' ≤ 1 ∧ Hush (wr = w)) (fun i _=>2 - (intOf i).toNat)
   case atStart=>exact ⟨0,rfl,by omega,⟨rfl⟩⟩
   case round=>
    obtain ⟨k',rfl,hk,HW⟩:=hrel
    obtain rfl:=HW.out
    by_cases h2:k' = 1
    ·subst h2
     go_wp2
     go_ret
     exact ⟨rfl,rfl⟩
    ·obtain rfl:k' = 0:=by omega
     go_wp2
     go_roundw
     case rel=>exact ⟨1,rfl,by omega,⟨by trivial⟩⟩
     case measure=>simp [intOf]
 ·go_enter Tryd.func138,Tryd.ntmps138
  go_wp2
  go_loopw [8] (fun i wr=>i = .int .i64 0 ∧ Hush (wr = w)) (fun i _=>2 - (intOf i).toNat)
  case atStart=>exact ⟨rfl,⟨rfl⟩⟩
  case round=>
   obtain ⟨rfl,HW⟩:=hrel
   obtain rfl:=HW.out
   go_wp2
   go_ret
   exact ⟨by simp [ha],rfl⟩
end Go.Proofs.YteilnbnnhocciaaDoor.V

/-! V1 -/
namespace Go.Proofs
open Go.Shelf Go.RowKit Go.Lib
def Tryd.lays106_ren:Go.Shelf.Ren:=⟨fun | 106=>139 | 213=>164 | 265=>185 | n=>n,fun | n=>n,fun | n=>n⟩
theorem Tryd.lays106:Go.Proofs.Lays.n106 Tryd.prog Tryd.lays106_ren:={
 mixed:=by kernel_rfl
 f106:=Tryd.func139.trans (congrArg some (by kernel_rfl))
 f213:=Tryd.func164.trans (congrArg some (by kernel_rfl))
 f265:=Tryd.func185.trans (congrArg some (by kernel_rfl))
 t3:=Tryd.underlying3
 a3:=Tryd.isAgg3
 z3:=Tryd.sizeOf3
 v3:=Tryd.zeroValue3
 t9:=Tryd.underlying9
 a9:=Tryd.isAgg9
 z9:=Tryd.sizeOf9
 v9:=Tryd.zeroValue9 }
theorem Tryd.strings_Compare (a b:ByteArray) (w:World) :
  Calls Tryd.prog 139 #[.string a,.string b] w fun e w'=>e = .returned (.int .i64 (Lib.compareBytes a.data.toList b.data.toList)) ∧ w' = w:=Any.strings_Compare Tryd.lays106 a b w
namespace YteilnbnnhocciaaDoor.V
open Go.RowKit Go.Proofs.YteilnbnnhocciaaDoorM Go.Proofs.YteilnbnnhocciaaDoorW.PrintWords Go.Proofs.YteilnbnnhocciaaDoorW.PrintLast Go.Proofs.YteilnbnnhocciaaDoorW.PrintMore
attribute [local go_sem] gtr_run leq_run geq_run
structure FileV where
 num:Int
 size:Int
 count:Int
 least:ByteArray
 most:ByteArray
def fileCells (f:FileV):Array Value:=#[.int .u64 f.num,.int .u64 f.size,.int .u64 f.count,.string f.least,.string f.most]
def fileVal (f:FileV):Value:=.agg (fileCells f)
def cmpS (a b:ByteArray):Int:=Lib.compareBytes a.data.toList b.data.toList
def ord0 (a b:FileV):Int:=cmpI b.num a.num
def ord1 (a b:FileV):Int:=orI (cmpS a.least b.least) (cmpI a.num b.num)
theorem ord0_on (a b:FileV) (w:World):Calls Tryd.prog 135 #[fileVal a,fileVal b] w fun e w'=>e = .returned (.int .i64 (ord0 a b)) ∧ Grown w w':=by
 obtain ⟨a0,a1,a2,a3,a4⟩:=a
 obtain ⟨b0,b1,b2,b3,b4⟩:=b
 simp only [fileVal,fileCells,ord0]
 go_enter Tryd.func135,Tryd.ntmps135
 go_wp2_with fail
 refine (cmp_on _ _ _).mono ?_
 rintro e w1 ⟨rfl,rfl⟩
 go_wp2
 go_ret
 exact ⟨rfl,((Grown.refl w).alloc _).alloc _⟩
theorem two_at (w:World) (c c':Array Value) (t:TypeId):(∀ i,i < 5 → ((w.alloc (.cells c t)).alloc (.cells c' t)).cell? ⟨w.heap.size,i,none⟩ = c[i]? ∧ ((w.alloc (.cells c t)).alloc (.cells c' t)).cell? ⟨w.heap.size + 1,i,none⟩ = c'[i]?):=by
 intro i hi
 have h1:=World.alloc_heap_new w (.cells c t)
 have h2:=World.alloc_heap_new (w.alloc (.cells c t)) (.cells c' t)
 have e:(w.alloc (.cells c t)).heap.size = w.heap.size + 1:=by show (Array.push _ _).size = _;rw [Array.size_push]
 rw [e] at h2
 have h3:((w.alloc (.cells c t)).alloc (.cells c' t)).heap[w.heap.size]? = (w.alloc (.cells c t)).heap[w.heap.size]?:=by
  show (Array.push _ _)[_]? = _
  rw [Array.getElem?_push,if_neg (by omega)]
 rw [h1] at h3
 simp only [World.cell?,h2,h3]
 exact ⟨rfl,rfl⟩
theorem row_at (w:World) (x y:Value) (t:TypeId):(w.alloc (.cells #[x,y] t)).cell? ⟨w.heap.size,0,none⟩ = some x ∧ (w.alloc (.cells #[x,y] t)).cell? ⟨w.heap.size,1,none⟩ = some y:=by
 have h:=World.alloc_heap_new w (.cells #[x,y] t)
 simp only [World.cell?,h]
 exact ⟨rfl,rfl⟩
theorem row_at' (w:World) (x y:Value) (t:TypeId):(w.alloc (.cells #[x,y] t)).drew.cell? ⟨w.heap.size,0,none⟩ = some x ∧ (w.alloc (.cells #[x,y] t)).drew.cell? ⟨w.heap.size,1,none⟩ = some y:=row_at w x y t
def Boxes (a b:Nat) (n m:Int) (s t:ByteArray) (w:World):Prop:=w.cell? ⟨a,0,none⟩ = some (.int .u64 n) ∧ w.cell? ⟨b,0,none⟩ = some (.int .u64 m) ∧ w.cell? ⟨a,3,none⟩ = some (.string s) ∧ w.cell? ⟨b,3,none⟩ = some (.string t)
theorem Boxes.drew {a b:Nat} {n m:Int} {s t:ByteArray} {w:World} (h:Boxes a b n m s t w):Boxes a b n m s t w.drew:=h
theorem Boxes.alloc {a b:Nat} {n m:Int} {s t:ByteArray} {w:World} (h:Boxes a b n m s t w) (o:Obj):Boxes a b n m s t (w.alloc o):=by
 have up:∀ p v,w.cell? p = some v → (w.alloc o).cell? p = some v:=fun p v e=>(((Below.refl w.heap.size w).alloc (Nat.le_refl _) o).cell (World.block_lt_of_cell? w p e)).trans e
 exact ⟨up _ _ h.1,up _ _ h.2.1,up _ _ h.2.2.1,up _ _ h.2.2.2⟩
set_option maxHeartbeats 2000000 in
theorem ord1_on (a b:FileV) (w:World):Calls Tryd.prog 137 #[fileVal a,fileVal b] w fun e w'=>e = .returned (.int .i64 (ord1 a b)) ∧ Grown w w':=by
 obtain ⟨a0,a1,a2,a3,a4⟩:=a
 obtain ⟨b0,b1,b2,b3,b4⟩:=b
 have HB:Hush (Grown w ((w.alloc (.cells (fileCells ⟨a0,a1,a2,a3,a4⟩) 97)).alloc (.cells (fileCells ⟨b0,b1,b2,b3,b4⟩) 97))):=⟨((Grown.refl w).alloc _).alloc _⟩
 have hs:Boxes w.heap.size (w.heap.size + 1) a0 b0 a3 b3 ((w.alloc (.cells (fileCells ⟨a0,a1,a2,a3,a4⟩) 97)).alloc (.cells (fileCells ⟨b0,b1,b2,b3,b4⟩) 97)):=
  ⟨(two_at w _ _ 97 0 (by omega)).1,(two_at w _ _ 97 0 (by omega)).2,(two_at w _ _ 97 3 (by omega)).1,(two_at w _ _ 97 3 (by omega)).2⟩
 have HS:=Hush.mk hs
 clear hs
 simp only [fileVal,fileCells,ord1] at HB HS ⊢
 go_enter Tryd.func137,Tryd.ntmps137
 go_wp2_with fail
 generalize (w.alloc (.cells #[.int .u64 a0,.int .u64 a1,.int .u64 a2,.string a3,.string a4] 97)).alloc (.cells #[.int .u64 b0,.int .u64 b1,.int .u64 b2,.string b3,.string b4] 97) = w2 at HB HS ⊢
 generalize w.heap.size + 1 = q at HS ⊢
 generalize w.heap.size = p at HS ⊢
 have hs:w2.drew.cell? ⟨p,0,none⟩ = some (.int .u64 a0) ∧ w2.drew.cell? ⟨q,0,none⟩ = some (.int .u64 b0) ∧ w2.drew.cell? ⟨p,3,none⟩ = some (.string a3) ∧ w2.drew.cell? ⟨q,3,none⟩ = some (.string b3):=HS.out
 have HS1:=Hush.mk hs
 clear hs
 go_region_held3 (fun w'=>w'.cell? ⟨p,0,none⟩ = some (.int .u64 a0) ∧ w'.cell? ⟨q,0,none⟩ = some (.int .u64 b0) ∧ w'.cell? ⟨p,3,none⟩ = some (.string a3) ∧ w'.cell? ⟨q,3,none⟩ = some (.string b3))
  (first | exact HS1.out | exact (Boxes.alloc HS.out _).drew)
  ((first
   | (go_at_call 139;refine (Tryd.strings_Compare _ _ _).mono ?_;rintro e w3 ⟨rfl,rfl⟩)
   | (go_at_call 136;refine (cmp_on _ _ _).mono ?_;rintro e w3 ⟨rfl,rfl⟩)
   | (go_at_call 138;refine (or_on _ _ _ _ _ _ rfl (row_at' _ _ _ _).1 (row_at' _ _ _ _).2).mono ?_;rintro e w3 ⟨rfl,rfl⟩)))
 go_wp2
 go_ret
 exact ⟨rfl,(HB.out.alloc _).drew⟩
end YteilnbnnhocciaaDoor.V
end Go.Proofs

/-! V3 -/
namespace Go.Proofs.YteilnbnnhocciaaDoor.S
open Go.Sort
variable {α:Type} [Inhabited α]
def swaps (a b:Nat):Nat → Array α → Array α
 | 0,d=>d
 | i + 1,d=>swp (swaps a b i d) (a + i) (b + i)
theorem size_swaps (a b:Nat) (d:Array α):∀ n,(swaps a b n d).size = d.size
 | 0=>rfl
 | n + 1=>by rw [swaps,size_swp,size_swaps a b d n]
theorem swaps_at (a b:Nat) (d:Array α):∀ n,a + n ≤ b → b + n ≤ d.size → ∀ k,
  (swaps a b n d)[k]! = if a ≤ k ∧ k < a + n then d[b + (k - a)]! else if b ≤ k ∧ k < b + n then d[a + (k - b)]! else d[k]!
 | 0,h1,h2,k=>by rw [if_neg (by omega),if_neg (by omega)];rfl
 | n + 1,h1,h2,k=>by
  have ih:=swaps_at a b d n (by omega) (by omega)
  have hs:=size_swaps a b d n
  rw [swaps,swp_get _ (by omega) (by omega)]
  by_cases c1:k = b + n
  ·rw [if_pos c1,ih,if_neg (by omega),if_neg (by omega),if_neg (by omega),if_pos (by omega)]
   congr 1;omega
  ·rw [if_neg c1]
   by_cases c2:k = a + n
   ·rw [if_pos c2,ih,if_neg (by omega),if_neg (by omega),if_pos (by omega)]
    congr 1;omega
   ·rw [if_neg c2,ih]
    by_cases c3:a ≤ k ∧ k < a + n
    ·rw [if_pos c3,if_pos (by omega)]
    ·by_cases c4:b ≤ k ∧ k < b + n
     ·rw [if_neg c3,if_pos c4,if_neg (by omega),if_pos (by omega)]
     ·rw [if_neg c3,if_neg c4,if_neg (by omega),if_neg (by omega)]
theorem swaps_perm (lo hi a b:Nat) (d:Array α) (h0:lo ≤ a) (h1:lo ≤ b) (hd:hi ≤ d.size):∀ n,a + n ≤ hi → b + n ≤ hi → PermIn lo hi d (swaps a b n d)
 | 0,_,_=>permIn_refl _ _ _
 | n + 1,h2,h3=>permIn_trans _ _ _ _ _ (swaps_perm lo hi a b d h0 h1 hd n (by omega) (by omega)) (swp_permIn _ _ _ _ _ (by omega) (by omega) (by omega) (by omega) (by rw [size_swaps];exact hd))
structure IsRot (a m b:Nat) (d e:Array α):Prop where
 size:e.size = d.size
 left:∀ k,k < b - m → e[a + k]! = d[m + k]!
 right:∀ k,k < m - a → e[a + (b - m) + k]! = d[a + k]!
 other:∀ k,k < a ∨ b ≤ k → e[k]! = d[k]!
theorem IsRot.step1 {m i j:Nat} {d e:Array α} (hi:i ≤ m) (hj:m + j ≤ d.size) (hlt:j < i) (h:IsRot (m - (i - j)) m (m + j) (swaps (m - i) m j d) e):IsRot (m - i) m (m + j) d e:=by
 have sw:=swaps_at (m - i) m d j (by omega) hj
 refine ⟨by rw [h.size,size_swaps],fun k hk=>?_,fun k hk=>?_,fun k hk=>?_⟩
 ·rw [h.other _ (by omega),sw,if_pos (by omega)]
  congr 1;omega
 ·by_cases c:k < i - j
  ·have:=h.left
   by_cases c2:k < j
   ·have:=h.left k (by omega)
    rw [show m - i + (m + j - m) + k = m - (i - j) + k by omega,this,sw,if_neg (by omega),if_pos (by omega)]
    congr 1;omega
   ·have:=h.right (k - j) (by omega)
    rw [show m - i + (m + j - m) + k = m - (i - j) + (m + j - m) + (k - j) by omega,this,sw,if_neg (by omega),if_neg (by omega)]
    congr 1;omega
  ·by_cases c2:k < j
   ·have:=h.left k (by omega)
    rw [show m - i + (m + j - m) + k = m - (i - j) + k by omega,this,sw,if_neg (by omega),if_pos (by omega)]
    congr 1;omega
   ·have:=h.right (k - j) (by omega)
    rw [show m - i + (m + j - m) + k = m - (i - j) + (m + j - m) + (k - j) by omega,this,sw,if_neg (by omega),if_neg (by omega)]
    congr 1;omega
 ·rw [h.other _ (by omega),sw,if_neg (by omega),if_neg (by omega)]
theorem IsRot.step2 {m i j:Nat} {d e:Array α} (hi:i ≤ m) (hj:m + j ≤ d.size) (hlt:i < j) (h:IsRot (m - i) m (m + (j - i)) (swaps (m - i) (m + j - i) i d) e):IsRot (m - i) m (m + j) d e:=by
 have sw:=swaps_at (m - i) (m + j - i) d i (by omega) (by omega)
 refine ⟨by rw [h.size,size_swaps],fun k hk=>?_,fun k hk=>?_,fun k hk=>?_⟩
 ·by_cases c:k < j - i
  ·rw [h.left k (by omega),sw,if_neg (by omega),if_neg (by omega)]
  ·have:=h.right (k - (j - i)) (by omega)
   rw [show m - i + k = m - i + (m + (j - i) - m) + (k - (j - i)) by omega,this,sw,if_pos (by omega)]
   congr 1;omega
 ·rw [h.other _ (by omega),sw,if_neg (by omega),if_pos (by omega)]
  congr 1;omega
 ·rw [h.other _ (by omega),sw,if_neg (by omega),if_neg (by omega)]
theorem IsRot.last {m i:Nat} {d:Array α} (hi:i ≤ m) (hj:m + i ≤ d.size):IsRot (m - i) m (m + i) d (swaps (m - i) m i d):=by
 have sw:=swaps_at (m - i) m d i (by omega) (by omega)
 refine ⟨size_swaps _ _ _ _,fun k hk=>?_,fun k hk=>?_,fun k hk=>?_⟩
 ·rw [sw,if_pos (by omega)]
  congr 1;omega
 ·rw [sw,if_neg (by omega),if_pos (by omega)]
  congr 1;omega
 ·rw [sw,if_neg (by omega),if_neg (by omega)]
def carryUp (a:Nat):Nat → Array α → Array α
 | 0,d=>d
 | c + 1,d=>swp (carryUp a c d) (a + c) (a + c + 1)
theorem size_carryUp (a:Nat) (d:Array α):∀ n,(carryUp a n d).size = d.size
 | 0=>rfl
 | n + 1=>by rw [carryUp,size_swp,size_carryUp a d n]
theorem carryUp_at (a:Nat) (d:Array α):∀ c,a + c < d.size → ∀ k,
  (carryUp a c d)[k]! = if a ≤ k ∧ k < a + c then d[k + 1]! else if k = a + c then d[a]! else d[k]!
 | 0,h,k=>by
  rw [if_neg (by omega)]
  by_cases e:k = a + 0
  ·rw [if_pos e];subst e;rfl
  ·rw [if_neg e];rfl
 | c + 1,h,k=>by
  have ih:=carryUp_at a d c (by omega)
  have hs:=size_carryUp a d c
  rw [carryUp,swp_get _ (by omega) (by omega)]
  by_cases c1:k = a + c + 1
  ·rw [if_pos c1,ih,if_neg (by omega),if_pos rfl,if_neg (by omega),if_pos (by omega)]
  ·rw [if_neg c1]
   by_cases c2:k = a + c
   ·rw [if_pos c2,ih,if_neg (by omega),if_neg (by omega),if_pos (by omega),c2]
   ·rw [if_neg c2,ih,if_neg c2]
    by_cases c3:a ≤ k ∧ k < a + c
    ·rw [if_pos c3,if_pos (by omega)]
    ·rw [if_neg c3,if_neg (by omega),if_neg (by omega)]
theorem carryUp_perm (lo hi a:Nat) (d:Array α) (h0:lo ≤ a) (hd:hi ≤ d.size):∀ c,a + c < hi → PermIn lo hi d (carryUp a c d)
 | 0,_=>permIn_refl _ _ _
 | c + 1,h2=>permIn_trans _ _ _ _ _ (carryUp_perm lo hi a d h0 hd c (by omega)) (swp_permIn _ _ _ _ _ (by omega) (by omega) (by omega) (by omega) (by rw [size_carryUp];exact hd))
def carryDown (m:Nat):Nat → Array α → Array α
 | 0,d=>d
 | c + 1,d=>swp (carryDown m c d) (m - c) (m - c - 1)
theorem size_carryDown (m:Nat) (d:Array α):∀ n,(carryDown m n d).size = d.size
 | 0=>rfl
 | n + 1=>by rw [carryDown,size_swp,size_carryDown m d n]
theorem carryDown_at (m:Nat) (d:Array α):∀ c,m < d.size → c ≤ m → ∀ k,
  (carryDown m c d)[k]! = if m - c < k ∧ k ≤ m then d[k - 1]! else if k = m - c then d[m]! else d[k]!
 | 0,h,h2,k=>by
  rw [if_neg (by omega)]
  by_cases e:k = m - 0
  ·rw [if_pos e];subst e;rfl
  ·rw [if_neg e];rfl
 | c + 1,h,h2,k=>by
  have ih:=carryDown_at m d c h (by omega)
  have hs:=size_carryDown m d c
  rw [carryDown,swp_get _ (by omega) (by omega)]
  by_cases c1:k = m - c - 1
  ·rw [if_pos c1,ih,if_neg (by omega),if_pos rfl,if_neg (by omega),if_pos (by omega)]
  ·rw [if_neg c1]
   by_cases c2:k = m - c
   ·rw [if_pos c2,ih,if_neg (by omega),if_neg (by omega),if_pos (by omega),c2]
   ·rw [if_neg c2,ih,if_neg c2]
    by_cases c3:m - c < k ∧ k ≤ m
    ·rw [if_pos c3,if_pos (by omega)]
    ·rw [if_neg c3,if_neg (by omega),if_neg (by omega)]
theorem carryDown_perm (lo hi m:Nat) (d:Array α) (h0:m < hi) (hd:hi ≤ d.size):∀ c,lo + c ≤ m → PermIn lo hi d (carryDown m c d)
 | 0,_=>permIn_refl _ _ _
 | c + 1,h2=>permIn_trans _ _ _ _ _ (carryDown_perm lo hi m d h0 hd c (by omega)) (swp_permIn _ _ _ _ _ (by omega) (by omega) (by omega) (by omega) (by rw [size_carryDown];exact hd))
variable {lt:α → α → Bool}
theorem sorted_carryUp (hS:SWO lt) {a b i:Nat} {d:Array α} (hb:b ≤ d.size) (hai:a + 1 ≤ i) (hib:i ≤ b) (hs:SortedIn lt (a + 1) b d)
  (h1:∀ x,a + 1 ≤ x → x < i → lt d[x]! d[a]! = true) (h2:∀ x,i ≤ x → x < b → lt d[x]! d[a]! = false):SortedIn lt a b (carryUp a (i - 1 - a) d):=by
 have at':=carryUp_at a d (i - 1 - a) (by omega)
 intro p q hp hpq hq
 rw [at',at']
 by_cases c1:q < i - 1
 ·rw [if_pos (by omega),if_pos (by omega)]
  exact hs _ _ (by omega) (by omega) (by omega)
 ·by_cases c2:q = i - 1
  ·rw [if_neg (by omega),if_pos (by omega),if_pos (by omega)]
   exact hS.asymmA (h1 _ (by omega) (by omega))
  ·rw [if_neg (by omega),if_neg (by omega)]
   by_cases c3:p < i - 1
   ·rw [if_pos (by omega)]
    exact hs _ _ (by omega) (by omega) (by omega)
   ·by_cases c4:p = i - 1
    ·rw [if_neg (by omega),if_pos (by omega)]
     exact h2 _ (by omega) (by omega)
    ·rw [if_neg (by omega),if_neg (by omega)]
     exact hs _ _ (by omega) (by omega) (by omega)
theorem sorted_carryDown (hS:SWO lt) {a m i:Nat} {d:Array α} (hb:m < d.size) (hai:a ≤ i) (him:i ≤ m) (hs:SortedIn lt a m d)
  (h1:∀ x,a ≤ x → x < i → lt d[m]! d[x]! = false) (h2:∀ x,i ≤ x → x < m → lt d[m]! d[x]! = true):SortedIn lt a (m + 1) (carryDown m (m - i) d):=by
 have at':=carryDown_at m d (m - i) hb (by omega)
 intro p q hp hpq hq
 rw [at',at']
 by_cases c1:q < i
 ·rw [if_neg (by omega),if_neg (by omega),if_neg (by omega),if_neg (by omega)]
  exact hs _ _ (by omega) (by omega) (by omega)
 ·by_cases c2:q = i
  ·rw [if_neg (by omega),if_pos (by omega),if_neg (by omega),if_neg (by omega)]
   exact h1 _ (by omega) (by omega)
  ·rw [if_pos (by omega)]
   by_cases c3:p < i
   ·rw [if_neg (by omega),if_neg (by omega)]
    exact hs _ _ (by omega) (by omega) (by omega)
   ·by_cases c4:p = i
    ·rw [if_neg (by omega),if_pos (by omega)]
     exact hS.asymmA (h2 _ (by omega) (by omega))
    ·rw [if_pos (by omega)]
     exact hs _ _ (by omega) (by omega) (by omega)
theorem merge_split (hS:SWO lt) {a m b mid t:Nat} {d e:Array α} (ham:a ≤ m) (hmb:m ≤ b) (hb:b ≤ d.size) (hmid:mid = (a + b) / 2) (has:a ≤ t) (hsm:t ≤ m) (h3:m ≤ mid + m - t) (h4:mid + m - t ≤ b) (h5:t ≤ mid + m)
  (s1:SortedIn lt a m d) (s2:SortedIn lt m b d)
  (hl:a < t → mid + m - t < b → lt d[mid + m - t]! d[t - 1]! = false) (hr:t < m → m < mid + m - t → lt d[mid + m - t - 1]! d[t]! = true) (he:IsRot t m (mid + m - t) d e) :
  SortedIn lt a t e ∧ SortedIn lt t mid e ∧ SortedIn lt mid (mid + m - t) e ∧ SortedIn lt (mid + m - t) b e ∧ (∀ i j,a ≤ i → i < mid → mid ≤ j → j < b → lt e[j]! e[i]! = false):=by
 generalize hn:mid + m - t = n at *
 have L:∀ k,t ≤ k → k < mid → e[k]! = d[m + (k - t)]!:=fun k h6 h7=>by
  have:=he.left (k - t) (by omega)
  rw [show t + (k - t) = k by omega] at this
  exact this
 have R:∀ k,mid ≤ k → k < n → e[k]! = d[t + (k - mid)]!:=fun k h6 h7=>by
  have:=he.right (k - mid) (by omega)
  rw [show t + (n - m) + (k - mid) = k by omega] at this
  exact this
 have O:∀ k,k < t ∨ n ≤ k → e[k]! = d[k]!:=he.other
 have x1:∀ x y,a ≤ x → x < t → n ≤ y → y < b → lt d[y]! d[x]! = false:=fun x y h6 h7 h8 h9=>by
  have g:=hl (by omega) (by omega)
  have g1:lt d[y]! d[t - 1]! = false:=by
   by_cases c:y = n
   ·rw [c];exact g
   ·exact hS.ntrans _ _ _ (s2 n y (by omega) (by omega) h9) g
  by_cases c:x = t - 1
  ·rw [c];exact g1
  ·exact hS.ntrans _ _ _ g1 (s1 x (t - 1) h6 (by omega) (by omega))
 have x2:∀ x y,t ≤ x → x < m → m ≤ y → y < n → lt d[x]! d[y]! = false:=fun x y h6 h7 h8 h9=>by
  have g:=hS.asymmA (hr (by omega) (by omega))
  have g1:lt d[x]! d[n - 1]! = false:=by
   by_cases c:x = t
   ·rw [c];exact g
   ·exact hS.ntrans _ _ _ (s1 t x (by omega) (by omega) h7) g
  by_cases c:y = n - 1
  ·rw [c];exact g1
  ·exact hS.ntrans _ _ _ g1 (s2 y (n - 1) h8 (by omega) (by omega))
 refine ⟨fun p q h6 h7 h8=>?_,fun p q h6 h7 h8=>?_,fun p q h6 h7 h8=>?_,fun p q h6 h7 h8=>?_,fun p q h6 h7 h8 h9=>?_⟩
 ·rw [O p (by omega),O q (by omega)]
  exact s1 p q h6 h7 (by omega)
 ·rw [L p h6 (by omega),L q (by omega) h8]
  exact s2 _ _ (by omega) (by omega) (by omega)
 ·rw [R p h6 (by omega),R q (by omega) h8]
  exact s1 _ _ (by omega) (by omega) (by omega)
 ·rw [O p (by omega),O q (by omega)]
  exact s2 p q (by omega) h7 h8
 ·by_cases c1:p < t
  ·rw [O p (by omega)]
   by_cases c2:q < n
   ·rw [R q h8 c2]
    exact s1 _ _ h6 (by omega) (by omega)
   ·rw [O q (by omega)]
    exact x1 p q h6 c1 (by omega) h9
  ·rw [L p (by omega) h7]
   by_cases c2:q < n
   ·rw [R q h8 c2]
    exact x2 _ _ (by omega) (by omega) (by omega) (by omega)
   ·rw [O q (by omega)]
    exact s2 _ _ (by omega) (by omega) h9
end Go.Proofs.YteilnbnnhocciaaDoor.S

/-! V4 -/
namespace Go.Proofs.YteilnbnnhocciaaDoor.V
open Go.Proofs Go.RowKit Go.Lib Go.Sort Go.Proofs.YteilnbnnhocciaaDoorM Go.Proofs.YteilnbnnhocciaaDoor.S
instance:Inhabited FileV:=⟨⟨0,0,0,⟨#[]⟩,⟨#[]⟩⟩⟩
def encF (f:FileV):List Value:=[.int .u64 f.num,.int .u64 f.size,.int .u64 f.count,.string f.least,.string f.most]
theorem encF_len (f:FileV):(encF f).length = 5:=rfl
theorem encF_one (f:FileV):∀ v ∈ encF f,v.oneCell' = true:=by
 intro v hv
 simp only [encF,List.mem_cons,List.not_mem_nil,or_false] at hv
 rcases hv with rfl | rfl | rfl | rfl | rfl <;> rfl
structure SortP (P:Program) (k:Nat):Prop where
 mixed:P.follows .mixedOrders = true
 f134:P.funcs[134]? = some Tryd.f134
 f162:P.funcs[162]? = some Tryd.f162
 f184:P.funcs[184]? = some Tryd.f184
 f194:P.funcs[194]? = some Tryd.f194
 e161:∀ args w,(callFunc 161 args).run P w = .ok (.enter 161 args) w
 e162:∀ args w,(callFunc 162 args).run P w = .ok (.enter 162 args) w
 e184:∀ args w,(callFunc 184 args).run P w = .ok (.enter 184 args) w
 e194:∀ args w,(callFunc 194 args).run P w = .ok (.enter 194 args) w
 t3:P.underlying 3 = some (.int .i64)
 a3:∀ w,Sem.run P (isAgg 3) w = .ok false w
 z3:∀ w,Sem.run P (Go.sizeOf 3) w = .ok 1 w
 t4:P.underlying 4 = some .bool
 a4:∀ w,Sem.run P (isAgg 4) w = .ok false w
 z4:∀ w,Sem.run P (Go.sizeOf 4) w = .ok 1 w
 t62:P.underlying 62 = some (.int .u64)
 a62:∀ w,Sem.run P (isAgg 62) w = .ok false w
 z62:∀ w,Sem.run P (Go.sizeOf 62) w = .ok 1 w
 t76:P.underlying 76 = some (.slice 97)
 a76:∀ w,Sem.run P (isAgg 76) w = .ok false w
 z76:∀ w,Sem.run P (Go.sizeOf 76) w = .ok 1 w
 a97:∀ w,Sem.run P (isAgg 97) w = .ok true w
 z97:∀ w,Sem.run P (Go.sizeOf 97) w = .ok k w
 t167:P.underlying 167 = some (.func #[97,97] #[3] false)
 a167:∀ w,Sem.run P (isAgg 167) w = .ok false w
 z167:∀ w,Sem.run P (Go.sizeOf 167) w = .ok 1 w
theorem sortP_on:SortP Tryd.prog 5:=⟨by kernel_rfl,Tryd.func134,Tryd.func162,Tryd.func184,Tryd.func194,fun args w=>by simp [go_sem],fun args w=>by simp [go_sem],fun args w=>by simp [go_sem],fun args w=>by simp [go_sem],Tryd.underlying3,Tryd.isAgg3,Tryd.sizeOf3,Tryd.underlying4,Tryd.isAgg4,Tryd.sizeOf4,Tryd.underlying62,Tryd.isAgg62,Tryd.sizeOf62,Tryd.underlying76,Tryd.isAgg76,Tryd.sizeOf76,Tryd.isAgg97,Tryd.sizeOf97,Tryd.underlying167,Tryd.isAgg167,Tryd.sizeOf167⟩
variable {P:Program} {k:Nat} {α:Type} [Inhabited α] {enc:α → List Value}
def Row (enc:α → List Value) (k:Nat) (w:World) (blk off:Nat) (d':Array α) (w':World):Prop:=∃ m os,w' = sortWorldK enc k w blk off m d' os
theorem Row.refl {w:World} {blk off:Nat} {d:Array α} (h:HoldsK enc k w blk off d):Row enc k w blk off d w:=
 ⟨0,#[],by unfold sortWorldK;rw [grow_empty];exact (putRowK_self enc k w blk off d h).symm⟩
theorem Row.holds {w w':World} {blk off:Nat} {d d':Array α} (h:HoldsK enc k w blk off d) (hb:blk < w.heap.size) (hr:Row enc k w blk off d' w') (hs:d'.size = d.size):HoldsK enc k w' blk off d':=by
 obtain ⟨m,os,rfl⟩:=hr
 exact holdsK_sortWorldK_c enc k w blk off d d' m os h hb hs
theorem Row.size {w w':World} {blk off:Nat} {d':Array α} (hr:Row enc k w blk off d' w'):w.heap.size ≤ w'.heap.size:=by
 obtain ⟨m,os,rfl⟩:=hr
 exact size_sortWorldK_c enc k w blk off m d' os
theorem Row.trans {w w' w'':World} {blk off:Nat} {d' d'':Array α} (hb:blk < w.heap.size) (hr:Row enc k w blk off d' w') (hr':Row enc k w' blk off d'' w'') (hs:d''.size = d'.size):Row enc k w blk off d'' w'':=by
 obtain ⟨m,os,rfl⟩:=hr
 obtain ⟨m',os',rfl⟩:=hr'
 exact ⟨m + m',os ++ os',grow_step_growK enc k w os os' m m' blk off d' d'' hb hs⟩
theorem Row.grown {w w' w'':World} {blk off:Nat} {d':Array α} (hr:Row enc k w blk off d' w') (h:Grown w' w''):Row enc k w blk off d' w'':=by
 obtain ⟨m,os,rfl⟩:=hr
 obtain ⟨q,os',rfl⟩:=h
 exact ⟨m + q,os ++ os',sortWorldK_grown_c enc k w blk off m q d' os os'⟩
theorem bndK (k:Nat) {n x:Nat} (hx:x < n):x * k + k ≤ n * k:=by
 have:=Nat.mul_le_mul_right k (show x + 1 ≤ n from hx)
 rwa [Nat.add_mul,Nat.one_mul] at this
theorem Row.swp (hk:∀ x,(enc x).length = k) {w wq:World} {blk off:Nat} {dk:Array α} (hb:blk < w.heap.size) (hr:Row enc k w blk off dk wq) (i j:Nat) (hi:i < dk.size) (hj:j < dk.size) :
  Row enc k w blk off (Go.Sort.swp dk i j) ((wq.drew.setCells blk (off + i * k) (enc dk[j]!)).setCells blk (off + j * k) (enc dk[i]!)):=by
 obtain ⟨m,os,rfl⟩:=hr
 exact ⟨m + 1,os,sortWorldK_swp_c enc k w blk off hk m dk os hb i j hi hj⟩
theorem row_load (P:Program) (hk:∀ x,(enc x).length = k) {w:World} {blk off:Nat} {d:Array α} (h:HoldsK enc k w blk off d) (i:Nat) (hi:i < d.size):Sem.run P (loadCellsFrom ⟨blk,off + i * k,none⟩ 0 k #[]) w = .ok (enc d[i]!).toArray w:=
 run_loadCellsFrom_list P _ _ _ k (hk _) (HoldsK.cells h hk hi)
theorem row_stores (P:Program) (hk:∀ x,(enc x).length = k) (h1:∀ x,∀ v ∈ enc x,v.oneCell' = true) {w:World} {blk off:Nat} {d:Array α} (h:HoldsK enc k w blk off d) (i j:Nat) (hi:i < d.size) (hj:j < d.size) (x y:α) :
  Sem.run P (storeCells ⟨blk,off + i * k,none⟩ (enc x) 0) w = .ok () (w.setCells blk (off + i * k) (enc x)) ∧
  Sem.run P (storeCells ⟨blk,off + j * k,none⟩ (enc y) 0) (w.setCells blk (off + i * k) (enc x)) = .ok () ((w.setCells blk (off + i * k) (enc x)).setCells blk (off + j * k) (enc y)):=
 ⟨stores_of_holds P h (i * k) _ (by rw [hk,size_flatK];exact bndK k hi) (h1 _),
  stores_of_holds P (holds_setCells_c h (i * k) _ (by rw [hk,size_flatK];exact bndK k hi)) (j * k) _ (by rw [hk,size_setMany,size_flatK];exact bndK k hj) (h1 _)⟩
def swapJ (enc:α → List Value) (k:Nat) (w:World) (blk off a b:Nat) (d:Array α) (i:Nat) (wr:World):Prop:=Row enc k w blk off (swaps a b i d) wr
set_option maxHeartbeats 4000000 in
set_option maxRecDepth 1000000 in
theorem swapRange_on (L:SortP P k) (hk:∀ x,(enc x).length = k) (ho:∀ x,∀ v ∈ enc x,v.oneCell' = true) (blk off cap a b n:Nat) (d:Array α) (w:World) (fv:Value) (hH:HoldsK enc k w blk off d) (hblk:blk < w.heap.size) (hab:a + n ≤ b) (hb:b + n ≤ d.size) (hsz:d.size < 4611686018427387904) :
  Calls P 194 #[.slice (some ⟨blk,off,none⟩) d.size cap,.int .i64 a,.int .i64 b,.int .i64 n,fv] w fun e w'=>e = .returned (.tuple #[]) ∧ Row enc k w blk off (swaps a b n d) w':=by
 have HH:=Hush.mk hH
 have HK:=Hush.mk hk
 have HO:=Hush.mk ho
 clear hH hk ho
 obtain ⟨mixed,f134,f162,f184,f194,e161,e162,e184,e194,t3,a3,z3,t4,a4,z4,t62,a62,z62,t76,a76,z76,a97,z97,t167,a167,z167⟩:=L
 clear f134 f162 f184 e161 e162 e184 e194
 go_enter f194,Tryd.ntmps194
 go_wp2
 go_loopw [10] (fun iv wr=>∃ i:Nat,iv = .int .i64 i ∧ i ≤ n ∧ Hush (swapJ enc k w blk off a b d i wr)) (fun iv _=>n - (intOf iv).toNat)
 case atStart=>exact ⟨0,by go_num,by omega,⟨Row.refl HH.out⟩⟩
 case round=>
  obtain ⟨i,rfl,hin,HJ⟩:=hrel
  by_cases hlt:i < n
  ·have hltz:(i:Int) < (n:Int):=by omega
   have hs:(swaps a b i d).size = d.size:=size_swaps _ _ _ _
   have hw:=Row.holds HH.out hblk HJ.out hs
   have hwd:HoldsK enc k wr.drew blk off (swaps a b i d):=hw
   have hst:=row_stores P HK.out HO.out hwd (a + i) (b + i) (by omega) (by omega) (swaps a b i d)[b + i]! (swaps a b i d)[a + i]!
   have l1:=row_load P HK.out hwd (a + i) (by omega)
   have l2:=row_load P HK.out hwd (b + i) (by omega)
   have HN:Hush (swapJ enc k w blk off a b d (i + 1) ((wr.drew.setCells blk (off + (a + i) * k) (enc (swaps a b i d)[b + i]!)).setCells blk (off + (b + i) * k) (enc (swaps a b i d)[a + i]!))):=⟨Row.swp HK.out hblk HJ.out (a + i) (b + i) (by omega) (by omega)⟩
   have p1:(a:Int) + (i:Int) < (d.size:Int):=by omega
   have p2:(b:Int) + (i:Int) < (d.size:Int):=by omega
   have q1:IntKind.i64.wrap ((a:Int) + (i:Int)) = (a:Int) + (i:Int):=IntWalk.i64_in _ (by omega)
   have q2:IntKind.i64.wrap ((b:Int) + (i:Int)) = (b:Int) + (i:Int):=IntWalk.i64_in _ (by omega)
   have k1:((a:Int) + (i:Int)).toNat = a + i:=by omega
   have k2:((b:Int) + (i:Int)).toNat = b + i:=by omega
   have k3:(0:Int) ≤ (a:Int) + (i:Int):=by omega
   have k4:(0:Int) ≤ (b:Int) + (i:Int):=by omega
   obtain ⟨x,hx⟩:∃ x,x = enc (swaps a b i d)[a + i]!:=⟨_,rfl⟩
   obtain ⟨y,hy⟩:∃ y,y = enc (swaps a b i d)[b + i]!:=⟨_,rfl⟩
   rw [← hx] at l1 hst HN
   rw [← hy] at l2 hst HN
   have hlx:x.length = k:=by rw [hx];exact HK.out _
   have hly:y.length = k:=by rw [hy];exact HK.out _
   clear hx hy hs hw hwd HJ
   obtain ⟨s1,s2⟩:=hst
   go_wp2_with fail
   go_big_region_o
   all_goals go_wp2
   go_roundw
   case rel=>exact ⟨i + 1,by go_num,by omega,HN⟩
   case measure=>simp [intOf];omega
  ·obtain rfl:i = n:=by omega
   go_wp2
   go_end0
   exact ⟨rfl,HJ.out⟩
def rotJ (enc:α → List Value) (k:Nat) (w:World) (blk off a m b:Nat) (d:Array α) (i j:Nat) (wr:World):Prop:=
 ∃ dk:Array α,dk.size = d.size ∧ Row enc k w blk off dk wr ∧ PermIn a b d dk ∧ ∀ e,IsRot (m - i) m (m + j) dk e → IsRot a m b d e
def rotDone (enc:α → List Value) (k:Nat) (w:World) (blk off a m b:Nat) (d:Array α) (w':World):Prop:=
 ∃ e:Array α,Row enc k w blk off e w' ∧ IsRot a m b d e ∧ PermIn a b d e
set_option maxHeartbeats 4000000 in
set_option maxRecDepth 1000000 in
theorem rotate_on (L:SortP P k) (hk:∀ x,(enc x).length = k) (ho:∀ x,∀ v ∈ enc x,v.oneCell' = true) (blk off cap a m b:Nat) (d:Array α) (w:World) (fv:Value) (hH:HoldsK enc k w blk off d) (hblk:blk < w.heap.size) (ham:a < m) (hmb:m < b) (hb:b ≤ d.size) (hsz:d.size < 4611686018427387904) :
  Calls P 184 #[.slice (some ⟨blk,off,none⟩) d.size cap,.int .i64 a,.int .i64 m,.int .i64 b,fv] w fun e w'=>e = .returned (.tuple #[]) ∧ rotDone enc k w blk off a m b d w':=by
 have HH:=Hush.mk hH
 have HSW:Hush (∀ (X Y n:Nat) (dk:Array α) (wr:World),HoldsK enc k wr blk off dk → blk < wr.heap.size → X + n ≤ Y → Y + n ≤ dk.size → dk.size = d.size →
   Calls P 194 #[.slice (some ⟨blk,off,none⟩) d.size cap,.int .i64 X,.int .i64 Y,.int .i64 n,fv] wr fun e w'=>e = .returned (.tuple #[]) ∧ Row enc k wr blk off (swaps X Y n dk) w'):=
  ⟨fun X Y n dk wr h1 h2 h3 h4 h5=>by rw [← h5];exact swapRange_on L hk ho blk off cap X Y n dk wr fv h1 h2 h3 h4 (by omega)⟩
 clear hH hk ho
 obtain ⟨mixed,f134,f162,f184,f194,e161,e162,e184,e194,t3,a3,z3,t4,a4,z4,t62,a62,z62,t76,a76,z76,a97,z97,t167,a167,z167⟩:=L
 clear f134 f162 e161 e162 e184
 go_enter f184,Tryd.ntmps184
 have w1:(m:Int) - (a:Int) = ((m - a:Nat):Int):=by omega
 have w2:(b:Int) - (m:Int) = ((b - m:Nat):Int):=by omega
 go_wp2
 clear w1 w2
 go_loopw [10,11] (fun iv jv wr=>∃ i j:Nat,iv = .int .i64 i ∧ jv = .int .i64 j ∧ 0 < i ∧ 0 < j ∧ a + i ≤ m ∧ m + j ≤ b ∧ Hush (rotJ enc k w blk off a m b d i j wr)) (fun iv jv _=>(intOf iv).toNat + (intOf jv).toNat)
 case atStart=>exact ⟨m - a,b - m,by go_num,by go_num,by omega,by omega,by omega,by omega,⟨d,rfl,Row.refl HH.out,permIn_refl _ _ _,fun e he=>by rwa [show m - (m - a) = a by omega,show m + (b - m) = b by omega] at he⟩⟩
 case round=>
  obtain ⟨i,j,rfl,rfl,hi0,hj0,hai,hjb,HJ⟩:=hrel
  obtain ⟨dk,hs,hr,hp,hrot⟩:=HJ.out
  have hd:=Row.holds HH.out hblk hr hs
  have hbk:=Nat.lt_of_lt_of_le hblk hr.size
  rcases Nat.lt_trichotomy i j with hij | hij | hij
  ·
   have HC:=HSW.out (m - i) (m + j - i) i dk wr hd hbk (by omega) (by omega) hs
   rw [show ((m - i:Nat):Int) = (m:Int) - (i:Int) by omega,show ((m + j - i:Nat):Int) = (m:Int) + (j:Int) - (i:Int) by omega] at HC
   have HCC:=Hush.mk HC
   have HN:Hush (∀ w',Row enc k wr blk off (swaps (m - i) (m + j - i) i dk) w' → rotJ enc k w blk off a m b d i (j - i) w'):=⟨fun w' h'=>
    ⟨_,(size_swaps _ _ _ _).trans hs,Row.trans hblk hr h' (size_swaps _ _ _ _),permIn_trans _ _ _ _ _ hp (swaps_perm a b _ _ dk (by omega) (by omega) (by omega) i (by omega) (by omega)),fun e he=>hrot e (IsRot.step2 (by omega) (by omega) hij he)⟩⟩
   clear HC hr hp hrot hd hbk hs
   have c1:¬ (i:Int) = (j:Int):=by omega
   have c2:¬ (j:Int) < (i:Int):=by omega
   have c3:(j:Int) - (i:Int) = ((j - i:Nat):Int):=by omega
   go_wp2_with (go_at_fn 194;refine HCC.out.mono ?_;rintro e w' ⟨rfl,hrow⟩;have HN2:=Hush.mk (HN.out w' hrow);clear hrow)
   go_roundw
   case rel=>exact ⟨i,j - i,by go_num,by go_num,by omega,by omega,by omega,by omega,HN2⟩
   case measure=>simp [intOf];omega
  ·
   subst hij
   have HC:=HSW.out (m - i) m i dk wr hd hbk (by omega) (by omega) hs
   rw [show ((m - i:Nat):Int) = (m:Int) - (i:Int) by omega] at HC
   have HCC:=Hush.mk HC
   have HN:Hush (∀ w',Row enc k wr blk off (swaps (m - i) m i dk) w' → rotDone enc k w blk off a m b d w'):=⟨fun w' h'=>
    ⟨_,Row.trans hblk hr h' (size_swaps _ _ _ _),hrot _ (IsRot.last (by omega) (by omega)),permIn_trans _ _ _ _ _ hp (swaps_perm a b _ _ dk (by omega) (by omega) (by omega) i (by omega) (by omega))⟩⟩
   clear HC hr hp hrot hd hbk hs
   go_wp2_with (go_at_fn 194;refine HCC.out.mono ?_;rintro e w' ⟨rfl,hrow⟩;have HN2:=Hush.mk (HN.out w' hrow);clear hrow)
   go_end0
   exact ⟨rfl,HN2.out⟩
  ·
   have HC:=HSW.out (m - i) m j dk wr hd hbk (by omega) (by omega) hs
   rw [show ((m - i:Nat):Int) = (m:Int) - (i:Int) by omega] at HC
   have HCC:=Hush.mk HC
   have HN:Hush (∀ w',Row enc k wr blk off (swaps (m - i) m j dk) w' → rotJ enc k w blk off a m b d (i - j) j w'):=⟨fun w' h'=>
    ⟨_,(size_swaps _ _ _ _).trans hs,Row.trans hblk hr h' (size_swaps _ _ _ _),permIn_trans _ _ _ _ _ hp (swaps_perm a b _ _ dk (by omega) (by omega) (by omega) j (by omega) (by omega)),fun e he=>hrot e (IsRot.step1 (by omega) (by omega) hij he)⟩⟩
   clear HC hr hp hrot hd hbk hs
   have c1:¬ (i:Int) = (j:Int):=by omega
   have c2:(j:Int) < (i:Int):=by omega
   have c3:(i:Int) - (j:Int) = ((i - j:Nat):Int):=by omega
   go_wp2_with (go_at_fn 194;refine HCC.out.mono ?_;rintro e w' ⟨rfl,hrow⟩;have HN2:=Hush.mk (HN.out w' hrow);clear hrow)
   go_roundw
   case rel=>exact ⟨i - j,j,by go_num,by go_num,by omega,by omega,by omega,by omega,HN2⟩
   case measure=>simp [intOf];omega
end Go.Proofs.YteilnbnnhocciaaDoor.V

/-! V5 -/
namespace Go.Proofs.YteilnbnnhocciaaDoor.V
open Go.Proofs Go.RowKit Go.BigFrame Go.Lib Go.Sort Go.Proofs.YteilnbnnhocciaaDoorM Go.Proofs.YteilnbnnhocciaaDoor.S
variable {P:Program} {k:Nat} {α:Type} [Inhabited α] {enc:α → List Value}
def CmpAny (P:Program) (g:Nat) (enc:α → List Value) (cf:α → α → Int):Prop:=
 ∀ x y W,Calls P g #[.agg (enc x).toArray,.agg (enc y).toArray] W fun e w'=>e = .returned (.int .i64 (cf x y)) ∧ Grown W w'
theorem row_load_grown (P:Program) (hk:∀ x,(enc x).length = k) {w wr:World} {blk off:Nat} {d0 d:Array α} (h0:HoldsK enc k w blk off d0) (hb:blk < w.heap.size) (hr:Row enc k w blk off d wr) (hs:d.size = d0.size) (i:Nat) (hi:i < d.size) :
  ∀ n os,Sem.run P (loadCellsFrom ⟨blk,off + i * k,none⟩ 0 k #[]) (Go.Sort.grow (wr.drewN n) os) = .ok (enc d[i]!).toArray (Go.Sort.grow (wr.drewN n) os):=fun n os=>
 row_load P hk (Row.holds h0 hb (hr.grown ((Grown.refl wr).grow n os)) hs) i hi
def oneJ (lt:α → α → Bool) (enc:α → List Value) (k:Nat) (w:World) (blk off a m b:Nat) (d:Array α) (i j:Nat) (wr:World):Prop:=
 Row enc k w blk off d wr ∧ (∀ x,m ≤ x → x < i → lt d[x]! d[a]! = true) ∧ (∀ x,j ≤ x → x < b → lt d[x]! d[a]! = false)
def symDone (lt:α → α → Bool) (enc:α → List Value) (k:Nat) (w:World) (blk off a b:Nat) (d:Array α) (w':World):Prop:=
 ∃ e:Array α,Row enc k w blk off e w' ∧ PermIn a b d e ∧ SortedIn lt a b e
set_option maxHeartbeats 4000000 in
set_option maxRecDepth 1000000 in
theorem symOne_on (L:SortP P k) (hk:∀ x,(enc x).length = k) (ho:∀ x,∀ v ∈ enc x,v.oneCell' = true) (cf:α → α → Int) (hS:SWO (ltOf cf)) (g:Nat) (eg:∀ args w,(callFunc g args).run P w = .ok (.enter g args) w) (hcmp:CmpAny P g enc cf)
  (blk off cap a b:Nat) (d:Array α) (w:World) (hH:HoldsK enc k w blk off d) (hblk:blk < w.heap.size) (hmb:a + 1 < b) (hb:b ≤ d.size) (hsz:d.size < 4611686018427387904) (hs2:SortedIn (ltOf cf) (a + 1) b d) :
  Calls P 162 #[.slice (some ⟨blk,off,none⟩) d.size cap,.int .i64 a,.int .i64 ((a:Int) + 1),.int .i64 b,.func (.func g) #[] #[]] w fun e w'=>e = .returned (.tuple #[]) ∧ symDone (ltOf cf) enc k w blk off a b d w':=by
 have HH:=Hush.mk hH
 have HK:=Hush.mk hk
 have HO:=Hush.mk ho
 have HC:=Hush.mk hcmp
 have HS:=Hush.mk hs2
 have HW:=Hush.mk hS
 clear hH hk ho hcmp hs2 hS
 obtain ⟨mixed,f134,f162,f184,f194,e161,e162,e184,e194,t3,a3,z3,t4,a4,z4,t62,a62,z62,t76,a76,z76,a97,z97,t167,a167,z167⟩:=L
 clear f134 f184 f194 e161 e162 e184 e194
 go_enter f162,Tryd.ntmps162
 have w1:(a:Int) + 1 - (a:Int) = 1:=by omega
 go_wp2
 clear w1
 go_loopw [10,11] (fun iv jv wr=>∃ i j:Nat,iv = .int .i64 i ∧ jv = .int .i64 j ∧ a + 1 ≤ i ∧ i ≤ j ∧ j ≤ b ∧ Hush (oneJ (ltOf cf) enc k w blk off a (a + 1) b d i j wr)) (fun iv jv _=>(intOf jv).toNat - (intOf iv).toNat)
 case atStart=>exact ⟨a + 1,b,by go_num,by go_num,by omega,by omega,by omega,⟨Row.refl HH.out,fun x h1 h2=>by omega,fun x h1 h2=>by omega⟩⟩
 case round=>
  obtain ⟨i,j,rfl,rfl,hi,hij,hj,HJ⟩:=hrel
  by_cases hlt:i < j
  ·have hltz:(i:Int) < (j:Int):=by omega
   obtain ⟨h,hh⟩:∃ h:Nat,h = (i + j) / 2:=⟨_,rfl⟩
   have hhz:((i:Int) + (j:Int)) / 2 = (h:Int):=by omega
   have hb0:(h:Int) < (d.size:Int):=by omega
   have hb1:(a:Int) < (d.size:Int):=by omega
   have hb2:IntKind.i64.wrap (h:Int) = (h:Int):=IntWalk.i64_in _ (by omega)
   have lh:=row_load_grown P HK.out HH.out hblk HJ.out.1 rfl h (by omega)
   have la:=row_load_grown P HK.out HH.out hblk HJ.out.1 rfl a (by omega)
   obtain ⟨r,hr⟩:∃ r,r = cf d[h]! d[a]!:=⟨_,rfl⟩
   have HCC:Hush (∀ W,Calls P g #[.agg (enc d[h]!).toArray,.agg (enc d[a]!).toArray] W fun e w'=>e = .returned (.int .i64 r) ∧ Grown W w'):=⟨by rw [hr];exact HC.out d[h]! d[a]!⟩
   have hih:i ≤ h:=by omega
   have hhj:h < j:=by omega
   have HN:Hush (∀ wr',Grown wr wr' → (r < 0 → oneJ (ltOf cf) enc k w blk off a (a + 1) b d (h + 1) j wr') ∧ (¬ r < 0 → oneJ (ltOf cf) enc k w blk off a (a + 1) b d i h wr')):=⟨fun wr' hg=>by
    obtain ⟨hrow,h1,h2⟩:=HJ.out
    refine ⟨fun hneg=>⟨hrow.grown hg,fun x hx1 hx2=>?_,h2⟩,fun hneg=>⟨hrow.grown hg,h1,fun x hx1 hx2=>?_⟩⟩
    ·have hlt':ltOf cf d[h]! d[a]! = true:=by unfold ltOf;rw [← hr];exact decide_eq_true hneg
     by_cases c:x = h
     ·rw [c];exact hlt'
     ·cases hc:ltOf cf d[x]! d[a]! with
      | true=>rfl
      | false=>
       have:=HW.out.ntrans _ _ _ (HS.out x h hx1 (by omega) (by omega)) hc
       rw [hlt'] at this;exact this.symm
    ·have hlt':ltOf cf d[h]! d[a]! = false:=by unfold ltOf;rw [← hr];exact decide_eq_false hneg
     by_cases c:x = h
     ·rw [c];exact hlt'
     ·exact HW.out.ntrans _ _ _ (HS.out h x (by omega) (by omega) hx2) hlt'⟩
   clear HJ hr hh
   obtain ⟨x,hx⟩:∃ x,x = enc d[h]!:=⟨_,rfl⟩
   obtain ⟨y,hy⟩:∃ y,y = enc d[a]!:=⟨_,rfl⟩
   rw [← hx] at lh HCC
   rw [← hy] at la HCC
   have hlx:x.length = k:=by rw [hx];exact HK.out _
   have hly:y.length = k:=by rw [hy];exact HK.out _
   clear hx hy
   by_cases hneg:r < 0
   all_goals
    go_wp2_with fail
    refine wp_region_quiet_grown mixed (by kernel_rfl) ?_
    repeat (go_big_quiet_step (first | (go_at_fn g;exact Calls.grown_of (HCC.out _))))
    refine wpQuiet_nil ?_
    intro _ hw'
    obtain ⟨⟨nq,osq⟩,hw''⟩:=hw'
    subst hw''
    have HN2:=Hush.mk (HN.out _ ((Grown.refl wr).grow nq osq))
    clear lh la HN
    go_wp2
   ·go_roundw
    case rel=>exact ⟨h + 1,j,by go_num,by go_num,by omega,by omega,by omega,⟨HN2.out.1 hneg⟩⟩
    case measure=>simp [intOf];omega
   ·go_roundw
    case rel=>exact ⟨i,h,by go_num,by go_num,by omega,by omega,by omega,⟨HN2.out.2 hneg⟩⟩
    case measure=>simp [intOf];omega
  ·obtain rfl:i = j:=by omega
   have HD:Hush (SortedIn (ltOf cf) a b (carryUp a (i - 1 - a) d) ∧ PermIn a b d (carryUp a (i - 1 - a) d)):=⟨sorted_carryUp HW.out hb hi hj HS.out HJ.out.2.1 HJ.out.2.2,carryUp_perm a b a d (by omega) hb _ (by omega)⟩
   have HR0:=Hush.mk HJ.out.1
   clear HJ
   go_wp2
   go_loopw [13] (fun cv wr2=>∃ c:Nat,cv = .int .i64 c ∧ a ≤ c ∧ c ≤ i - 1 ∧ Hush (Row enc k w blk off (carryUp a (c - a) d) wr2)) (fun cv _=>i - (intOf cv).toNat)
   case atStart=>exact ⟨a,by go_num,by omega,by omega,⟨by rw [show a - a = 0 by omega];exact HR0.out⟩⟩
   case round=>
    obtain ⟨c,rfl,hca,hci,HR⟩:=hrel
    by_cases hlt2:c < i - 1
    ·have hlt2z:(c:Int) < (i:Int) - 1:=by omega
     have hs:(carryUp a (c - a) d).size = d.size:=size_carryUp _ _ _
     have hw:=Row.holds HH.out hblk HR.out hs
     have hwd:HoldsK enc k wr.drew blk off (carryUp a (c - a) d):=hw
     clear hw
     have hst:=row_stores P HK.out HO.out hwd c (c + 1) (by omega) (by omega) (carryUp a (c - a) d)[c + 1]! (carryUp a (c - a) d)[c]!
     have l1:=row_load P HK.out hwd c (by omega)
     have l2:=row_load P HK.out hwd (c + 1) (by omega)
     have HN:Hush (Row enc k w blk off (carryUp a (c + 1 - a) d) ((wr.drew.setCells blk (off + c * k) (enc (carryUp a (c - a) d)[c + 1]!)).setCells blk (off + (c + 1) * k) (enc (carryUp a (c - a) d)[c]!))):=⟨by
      have:=Row.swp HK.out hblk HR.out c (c + 1) (by omega) (by omega)
      rw [show c + 1 - a = (c - a) + 1 by omega,carryUp,show a + (c - a) = c by omega]
      exact this⟩
     have p1:(c:Int) < (d.size:Int):=by omega
     have p2:(c:Int) + 1 < (d.size:Int):=by omega
     have q1:IntKind.i64.wrap (c:Int) = (c:Int):=IntWalk.i64_in _ (by omega)
     have q2:IntKind.i64.wrap ((c:Int) + 1) = (c:Int) + 1:=IntWalk.i64_in _ (by omega)
     have k2:((c:Int) + 1).toNat = c + 1:=by omega
     have k4:(0:Int) ≤ (c:Int) + 1:=by omega
     obtain ⟨x,hx⟩:∃ x,x = enc (carryUp a (c - a) d)[c]!:=⟨_,rfl⟩
     obtain ⟨y,hy⟩:∃ y,y = enc (carryUp a (c - a) d)[c + 1]!:=⟨_,rfl⟩
     rw [← hx] at l1 hst HN
     rw [← hy] at l2 hst HN
     have hlx:x.length = k:=by rw [hx];exact HK.out _
     have hly:y.length = k:=by rw [hy];exact HK.out _
     clear hx hy hs hwd HR
     obtain ⟨s1,s2⟩:=hst
     go_wp2_with fail
     go_big_region_o
     all_goals go_wp2
     go_roundw
     case rel=>exact ⟨c + 1,by go_num,by omega,by omega,HN⟩
     case measure=>simp [intOf];omega
    ·have hlt2z:¬ (c:Int) < (i:Int) - 1:=by omega
     obtain rfl:c = i - 1:=by omega
     go_wp2
     try simp only [Exit.inBlock,Exit.then]
     refine bodyPost_ret (results_none rfl _ _ _) rfl ?_
     exact ⟨rfl,_,HR.out,HD.out.2,HD.out.1⟩
end Go.Proofs.YteilnbnnhocciaaDoor.V

/-! V6 -/
namespace Go.Proofs.YteilnbnnhocciaaDoor.V
open Go.Proofs Go.RowKit Go.BigFrame Go.Lib Go.Sort Go.Proofs.YteilnbnnhocciaaDoorM Go.Proofs.YteilnbnnhocciaaDoor.S
variable {P:Program} {k:Nat} {α:Type} [Inhabited α] {enc:α → List Value}
def lastJ (lt:α → α → Bool) (enc:α → List Value) (k:Nat) (w:World) (blk off a m:Nat) (d:Array α) (i j:Nat) (wr:World):Prop:=
 Row enc k w blk off d wr ∧ (∀ x,a ≤ x → x < i → lt d[m]! d[x]! = false) ∧ (∀ x,j ≤ x → x < m → lt d[m]! d[x]! = true)
set_option maxHeartbeats 4000000 in
set_option maxRecDepth 1000000 in
theorem symLast_on (L:SortP P k) (hk:∀ x,(enc x).length = k) (ho:∀ x,∀ v ∈ enc x,v.oneCell' = true) (cf:α → α → Int) (hS:SWO (ltOf cf)) (g:Nat) (eg:∀ args w,(callFunc g args).run P w = .ok (.enter g args) w) (hcmp:CmpAny P g enc cf)
  (blk off cap a m:Nat) (d:Array α) (w:World) (hH:HoldsK enc k w blk off d) (hblk:blk < w.heap.size) (hmb:a + 1 < m) (hb:m + 1 ≤ d.size) (hsz:d.size < 4611686018427387904) (hs2:SortedIn (ltOf cf) a m d) :
  Calls P 162 #[.slice (some ⟨blk,off,none⟩) d.size cap,.int .i64 a,.int .i64 m,.int .i64 ((m:Int) + 1),.func (.func g) #[] #[]] w fun e w'=>e = .returned (.tuple #[]) ∧ symDone (ltOf cf) enc k w blk off a (m + 1) d w':=by
 have HH:=Hush.mk hH
 have HK:=Hush.mk hk
 have HO:=Hush.mk ho
 have HC:=Hush.mk hcmp
 have HS:=Hush.mk hs2
 have HW:=Hush.mk hS
 clear hH hk ho hcmp hs2 hS
 obtain ⟨mixed,f134,f162,f184,f194,e161,e162,e184,e194,t3,a3,z3,t4,a4,z4,t62,a62,z62,t76,a76,z76,a97,z97,t167,a167,z167⟩:=L
 clear f134 f184 f194 e161 e162 e184 e194
 go_enter f162,Tryd.ntmps162
 have w0:(((m:Int) - (a:Int)) == 1) = false:=by rw [beq_eq_false_iff_ne];omega
 have w1:(m:Int) + 1 - (m:Int) = 1:=by omega
 go_wp2
 clear w0 w1
 go_loopw [14,15] (fun iv jv wr=>∃ i j:Nat,iv = .int .i64 i ∧ jv = .int .i64 j ∧ a ≤ i ∧ i ≤ j ∧ j ≤ m ∧ Hush (lastJ (ltOf cf) enc k w blk off a m d i j wr)) (fun iv jv _=>(intOf jv).toNat - (intOf iv).toNat)
 case atStart=>exact ⟨a,m,by go_num,by go_num,by omega,by omega,by omega,⟨Row.refl HH.out,fun x h1 h2=>by omega,fun x h1 h2=>by omega⟩⟩
 case round=>
  obtain ⟨i,j,rfl,rfl,hi,hij,hj,HJ⟩:=hrel
  by_cases hlt:i < j
  ·have hltz:(i:Int) < (j:Int):=by omega
   obtain ⟨h,hh⟩:∃ h:Nat,h = (i + j) / 2:=⟨_,rfl⟩
   have hhz:((i:Int) + (j:Int)) / 2 = (h:Int):=by omega
   have hb0:(h:Int) < (d.size:Int):=by omega
   have hb1:(m:Int) < (d.size:Int):=by omega
   have hb3:IntKind.i64.wrap (m:Int) = (m:Int):=IntWalk.i64_in _ (by omega)
   have hb2:IntKind.i64.wrap (h:Int) = (h:Int):=IntWalk.i64_in _ (by omega)
   have lh:=row_load_grown P HK.out HH.out hblk HJ.out.1 rfl h (by omega)
   have la:=row_load_grown P HK.out HH.out hblk HJ.out.1 rfl m (by omega)
   obtain ⟨r,hr⟩:∃ r,r = cf d[m]! d[h]!:=⟨_,rfl⟩
   have HCC:Hush (∀ W,Calls P g #[.agg (enc d[m]!).toArray,.agg (enc d[h]!).toArray] W fun e w'=>e = .returned (.int .i64 r) ∧ Grown W w'):=⟨by rw [hr];exact HC.out d[m]! d[h]!⟩
   have hih:i ≤ h:=by omega
   have hhj:h < j:=by omega
   have HN:Hush (∀ wr',Grown wr wr' → (r < 0 → lastJ (ltOf cf) enc k w blk off a m d i h wr') ∧ (¬ r < 0 → lastJ (ltOf cf) enc k w blk off a m d (h + 1) j wr')):=⟨fun wr' hg=>by
    obtain ⟨hrow,h1,h2⟩:=HJ.out
    refine ⟨fun hneg=>⟨hrow.grown hg,h1,fun x hx1 hx2=>?_⟩,fun hneg=>⟨hrow.grown hg,fun x hx1 hx2=>?_,h2⟩⟩
    ·have hlt':ltOf cf d[m]! d[h]! = true:=by unfold ltOf;rw [← hr];exact decide_eq_true hneg
     by_cases c:x = h
     ·rw [c];exact hlt'
     ·cases hc:ltOf cf d[m]! d[x]! with
      | true=>rfl
      | false=>
       have:=HW.out.ntrans _ _ _ hc (HS.out h x (by omega) (by omega) hx2)
       rw [hlt'] at this;exact this.symm
    ·have hlt':ltOf cf d[m]! d[h]! = false:=by unfold ltOf;rw [← hr];exact decide_eq_false hneg
     by_cases c:x = h
     ·rw [c];exact hlt'
     ·exact HW.out.ntrans _ _ _ hlt' (HS.out x h hx1 (by omega) (by omega))⟩
   clear HJ hr hh
   obtain ⟨x,hx⟩:∃ x,x = enc d[h]!:=⟨_,rfl⟩
   obtain ⟨y,hy⟩:∃ y,y = enc d[m]!:=⟨_,rfl⟩
   rw [← hx] at lh HCC
   rw [← hy] at la HCC
   have hlx:x.length = k:=by rw [hx];exact HK.out _
   have hly:y.length = k:=by rw [hy];exact HK.out _
   clear hx hy
   by_cases hneg:r < 0
   ·have hd:decide (r < 0) = true:=decide_eq_true hneg
    go_wp2_with fail
    refine wp_region_quiet_grown mixed (by kernel_rfl) ?_
    repeat (go_big_quiet_step (first | (go_at_fn g;exact Calls.grown_of (HCC.out _))))
    refine wpQuiet_nil ?_
    intro _ hw'
    obtain ⟨⟨nq,osq⟩,hw''⟩:=hw'
    subst hw''
    have HN2:=Hush.mk (HN.out _ ((Grown.refl wr).grow nq osq))
    clear lh la HN
    go_wp2
    go_roundw
    case rel=>exact ⟨i,h,by go_num,by go_num,by omega,by omega,by omega,⟨HN2.out.1 hneg⟩⟩
    case measure=>simp [intOf];omega
   ·have hd:decide (r < 0) = false:=decide_eq_false hneg
    go_wp2_with fail
    refine wp_region_quiet_grown mixed (by kernel_rfl) ?_
    repeat (go_big_quiet_step (first | (go_at_fn g;exact Calls.grown_of (HCC.out _))))
    refine wpQuiet_nil ?_
    intro _ hw'
    obtain ⟨⟨nq,osq⟩,hw''⟩:=hw'
    subst hw''
    have HN2:=Hush.mk (HN.out _ ((Grown.refl wr).grow nq osq))
    clear lh la HN
    go_wp2
    go_roundw
    case rel=>exact ⟨h + 1,j,by go_num,by go_num,by omega,by omega,by omega,⟨HN2.out.2 hneg⟩⟩
    case measure=>simp [intOf];omega
  ·obtain rfl:i = j:=by omega
   have HD:Hush (SortedIn (ltOf cf) a (m + 1) (carryDown m (m - i) d) ∧ PermIn a (m + 1) d (carryDown m (m - i) d)):=⟨sorted_carryDown HW.out (by omega) hi hj HS.out HJ.out.2.1 HJ.out.2.2,carryDown_perm a (m + 1) m d (by omega) hb _ (by omega)⟩
   have HR0:=Hush.mk HJ.out.1
   clear HJ
   go_wp2
   go_loopw [17] (fun cv wr2=>∃ c:Nat,cv = .int .i64 c ∧ i ≤ c ∧ c ≤ m ∧ Hush (Row enc k w blk off (carryDown m (m - c) d) wr2)) (fun cv _=>(intOf cv).toNat)
   case atStart=>exact ⟨m,by go_num,by omega,by omega,⟨by rw [show m - m = 0 by omega];exact HR0.out⟩⟩
   case round=>
    obtain ⟨c,rfl,hic,hcm,HR⟩:=hrel
    by_cases hlt2:i < c
    ·obtain ⟨q,rfl⟩:∃ q,c = q + 1:=⟨c - 1,by omega⟩
     have hlt2z:(i:Int) < (q:Int) + 1:=by omega
     have hs:(carryDown m (m - (q + 1)) d).size = d.size:=size_carryDown _ _ _
     have hw:=Row.holds HH.out hblk HR.out hs
     have hwd:HoldsK enc k wr.drew blk off (carryDown m (m - (q + 1)) d):=hw
     clear hw
     have hst:=row_stores P HK.out HO.out hwd (q + 1) q (by omega) (by omega) (carryDown m (m - (q + 1)) d)[q]! (carryDown m (m - (q + 1)) d)[q + 1]!
     have l1:=row_load P HK.out hwd (q + 1) (by omega)
     have l2:=row_load P HK.out hwd q (by omega)
     have HN:Hush (Row enc k w blk off (carryDown m (m - q) d) ((wr.drew.setCells blk (off + (q + 1) * k) (enc (carryDown m (m - (q + 1)) d)[q]!)).setCells blk (off + q * k) (enc (carryDown m (m - (q + 1)) d)[q + 1]!))):=⟨by
      have:=Row.swp HK.out hblk HR.out (q + 1) q (by omega) (by omega)
      rw [show m - q = (m - (q + 1)) + 1 by omega,carryDown,show m - (m - (q + 1)) = q + 1 by omega]
      exact this⟩
     have p1:(q:Int) < (d.size:Int):=by omega
     have p2:(q:Int) + 1 < (d.size:Int):=by omega
     have q1:IntKind.i64.wrap (q:Int) = (q:Int):=IntWalk.i64_in _ (by omega)
     have q2:IntKind.i64.wrap ((q:Int) + 1) = (q:Int) + 1:=IntWalk.i64_in _ (by omega)
     have k2:((q:Int) + 1).toNat = q + 1:=by omega
     have k4:(0:Int) ≤ (q:Int) + 1:=by omega
     obtain ⟨x,hx⟩:∃ x,x = enc (carryDown m (m - (q + 1)) d)[q + 1]!:=⟨_,rfl⟩
     obtain ⟨y,hy⟩:∃ y,y = enc (carryDown m (m - (q + 1)) d)[q]!:=⟨_,rfl⟩
     rw [← hx] at l1 hst HN
     rw [← hy] at l2 hst HN
     have hlx:x.length = k:=by rw [hx];exact HK.out _
     have hly:y.length = k:=by rw [hy];exact HK.out _
     clear hx hy hs hwd HR
     obtain ⟨s1,s2⟩:=hst
     go_wp2_with fail
     go_big_region_o
     all_goals go_wp2
     go_roundw
     case rel=>exact ⟨q,by go_num,by omega,by omega,HN⟩
     case measure=>simp [intOf]
    ·have hlt2z:¬ (i:Int) < (c:Int):=by omega
     obtain rfl:i = c:=by omega
     go_wp2
     try simp only [Exit.inBlock,Exit.then]
     refine bodyPost_ret (results_none rfl _ _ _) rfl ?_
     exact ⟨rfl,_,HR.out,HD.out.2,HD.out.1⟩
end Go.Proofs.YteilnbnnhocciaaDoor.V

/-! V7 -/
namespace Go.Proofs.YteilnbnnhocciaaDoor.V
open Go.Proofs Go.RowKit Go.BigFrame Go.Lib Go.Sort Go.Proofs.YteilnbnnhocciaaDoorM Go.Proofs.YteilnbnnhocciaaDoor.S
variable {P:Program} {k:Nat} {α:Type} [Inhabited α] {enc:α → List Value}
theorem IsRot.triv {a m b:Nat} {d:Array α} (ham:a ≤ m) (hmb:m ≤ b) (h:a = m ∨ m = b):IsRot a m b d d:=by
 rcases h with rfl | rfl
 ·exact ⟨rfl,fun _ _=>rfl,fun k hk=>by omega,fun _ _=>rfl⟩
 ·exact ⟨rfl,fun k hk=>by omega,fun k hk=>by rw [show m - m = 0 by omega,Nat.add_zero],fun _ _=>rfl⟩
def symJ (lt:α → α → Bool) (enc:α → List Value) (k:Nat) (w:World) (blk off:Nat) (d:Array α) (n lo hi s r:Nat) (wr:World):Prop:=
 Row enc k w blk off d wr ∧ (s = lo ∨ lt d[n - s]! d[s - 1]! = false) ∧ (r = hi ∨ lt d[n - 1 - r]! d[r]! = true)
def cross (lt:α → α → Bool) (a mid b:Nat) (e:Array α):Prop:=∀ i j,a ≤ i → i < mid → mid ≤ j → j < b → lt e[j]! e[i]! = false
def symT0 (lt:α → α → Bool) (enc:α → List Value) (k:Nat) (w:World) (blk off a m b mid s:Nat) (d:Array α) (wr:World):Prop:=
 Row enc k w blk off d wr ∧ (a < s → mid + m - s < b → lt d[mid + m - s]! d[s - 1]! = false) ∧ (s < m → m < mid + m - s → lt d[mid + m - s - 1]! d[s]! = true)
def symT1 (lt:α → α → Bool) (enc:α → List Value) (k:Nat) (w:World) (blk off a m b mid s:Nat) (d:Array α) (wr:World):Prop:=
 ∃ e:Array α,Row enc k w blk off e wr ∧ e.size = d.size ∧ PermIn a b d e ∧ SortedIn lt a s e ∧ SortedIn lt s mid e ∧ SortedIn lt mid (mid + m - s) e ∧ SortedIn lt (mid + m - s) b e ∧ cross lt a mid b e
def symT2 (lt:α → α → Bool) (enc:α → List Value) (k:Nat) (w:World) (blk off a m b mid s:Nat) (d:Array α) (wr:World):Prop:=
 ∃ e:Array α,Row enc k w blk off e wr ∧ e.size = d.size ∧ PermIn a b d e ∧ SortedIn lt a mid e ∧ SortedIn lt mid (mid + m - s) e ∧ SortedIn lt (mid + m - s) b e ∧ cross lt a mid b e
section
variable {lt:α → α → Bool} {w:World} {blk off a m b mid s:Nat} {d:Array α}
theorem left_half {e f:Array α} (h1:a ≤ mid) (h2:mid ≤ b) (hb:b ≤ e.size) (hx:cross lt a mid b e) (pe:PermIn a mid e f) (c:Nat) (hc:mid ≤ c) (s1:SortedIn lt mid c e) (s2:SortedIn lt c b e) :
  SortedIn lt mid c f ∧ SortedIn lt c b f ∧ cross lt a mid b f:=by
 have a2:∀ j,mid ≤ j → f[j]! = e[j]!:=fun j hj=>pe.2.1 j (Or.inr hj)
 refine ⟨fun p q h3 h4 h5=>by rw [a2 p h3,a2 q (by omega)];exact s1 p q h3 h4 h5,fun p q h3 h4 h5=>by rw [a2 p (by omega),a2 q (by omega)];exact s2 p q h3 h4 h5,fun i j h3 h4 h5 h6=>?_⟩
 rw [a2 j h5]
 exact permIn_all e f a mid (fun x=>lt e[j]! x = false) (by omega) pe (fun i h7 h8=>hx i j h7 h8 h5 h6) i h3 h4
theorem right_half {e f:Array α} (h1:a ≤ mid) (h2:mid ≤ b) (hb:b ≤ e.size) (hx:cross lt a mid b e) (pe:PermIn mid b e f) (s1:SortedIn lt a mid e) (s2:SortedIn lt mid b f) :
  SortedIn lt a b f:=by
 have a1:∀ i,i < mid → f[i]! = e[i]!:=fun i hi=>pe.2.1 i (Or.inl hi)
 intro p q hp hpq hq
 by_cases c1:q < mid
 ·rw [a1 q c1,a1 p (by omega)]
  exact s1 p q hp hpq c1
 ·by_cases c2:p < mid
  ·rw [a1 p c2]
   exact permIn_all e f mid b (fun x=>lt x e[p]! = false) hb pe (fun j h5 h6=>hx p j hp c2 h5 h6) q (by omega) hq
  ·exact s2 p q (by omega) hpq hq
theorem symT1_of (hS:SWO lt) (hblk:blk < w.heap.size) (ham:a ≤ m) (hmb:m ≤ b) (hb:b ≤ d.size) (hmid:mid = (a + b) / 2) (has:a ≤ s) (hsm:s ≤ m) (h3:m ≤ mid + m - s) (h4:mid + m - s ≤ b) (s1:SortedIn lt a m d) (s2:SortedIn lt m b d)
  {wr w':World} (h0:symT0 lt enc k w blk off a m b mid s d wr) {e:Array α} (hr:Row enc k w blk off e w') (hrot:IsRot s m (mid + m - s) d e) (hp:PermIn s (mid + m - s) d e):symT1 lt enc k w blk off a m b mid s d w':=by
 obtain ⟨g1,g2,g3,g4,g5⟩:=merge_split hS ham hmb hb hmid has hsm h3 h4 (by omega) s1 s2 h0.2.1 h0.2.2 hrot
 exact ⟨e,hr,hp.1,permIn_mono _ _ _ _ _ _ has h4 hb hp,g1,g2,g3,g4,g5⟩
end
set_option maxHeartbeats 16000000 in
set_option maxRecDepth 1000000 in
theorem symMany_on (L:SortP P k) (hk:∀ x,(enc x).length = k) (ho:∀ x,∀ v ∈ enc x,v.oneCell' = true) (cf:α → α → Int) (hS:SWO (ltOf cf)) (g:Nat) (eg:∀ args w,(callFunc g args).run P w = .ok (.enter g args) w) (hcmp:CmpAny P g enc cf)
  (blk off cap a m b:Nat) (d:Array α) (w:World) (hH:HoldsK enc k w blk off d) (hblk:blk < w.heap.size) (ham:a + 1 < m) (hmb:m + 1 < b) (hb:b ≤ d.size) (hsz:d.size < 4611686018427387904) (hs1:SortedIn (ltOf cf) a m d) (hs2:SortedIn (ltOf cf) m b d)
  (IH:∀ (a' m' b':Nat) (d':Array α) (wr:World),HoldsK enc k wr blk off d' → blk < wr.heap.size → a' < m' → m' < b' → b' ≤ d'.size → d'.size = d.size → b' - a' < b - a → SortedIn (ltOf cf) a' m' d' → SortedIn (ltOf cf) m' b' d' →
   Calls P 162 #[.slice (some ⟨blk,off,none⟩) d.size cap,.int .i64 a',.int .i64 m',.int .i64 b',.func (.func g) #[] #[]] wr fun e w'=>e = .returned (.tuple #[]) ∧ symDone (ltOf cf) enc k wr blk off a' b' d' w') :
  Calls P 162 #[.slice (some ⟨blk,off,none⟩) d.size cap,.int .i64 a,.int .i64 m,.int .i64 b,.func (.func g) #[] #[]] w fun e w'=>e = .returned (.tuple #[]) ∧ symDone (ltOf cf) enc k w blk off a b d w':=by
 have HH:=Hush.mk hH
 have HK:=Hush.mk hk
 have HO:=Hush.mk ho
 have HC:=Hush.mk hcmp
 have HS1:=Hush.mk hs1
 have HS2:=Hush.mk hs2
 have HW:=Hush.mk hS
 have HIH:=Hush.mk IH
 have HROT:Hush (∀ (s nd:Nat) (wr:World),HoldsK enc k wr blk off d → blk < wr.heap.size → s < m → m < nd → nd ≤ d.size →
   Calls P 184 #[.slice (some ⟨blk,off,none⟩) d.size cap,.int .i64 s,.int .i64 m,.int .i64 nd,.func (.func g) #[] #[]] wr fun e w'=>e = .returned (.tuple #[]) ∧ rotDone enc k wr blk off s m nd d w'):=
  ⟨fun s nd wr h1 h2 h3 h4 h5=>rotate_on L hk ho blk off cap s m nd d wr _ h1 h2 h3 h4 h5 hsz⟩
 clear hH hk ho hcmp hs1 hs2 hS IH
 obtain ⟨mixed,f134,f162,f184,f194,e161,e162,e184,e194,t3,a3,z3,t4,a4,z4,t62,a62,z62,t76,a76,z76,a97,z97,t167,a167,z167⟩:=L
 clear f134 f194 e161 e194
 obtain ⟨mid,hmid⟩:∃ mid:Nat,mid = (a + b) / 2:=⟨_,rfl⟩
 have HMID:=Hush.mk hmid
 have hmidz:((a:Int) + (b:Int)) / 2 = (mid:Int):=by omega
 have hm1:a < mid:=by omega
 have hm2:mid < b:=by omega
 have hm3:2 * mid ≤ a + b:=by omega
 have hm4:a + b ≤ 2 * mid + 1:=by omega
 clear hmid
 obtain ⟨lo,hi,hlh⟩:∃ lo hi:Nat,(mid < m ∧ lo + b = mid + m ∧ hi = mid) ∨ (m ≤ mid ∧ lo = a ∧ hi = m):=by
  by_cases c:mid < m
  ·exact ⟨mid + m - b,mid,.inl ⟨c,by omega,rfl⟩⟩
  ·exact ⟨a,m,.inr ⟨by omega,rfl,rfl⟩⟩
 have hlo:a ≤ lo:=by omega
 have hlohi:lo ≤ hi:=by omega
 have hhim:hi ≤ m:=by omega
 have hhimid:hi ≤ mid:=by omega
 have hlob:mid + m ≤ lo + b:=by omega
 have w0:(((m:Int) - (a:Int)) == 1) = false:=by rw [beq_eq_false_iff_ne];omega
 have w1:(((b:Int) - (m:Int)) == 1) = false:=by rw [beq_eq_false_iff_ne];omega
 rcases hlh with ⟨hway,hlv,hhv⟩ | ⟨hway,hlv,hhv⟩
 ·have hwz:(mid:Int) < (m:Int):=by omega
  have HV:Hush ((mid < m ∧ lo + b = mid + m ∧ hi = mid) ∨ (m ≤ mid ∧ lo = a ∧ hi = m)):=⟨.inl ⟨hway,hlv,hhv⟩⟩
  clear hway
  go_enter f162,Tryd.ntmps162
  go_wp2
  go_loopw [20,21] (fun iv jv wr=>∃ s r:Nat,iv = .int .i64 s ∧ jv = .int .i64 r ∧ lo ≤ s ∧ s ≤ r ∧ r ≤ hi ∧ Hush (symJ (ltOf cf) enc k w blk off d (mid + m) lo hi s r wr)) (fun iv jv _=>(intOf jv).toNat - (intOf iv).toNat)
  case atStart=>exact ⟨lo,hi,by go_num,by go_num,by omega,by omega,by omega,⟨Row.refl HH.out,.inl rfl,.inl rfl⟩⟩
  case round=>
   obtain ⟨s,r,rfl,rfl,hs0,hsr,hr0,HJ⟩:=hrel
   by_cases hlt:s < r
   ·have hltz:(s:Int) < (r:Int):=by omega
    obtain ⟨c,hc⟩:∃ c:Nat,c = (s + r) / 2:=⟨_,rfl⟩
    have hcz:((s:Int) + (r:Int)) / 2 = (c:Int):=by omega
    have hsc:s ≤ c:=by omega
    have hcr:c < r:=by omega
    clear hc
    obtain ⟨q,hq⟩:∃ q:Nat,q + c + 1 = mid + m:=⟨mid + m - 1 - c,by omega⟩
    have hqz:(mid:Int) + (m:Int) - 1 - (c:Int) = (q:Int):=by omega
    have hqw:IntKind.i64.wrap ((mid:Int) + (m:Int) - 1 - (c:Int)) = (q:Int):=by rw [hqz];exact IntWalk.i64_in _ (by omega)
    have hqw1:IntKind.i64.wrap (q:Int) = (q:Int):=IntWalk.i64_in _ (by omega)
    have hqb:(q:Int) < (d.size:Int):=by omega
    have hcb:(c:Int) < (d.size:Int):=by omega
    have hcw:IntKind.i64.wrap (c:Int) = (c:Int):=IntWalk.i64_in _ (by omega)
    have lc:=row_load_grown P HK.out HH.out hblk HJ.out.1 rfl c (by omega)
    have lq:=row_load_grown P HK.out HH.out hblk HJ.out.1 rfl q (by omega)
    obtain ⟨rr,hr⟩:∃ rr,rr = cf d[q]! d[c]!:=⟨_,rfl⟩
    have HCC:Hush (∀ W,Calls P g #[.agg (enc d[q]!).toArray,.agg (enc d[c]!).toArray] W fun e w'=>e = .returned (.int .i64 rr) ∧ Grown W w'):=⟨by rw [hr];exact HC.out d[q]! d[c]!⟩
    have HN:Hush (∀ wr',Grown wr wr' → (rr < 0 → symJ (ltOf cf) enc k w blk off d (mid + m) lo hi s c wr') ∧ (¬ rr < 0 → symJ (ltOf cf) enc k w blk off d (mid + m) lo hi (c + 1) r wr')):=⟨fun wr' hg=>by
     obtain ⟨hrow,h1,h2⟩:=HJ.out
     refine ⟨fun hneg=>⟨hrow.grown hg,h1,.inr ?_⟩,fun hneg=>⟨hrow.grown hg,.inr ?_,h2⟩⟩
     ·rw [show mid + m - 1 - c = q by omega]
      unfold ltOf;rw [← hr];exact decide_eq_true hneg
     ·rw [show mid + m - (c + 1) = q by omega,show c + 1 - 1 = c by omega]
      unfold ltOf;rw [← hr];exact decide_eq_false hneg⟩
    clear HJ hr hq
    obtain ⟨x,hx⟩:∃ x,x = enc d[c]!:=⟨_,rfl⟩
    obtain ⟨y,hy⟩:∃ y,y = enc d[q]!:=⟨_,rfl⟩
    rw [← hx] at lc HCC
    rw [← hy] at lq HCC
    have hlx:x.length = k:=by rw [hx];exact HK.out _
    have hly:y.length = k:=by rw [hy];exact HK.out _
    clear hx hy
    by_cases hneg:rr < 0
    ·have hd:decide (rr < 0) = true:=decide_eq_true hneg
     go_wp2_with fail
     refine wp_region_quiet_grown mixed (by kernel_rfl) ?_
     repeat (go_big_quiet_step (first | (go_at_fn g;exact Calls.grown_of (HCC.out _))))
     refine wpQuiet_nil ?_
     intro _ hw'
     obtain ⟨⟨nq,osq⟩,hw''⟩:=hw'
     subst hw''
     have HN2:=Hush.mk (HN.out _ ((Grown.refl wr).grow nq osq))
     clear lc lq HN
     go_wp2
     go_roundw
     case rel=>exact ⟨s,c,by go_num,by go_num,by omega,by omega,by omega,⟨HN2.out.1 hneg⟩⟩
     case measure=>simp [intOf];omega
    ·have hd:decide (rr < 0) = false:=decide_eq_false hneg
     go_wp2_with fail
     refine wp_region_quiet_grown mixed (by kernel_rfl) ?_
     repeat (go_big_quiet_step (first | (go_at_fn g;exact Calls.grown_of (HCC.out _))))
     refine wpQuiet_nil ?_
     intro _ hw'
     obtain ⟨⟨nq,osq⟩,hw''⟩:=hw'
     subst hw''
     have HN2:=Hush.mk (HN.out _ ((Grown.refl wr).grow nq osq))
     clear lc lq HN
     go_wp2
     go_roundw
     case rel=>exact ⟨c + 1,r,by go_num,by go_num,by omega,by omega,by omega,⟨HN2.out.2 hneg⟩⟩
     case measure=>simp [intOf];omega
   ·obtain rfl:s = r:=by omega
    have HT0:Hush (symT0 (ltOf cf) enc k w blk off a m b mid s d wr):=⟨by
     have hv:=HV.out
     obtain ⟨hrow,h1,h2⟩:=HJ.out
     refine ⟨hrow,fun h3 h4=>?_,fun h3 h4=>?_⟩
     ·rcases h1 with h1 | h1
      ·omega
      ·exact h1
     ·rcases h2 with h2 | h2
      ·omega
      ·rw [show mid + m - s - 1 = mid + m - 1 - s by omega];exact h2⟩
    clear HJ HC hlt
    obtain ⟨nd,hnd⟩:∃ nd:Nat,nd + s = mid + m:=⟨mid + m - s,by omega⟩
    have hndz:(mid:Int) + (m:Int) - (s:Int) = (nd:Int):=by omega
    have hndw:IntKind.i64.wrap (nd:Int) = (nd:Int):=IntWalk.i64_in _ (by omega)
    have HND:Hush (nd = mid + m - s):=⟨by omega⟩
    have hnm:m ≤ nd:=by omega
    have hnb:nd ≤ b:=by omega
    have hsa:a ≤ s:=by omega
    have hsm:s ≤ m:=by omega
    have hsmid:s ≤ mid:=by omega
    have HA1:Hush (∀ wr:World,symT0 (ltOf cf) enc k w blk off a m b mid s d wr → s < m → m < nd → Calls P 184 #[.slice (some ⟨blk,off,none⟩) d.size cap,.int .i64 s,.int .i64 m,.int .i64 nd,.func (.func g) #[] #[]] wr fun e w'=>e = .returned (.tuple #[]) ∧ symT1 (ltOf cf) enc k w blk off a m b mid s d w'):=⟨fun wr h0 h1 h2=>by
     have hd:=Row.holds HH.out hblk h0.1 rfl
     refine (HROT.out s nd wr hd (Nat.lt_of_lt_of_le hblk h0.1.size) h1 h2 (by omega)).mono fun e w' ⟨he,ee,hr,hro,hp⟩=>⟨he,?_⟩
     rw [HND.out] at hro hp
     exact symT1_of HW.out hblk (by omega) (by omega) hb HMID.out hsa hsm (by omega) (by omega) HS1.out HS2.out h0 (Row.trans hblk h0.1 hr hp.1) hro hp⟩
    have HA0:Hush (∀ wr:World,symT0 (ltOf cf) enc k w blk off a m b mid s d wr → ¬ (s < m ∧ m < nd) → symT1 (ltOf cf) enc k w blk off a m b mid s d wr):=⟨fun wr h0 h1=>
     symT1_of HW.out hblk (by omega) (by omega) hb HMID.out hsa hsm (by omega) (by omega) HS1.out HS2.out h0 h0.1 (IsRot.triv (by omega) (by omega) (by omega)) (permIn_refl _ _ _)⟩
    have HB1:Hush (∀ wr:World,symT1 (ltOf cf) enc k w blk off a m b mid s d wr → a < s → s < mid → Calls P 162 #[.slice (some ⟨blk,off,none⟩) d.size cap,.int .i64 a,.int .i64 s,.int .i64 mid,.func (.func g) #[] #[]] wr fun e w'=>e = .returned (.tuple #[]) ∧ symT2 (ltOf cf) enc k w blk off a m b mid s d w'):=⟨fun wr ⟨e,hr,hse,hp,g1,g2,g3,g4,g5⟩ h1 h2=>by
     have hd:=Row.holds HH.out hblk hr hse
     refine (HIH.out a s mid e wr hd (Nat.lt_of_lt_of_le hblk hr.size) h1 h2 (by omega) hse (by omega) g1 g2).mono fun en w' ⟨he,f,hrf,hpf,hsf⟩=>⟨he,?_⟩
     have hh:=left_half (lt:=ltOf cf) (by omega) (by omega) (by omega) g5 hpf (mid + m - s) (by omega) g3 g4
     exact ⟨f,Row.trans hblk hr hrf hpf.1,hpf.1.trans hse,permIn_trans _ _ _ _ _ hp (permIn_mono _ _ _ _ _ _ (Nat.le_refl _) (by omega) (by omega) hpf),hsf,hh.1,hh.2.1,hh.2.2⟩⟩
    have HB0:Hush (∀ wr:World,symT1 (ltOf cf) enc k w blk off a m b mid s d wr → ¬ (a < s ∧ s < mid) → symT2 (ltOf cf) enc k w blk off a m b mid s d wr):=⟨fun wr ⟨e,hr,hse,hp,g1,g2,g3,g4,g5⟩ h1=>
     ⟨e,hr,hse,hp,by
      by_cases c:s = a
      ·rw [c] at g2;exact g2
      ·have:s = mid:=by omega
       rw [this] at g1;exact g1,g3,g4,g5⟩⟩
    have HC1:Hush (∀ wr:World,symT2 (ltOf cf) enc k w blk off a m b mid s d wr → mid < nd → nd < b → Calls P 162 #[.slice (some ⟨blk,off,none⟩) d.size cap,.int .i64 mid,.int .i64 nd,.int .i64 b,.func (.func g) #[] #[]] wr fun e w'=>e = .returned (.tuple #[]) ∧ symDone (ltOf cf) enc k w blk off a b d w'):=⟨fun wr ⟨e,hr,hse,hp,g1,g3,g4,g5⟩ h1 h2=>by
     have hd:=Row.holds HH.out hblk hr hse
     rw [← HND.out] at g3 g4
     refine (HIH.out mid nd b e wr hd (Nat.lt_of_lt_of_le hblk hr.size) h1 h2 (by omega) hse (by omega) g3 g4).mono fun en w' ⟨he,f,hrf,hpf,hsf⟩=>⟨he,?_⟩
     exact ⟨f,Row.trans hblk hr hrf hpf.1,permIn_trans _ _ _ _ _ hp (permIn_mono _ _ _ _ _ _ (by omega) (Nat.le_refl _) (by omega) hpf),right_half (by omega) (by omega) (by omega) g5 hpf g1 hsf⟩⟩
    have HC0:Hush (∀ wr:World,symT2 (ltOf cf) enc k w blk off a m b mid s d wr → ¬ (mid < nd ∧ nd < b) → symDone (ltOf cf) enc k w blk off a b d wr):=⟨fun wr ⟨e,hr,hse,hp,g1,g3,g4,g5⟩ h1=>by
     rw [← HND.out] at g3 g4
     refine ⟨e,hr,hp,right_half (mid:=mid) (by omega) (by omega) (by omega) g5 (permIn_refl _ _ _) g1 ?_⟩
     by_cases c:nd = mid
     ·rw [c] at g4;exact g4
     ·have:nd = b:=by omega
      rw [this] at g3;exact g3⟩
    clear HROT HIH HV HND hnd
    by_cases ca:s < m ∧ m < nd
    ·have ca1:(s:Int) < (m:Int):=by omega
     have ca2:(m:Int) < (nd:Int):=by omega
     by_cases cb:a < s ∧ s < mid
     ·have cb1:(a:Int) < (s:Int):=by omega
      have cb2:(s:Int) < (mid:Int):=by omega
      by_cases cc:mid < nd ∧ nd < b
      ·have cc1:(mid:Int) < (nd:Int):=by omega
       have cc2:(nd:Int) < (b:Int):=by omega
       have CA:=Hush.mk ca
       have CB:=Hush.mk cb
       have CC:=Hush.mk cc
       clear ca cb cc hlv hhv hlohi hhim hhimid hlob
       have HCA:=Hush.mk (HA1.out wr HT0.out CA.out.1 CA.out.2)
       go_wp2_with (first | (go_at_fn 184;refine HCA.out.mono ?_;rintro e w1 ⟨rfl,h1⟩;have HT1:=Hush.mk h1;clear h1;have HCB:=Hush.mk (HB1.out w1 HT1.out CB.out.1 CB.out.2)) | (go_at_fn 162;refine HCB.out.mono ?_;rintro e w2 ⟨rfl,h2⟩;have HT2:=Hush.mk h2;clear h2;have HCC1:=Hush.mk (HC1.out w2 HT2.out CC.out.1 CC.out.2)) | (go_at_fn 162;refine HCC1.out.mono ?_;rintro e w3 ⟨rfl,h3⟩;have HT3:=Hush.mk h3;clear h3))
       all_goals go_end0
       all_goals exact ⟨rfl,HT3.out⟩
      ·by_cases ccx:mid < nd
       ·have cc1:(mid:Int) < (nd:Int):=by omega
        have cc2:¬ (nd:Int) < (b:Int):=by omega
        have CA:=Hush.mk ca
        have CB:=Hush.mk cb
        have CC:=Hush.mk cc
        clear ca cb cc hlv hhv hlohi hhim hhimid hlob
        have HCA:=Hush.mk (HA1.out wr HT0.out CA.out.1 CA.out.2)
        go_wp2_with (first | (go_at_fn 184;refine HCA.out.mono ?_;rintro e w1 ⟨rfl,h1⟩;have HT1:=Hush.mk h1;clear h1;have HCB:=Hush.mk (HB1.out w1 HT1.out CB.out.1 CB.out.2)) | (go_at_fn 162;refine HCB.out.mono ?_;rintro e w2 ⟨rfl,h2⟩;have HT2:=Hush.mk h2;clear h2;have HT3:=Hush.mk (HC0.out w2 HT2.out CC.out)))
        all_goals go_end0
        all_goals exact ⟨rfl,HT3.out⟩
       ·have cc1:¬ (mid:Int) < (nd:Int):=by omega
        have CA:=Hush.mk ca
        have CB:=Hush.mk cb
        have CC:=Hush.mk cc
        clear ca cb cc hlv hhv hlohi hhim hhimid hlob
        have HCA:=Hush.mk (HA1.out wr HT0.out CA.out.1 CA.out.2)
        go_wp2_with (first | (go_at_fn 184;refine HCA.out.mono ?_;rintro e w1 ⟨rfl,h1⟩;have HT1:=Hush.mk h1;clear h1;have HCB:=Hush.mk (HB1.out w1 HT1.out CB.out.1 CB.out.2)) | (go_at_fn 162;refine HCB.out.mono ?_;rintro e w2 ⟨rfl,h2⟩;have HT2:=Hush.mk h2;clear h2;have HT3:=Hush.mk (HC0.out w2 HT2.out CC.out)))
        all_goals go_end0
        all_goals exact ⟨rfl,HT3.out⟩
     ·by_cases cbx:a < s
      ·have cb1:(a:Int) < (s:Int):=by omega
       have cb2:¬ (s:Int) < (mid:Int):=by omega
       by_cases cc:mid < nd ∧ nd < b
       ·have cc1:(mid:Int) < (nd:Int):=by omega
        have cc2:(nd:Int) < (b:Int):=by omega
        have CA:=Hush.mk ca
        have CB:=Hush.mk cb
        have CC:=Hush.mk cc
        clear ca cb cc hlv hhv hlohi hhim hhimid hlob
        have HCA:=Hush.mk (HA1.out wr HT0.out CA.out.1 CA.out.2)
        go_wp2_with (first | (go_at_fn 184;refine HCA.out.mono ?_;rintro e w1 ⟨rfl,h1⟩;have HT1:=Hush.mk h1;clear h1;have HT2:=Hush.mk (HB0.out w1 HT1.out CB.out);have HCC1:=Hush.mk (HC1.out w1 HT2.out CC.out.1 CC.out.2)) | (go_at_fn 162;refine HCC1.out.mono ?_;rintro e w3 ⟨rfl,h3⟩;have HT3:=Hush.mk h3;clear h3))
        all_goals go_end0
        all_goals exact ⟨rfl,HT3.out⟩
       ·by_cases ccx:mid < nd
        ·have cc1:(mid:Int) < (nd:Int):=by omega
         have cc2:¬ (nd:Int) < (b:Int):=by omega
         have CA:=Hush.mk ca
         have CB:=Hush.mk cb
         have CC:=Hush.mk cc
         clear ca cb cc hlv hhv hlohi hhim hhimid hlob
         have HCA:=Hush.mk (HA1.out wr HT0.out CA.out.1 CA.out.2)
         go_wp2_with (first | (go_at_fn 184;refine HCA.out.mono ?_;rintro e w1 ⟨rfl,h1⟩;have HT1:=Hush.mk h1;clear h1;have HT2:=Hush.mk (HB0.out w1 HT1.out CB.out);have HT3:=Hush.mk (HC0.out w1 HT2.out CC.out)))
         all_goals go_end0
         all_goals exact ⟨rfl,HT3.out⟩
        ·have cc1:¬ (mid:Int) < (nd:Int):=by omega
         have CA:=Hush.mk ca
         have CB:=Hush.mk cb
         have CC:=Hush.mk cc
         clear ca cb cc hlv hhv hlohi hhim hhimid hlob
         have HCA:=Hush.mk (HA1.out wr HT0.out CA.out.1 CA.out.2)
         go_wp2_with (first | (go_at_fn 184;refine HCA.out.mono ?_;rintro e w1 ⟨rfl,h1⟩;have HT1:=Hush.mk h1;clear h1;have HT2:=Hush.mk (HB0.out w1 HT1.out CB.out);have HT3:=Hush.mk (HC0.out w1 HT2.out CC.out)))
         all_goals go_end0
         all_goals exact ⟨rfl,HT3.out⟩
      ·have cb1:¬ (a:Int) < (s:Int):=by omega
       by_cases cc:mid < nd ∧ nd < b
       ·have cc1:(mid:Int) < (nd:Int):=by omega
        have cc2:(nd:Int) < (b:Int):=by omega
        have CA:=Hush.mk ca
        have CB:=Hush.mk cb
        have CC:=Hush.mk cc
        clear ca cb cc hlv hhv hlohi hhim hhimid hlob
        have HCA:=Hush.mk (HA1.out wr HT0.out CA.out.1 CA.out.2)
        go_wp2_with (first | (go_at_fn 184;refine HCA.out.mono ?_;rintro e w1 ⟨rfl,h1⟩;have HT1:=Hush.mk h1;clear h1;have HT2:=Hush.mk (HB0.out w1 HT1.out CB.out);have HCC1:=Hush.mk (HC1.out w1 HT2.out CC.out.1 CC.out.2)) | (go_at_fn 162;refine HCC1.out.mono ?_;rintro e w3 ⟨rfl,h3⟩;have HT3:=Hush.mk h3;clear h3))
        all_goals go_end0
        all_goals exact ⟨rfl,HT3.out⟩
       ·by_cases ccx:mid < nd
        ·have cc1:(mid:Int) < (nd:Int):=by omega
         have cc2:¬ (nd:Int) < (b:Int):=by omega
         have CA:=Hush.mk ca
         have CB:=Hush.mk cb
         have CC:=Hush.mk cc
         clear ca cb cc hlv hhv hlohi hhim hhimid hlob
         have HCA:=Hush.mk (HA1.out wr HT0.out CA.out.1 CA.out.2)
         go_wp2_with (first | (go_at_fn 184;refine HCA.out.mono ?_;rintro e w1 ⟨rfl,h1⟩;have HT1:=Hush.mk h1;clear h1;have HT2:=Hush.mk (HB0.out w1 HT1.out CB.out);have HT3:=Hush.mk (HC0.out w1 HT2.out CC.out)))
         all_goals go_end0
         all_goals exact ⟨rfl,HT3.out⟩
        ·have cc1:¬ (mid:Int) < (nd:Int):=by omega
         have CA:=Hush.mk ca
         have CB:=Hush.mk cb
         have CC:=Hush.mk cc
         clear ca cb cc hlv hhv hlohi hhim hhimid hlob
         have HCA:=Hush.mk (HA1.out wr HT0.out CA.out.1 CA.out.2)
         go_wp2_with (first | (go_at_fn 184;refine HCA.out.mono ?_;rintro e w1 ⟨rfl,h1⟩;have HT1:=Hush.mk h1;clear h1;have HT2:=Hush.mk (HB0.out w1 HT1.out CB.out);have HT3:=Hush.mk (HC0.out w1 HT2.out CC.out)))
         all_goals go_end0
         all_goals exact ⟨rfl,HT3.out⟩
    ·by_cases cax:s < m
     ·have ca1:(s:Int) < (m:Int):=by omega
      have ca2:¬ (m:Int) < (nd:Int):=by omega
      by_cases cb:a < s ∧ s < mid
      ·have cb1:(a:Int) < (s:Int):=by omega
       have cb2:(s:Int) < (mid:Int):=by omega
       by_cases cc:mid < nd ∧ nd < b
       ·have cc1:(mid:Int) < (nd:Int):=by omega
        have cc2:(nd:Int) < (b:Int):=by omega
        have CA:=Hush.mk ca
        have CB:=Hush.mk cb
        have CC:=Hush.mk cc
        clear ca cb cc hlv hhv hlohi hhim hhimid hlob
        have HT1:=Hush.mk (HA0.out wr HT0.out CA.out)
        have HCB:=Hush.mk (HB1.out wr HT1.out CB.out.1 CB.out.2)
        go_wp2_with (first | (go_at_fn 162;refine HCB.out.mono ?_;rintro e w2 ⟨rfl,h2⟩;have HT2:=Hush.mk h2;clear h2;have HCC1:=Hush.mk (HC1.out w2 HT2.out CC.out.1 CC.out.2)) | (go_at_fn 162;refine HCC1.out.mono ?_;rintro e w3 ⟨rfl,h3⟩;have HT3:=Hush.mk h3;clear h3))
        all_goals go_end0
        all_goals exact ⟨rfl,HT3.out⟩
       ·by_cases ccx:mid < nd
        ·have cc1:(mid:Int) < (nd:Int):=by omega
         have cc2:¬ (nd:Int) < (b:Int):=by omega
         have CA:=Hush.mk ca
         have CB:=Hush.mk cb
         have CC:=Hush.mk cc
         clear ca cb cc hlv hhv hlohi hhim hhimid hlob
         have HT1:=Hush.mk (HA0.out wr HT0.out CA.out)
         have HCB:=Hush.mk (HB1.out wr HT1.out CB.out.1 CB.out.2)
         go_wp2_with (first | (go_at_fn 162;refine HCB.out.mono ?_;rintro e w2 ⟨rfl,h2⟩;have HT2:=Hush.mk h2;clear h2;have HT3:=Hush.mk (HC0.out w2 HT2.out CC.out)))
         all_goals go_end0
         all_goals exact ⟨rfl,HT3.out⟩
        ·have cc1:¬ (mid:Int) < (nd:Int):=by omega
         have CA:=Hush.mk ca
         have CB:=Hush.mk cb
         have CC:=Hush.mk cc
         clear ca cb cc hlv hhv hlohi hhim hhimid hlob
         have HT1:=Hush.mk (HA0.out wr HT0.out CA.out)
         have HCB:=Hush.mk (HB1.out wr HT1.out CB.out.1 CB.out.2)
         go_wp2_with (first | (go_at_fn 162;refine HCB.out.mono ?_;rintro e w2 ⟨rfl,h2⟩;have HT2:=Hush.mk h2;clear h2;have HT3:=Hush.mk (HC0.out w2 HT2.out CC.out)))
         all_goals go_end0
         all_goals exact ⟨rfl,HT3.out⟩
      ·by_cases cbx:a < s
       ·have cb1:(a:Int) < (s:Int):=by omega
        have cb2:¬ (s:Int) < (mid:Int):=by omega
        by_cases cc:mid < nd ∧ nd < b
        ·have cc1:(mid:Int) < (nd:Int):=by omega
         have cc2:(nd:Int) < (b:Int):=by omega
         have CA:=Hush.mk ca
         have CB:=Hush.mk cb
         have CC:=Hush.mk cc
         clear ca cb cc hlv hhv hlohi hhim hhimid hlob
         have HT1:=Hush.mk (HA0.out wr HT0.out CA.out)
         have HT2:=Hush.mk (HB0.out wr HT1.out CB.out);have HCC1:=Hush.mk (HC1.out wr HT2.out CC.out.1 CC.out.2)
         go_wp2_with (first | (go_at_fn 162;refine HCC1.out.mono ?_;rintro e w3 ⟨rfl,h3⟩;have HT3:=Hush.mk h3;clear h3))
         all_goals go_end0
         all_goals exact ⟨rfl,HT3.out⟩
        ·by_cases ccx:mid < nd
         ·have cc1:(mid:Int) < (nd:Int):=by omega
          have cc2:¬ (nd:Int) < (b:Int):=by omega
          have CA:=Hush.mk ca
          have CB:=Hush.mk cb
          have CC:=Hush.mk cc
          clear ca cb cc hlv hhv hlohi hhim hhimid hlob
          have HT1:=Hush.mk (HA0.out wr HT0.out CA.out)
          have HT2:=Hush.mk (HB0.out wr HT1.out CB.out);have HT3:=Hush.mk (HC0.out wr HT2.out CC.out)
          go_wp2
          all_goals go_end0
          all_goals exact ⟨rfl,HT3.out⟩
         ·have cc1:¬ (mid:Int) < (nd:Int):=by omega
          have CA:=Hush.mk ca
          have CB:=Hush.mk cb
          have CC:=Hush.mk cc
          clear ca cb cc hlv hhv hlohi hhim hhimid hlob
          have HT1:=Hush.mk (HA0.out wr HT0.out CA.out)
          have HT2:=Hush.mk (HB0.out wr HT1.out CB.out);have HT3:=Hush.mk (HC0.out wr HT2.out CC.out)
          go_wp2
          all_goals go_end0
          all_goals exact ⟨rfl,HT3.out⟩
       ·have cb1:¬ (a:Int) < (s:Int):=by omega
        by_cases cc:mid < nd ∧ nd < b
        ·have cc1:(mid:Int) < (nd:Int):=by omega
         have cc2:(nd:Int) < (b:Int):=by omega
         have CA:=Hush.mk ca
         have CB:=Hush.mk cb
         have CC:=Hush.mk cc
         clear ca cb cc hlv hhv hlohi hhim hhimid hlob
         have HT1:=Hush.mk (HA0.out wr HT0.out CA.out)
         have HT2:=Hush.mk (HB0.out wr HT1.out CB.out);have HCC1:=Hush.mk (HC1.out wr HT2.out CC.out.1 CC.out.2)
         go_wp2_with (first | (go_at_fn 162;refine HCC1.out.mono ?_;rintro e w3 ⟨rfl,h3⟩;have HT3:=Hush.mk h3;clear h3))
         all_goals go_end0
         all_goals exact ⟨rfl,HT3.out⟩
        ·by_cases ccx:mid < nd
         ·have cc1:(mid:Int) < (nd:Int):=by omega
          have cc2:¬ (nd:Int) < (b:Int):=by omega
          have CA:=Hush.mk ca
          have CB:=Hush.mk cb
          have CC:=Hush.mk cc
          clear ca cb cc hlv hhv hlohi hhim hhimid hlob
          have HT1:=Hush.mk (HA0.out wr HT0.out CA.out)
          have HT2:=Hush.mk (HB0.out wr HT1.out CB.out);have HT3:=Hush.mk (HC0.out wr HT2.out CC.out)
          go_wp2
          all_goals go_end0
          all_goals exact ⟨rfl,HT3.out⟩
         ·have cc1:¬ (mid:Int) < (nd:Int):=by omega
          have CA:=Hush.mk ca
          have CB:=Hush.mk cb
          have CC:=Hush.mk cc
          clear ca cb cc hlv hhv hlohi hhim hhimid hlob
          have HT1:=Hush.mk (HA0.out wr HT0.out CA.out)
          have HT2:=Hush.mk (HB0.out wr HT1.out CB.out);have HT3:=Hush.mk (HC0.out wr HT2.out CC.out)
          go_wp2
          all_goals go_end0
          all_goals exact ⟨rfl,HT3.out⟩
     ·have ca1:¬ (s:Int) < (m:Int):=by omega
      by_cases cb:a < s ∧ s < mid
      ·have cb1:(a:Int) < (s:Int):=by omega
       have cb2:(s:Int) < (mid:Int):=by omega
       by_cases cc:mid < nd ∧ nd < b
       ·have cc1:(mid:Int) < (nd:Int):=by omega
        have cc2:(nd:Int) < (b:Int):=by omega
        have CA:=Hush.mk ca
        have CB:=Hush.mk cb
        have CC:=Hush.mk cc
        clear ca cb cc hlv hhv hlohi hhim hhimid hlob
        have HT1:=Hush.mk (HA0.out wr HT0.out CA.out)
        have HCB:=Hush.mk (HB1.out wr HT1.out CB.out.1 CB.out.2)
        go_wp2_with (first | (go_at_fn 162;refine HCB.out.mono ?_;rintro e w2 ⟨rfl,h2⟩;have HT2:=Hush.mk h2;clear h2;have HCC1:=Hush.mk (HC1.out w2 HT2.out CC.out.1 CC.out.2)) | (go_at_fn 162;refine HCC1.out.mono ?_;rintro e w3 ⟨rfl,h3⟩;have HT3:=Hush.mk h3;clear h3))
        all_goals go_end0
        all_goals exact ⟨rfl,HT3.out⟩
       ·by_cases ccx:mid < nd
        ·have cc1:(mid:Int) < (nd:Int):=by omega
         have cc2:¬ (nd:Int) < (b:Int):=by omega
         have CA:=Hush.mk ca
         have CB:=Hush.mk cb
         have CC:=Hush.mk cc
         clear ca cb cc hlv hhv hlohi hhim hhimid hlob
         have HT1:=Hush.mk (HA0.out wr HT0.out CA.out)
         have HCB:=Hush.mk (HB1.out wr HT1.out CB.out.1 CB.out.2)
         go_wp2_with (first | (go_at_fn 162;refine HCB.out.mono ?_;rintro e w2 ⟨rfl,h2⟩;have HT2:=Hush.mk h2;clear h2;have HT3:=Hush.mk (HC0.out w2 HT2.out CC.out)))
         all_goals go_end0
         all_goals exact ⟨rfl,HT3.out⟩
        ·have cc1:¬ (mid:Int) < (nd:Int):=by omega
         have CA:=Hush.mk ca
         have CB:=Hush.mk cb
         have CC:=Hush.mk cc
         clear ca cb cc hlv hhv hlohi hhim hhimid hlob
         have HT1:=Hush.mk (HA0.out wr HT0.out CA.out)
         have HCB:=Hush.mk (HB1.out wr HT1.out CB.out.1 CB.out.2)
         go_wp2_with (first | (go_at_fn 162;refine HCB.out.mono ?_;rintro e w2 ⟨rfl,h2⟩;have HT2:=Hush.mk h2;clear h2;have HT3:=Hush.mk (HC0.out w2 HT2.out CC.out)))
         all_goals go_end0
         all_goals exact ⟨rfl,HT3.out⟩
      ·by_cases cbx:a < s
       ·have cb1:(a:Int) < (s:Int):=by omega
        have cb2:¬ (s:Int) < (mid:Int):=by omega
        by_cases cc:mid < nd ∧ nd < b
        ·have cc1:(mid:Int) < (nd:Int):=by omega
         have cc2:(nd:Int) < (b:Int):=by omega
         have CA:=Hush.mk ca
         have CB:=Hush.mk cb
         have CC:=Hush.mk cc
         clear ca cb cc hlv hhv hlohi hhim hhimid hlob
         have HT1:=Hush.mk (HA0.out wr HT0.out CA.out)
         have HT2:=Hush.mk (HB0.out wr HT1.out CB.out);have HCC1:=Hush.mk (HC1.out wr HT2.out CC.out.1 CC.out.2)
         go_wp2_with (first | (go_at_fn 162;refine HCC1.out.mono ?_;rintro e w3 ⟨rfl,h3⟩;have HT3:=Hush.mk h3;clear h3))
         all_goals go_end0
         all_goals exact ⟨rfl,HT3.out⟩
        ·by_cases ccx:mid < nd
         ·have cc1:(mid:Int) < (nd:Int):=by omega
          have cc2:¬ (nd:Int) < (b:Int):=by omega
          have CA:=Hush.mk ca
          have CB:=Hush.mk cb
          have CC:=Hush.mk cc
          clear ca cb cc hlv hhv hlohi hhim hhimid hlob
          have HT1:=Hush.mk (HA0.out wr HT0.out CA.out)
          have HT2:=Hush.mk (HB0.out wr HT1.out CB.out);have HT3:=Hush.mk (HC0.out wr HT2.out CC.out)
          go_wp2
          all_goals go_end0
          all_goals exact ⟨rfl,HT3.out⟩
         ·have cc1:¬ (mid:Int) < (nd:Int):=by omega
          have CA:=Hush.mk ca
          have CB:=Hush.mk cb
          have CC:=Hush.mk cc
          clear ca cb cc hlv hhv hlohi hhim hhimid hlob
          have HT1:=Hush.mk (HA0.out wr HT0.out CA.out)
          have HT2:=Hush.mk (HB0.out wr HT1.out CB.out);have HT3:=Hush.mk (HC0.out wr HT2.out CC.out)
          go_wp2
          all_goals go_end0
          all_goals exact ⟨rfl,HT3.out⟩
       ·have cb1:¬ (a:Int) < (s:Int):=by omega
        by_cases cc:mid < nd ∧ nd < b
        ·have cc1:(mid:Int) < (nd:Int):=by omega
         have cc2:(nd:Int) < (b:Int):=by omega
         have CA:=Hush.mk ca
         have CB:=Hush.mk cb
         have CC:=Hush.mk cc
         clear ca cb cc hlv hhv hlohi hhim hhimid hlob
         have HT1:=Hush.mk (HA0.out wr HT0.out CA.out)
         have HT2:=Hush.mk (HB0.out wr HT1.out CB.out);have HCC1:=Hush.mk (HC1.out wr HT2.out CC.out.1 CC.out.2)
         go_wp2_with (first | (go_at_fn 162;refine HCC1.out.mono ?_;rintro e w3 ⟨rfl,h3⟩;have HT3:=Hush.mk h3;clear h3))
         all_goals go_end0
         all_goals exact ⟨rfl,HT3.out⟩
        ·by_cases ccx:mid < nd
         ·have cc1:(mid:Int) < (nd:Int):=by omega
          have cc2:¬ (nd:Int) < (b:Int):=by omega
          have CA:=Hush.mk ca
          have CB:=Hush.mk cb
          have CC:=Hush.mk cc
          clear ca cb cc hlv hhv hlohi hhim hhimid hlob
          have HT1:=Hush.mk (HA0.out wr HT0.out CA.out)
          have HT2:=Hush.mk (HB0.out wr HT1.out CB.out);have HT3:=Hush.mk (HC0.out wr HT2.out CC.out)
          go_wp2
          all_goals go_end0
          all_goals exact ⟨rfl,HT3.out⟩
         ·have cc1:¬ (mid:Int) < (nd:Int):=by omega
          have CA:=Hush.mk ca
          have CB:=Hush.mk cb
          have CC:=Hush.mk cc
          clear ca cb cc hlv hhv hlohi hhim hhimid hlob
          have HT1:=Hush.mk (HA0.out wr HT0.out CA.out)
          have HT2:=Hush.mk (HB0.out wr HT1.out CB.out);have HT3:=Hush.mk (HC0.out wr HT2.out CC.out)
          go_wp2
          all_goals go_end0
          all_goals exact ⟨rfl,HT3.out⟩
 ·have hwz:¬ (mid:Int) < (m:Int):=by omega
  have HV:Hush ((mid < m ∧ lo + b = mid + m ∧ hi = mid) ∨ (m ≤ mid ∧ lo = a ∧ hi = m)):=⟨.inr ⟨hway,hlv,hhv⟩⟩
  clear hway
  go_enter f162,Tryd.ntmps162
  go_wp2
  go_loopw [20,21] (fun iv jv wr=>∃ s r:Nat,iv = .int .i64 s ∧ jv = .int .i64 r ∧ lo ≤ s ∧ s ≤ r ∧ r ≤ hi ∧ Hush (symJ (ltOf cf) enc k w blk off d (mid + m) lo hi s r wr)) (fun iv jv _=>(intOf jv).toNat - (intOf iv).toNat)
  case atStart=>exact ⟨lo,hi,by go_num,by go_num,by omega,by omega,by omega,⟨Row.refl HH.out,.inl rfl,.inl rfl⟩⟩
  case round=>
   obtain ⟨s,r,rfl,rfl,hs0,hsr,hr0,HJ⟩:=hrel
   by_cases hlt:s < r
   ·have hltz:(s:Int) < (r:Int):=by omega
    obtain ⟨c,hc⟩:∃ c:Nat,c = (s + r) / 2:=⟨_,rfl⟩
    have hcz:((s:Int) + (r:Int)) / 2 = (c:Int):=by omega
    have hsc:s ≤ c:=by omega
    have hcr:c < r:=by omega
    clear hc
    obtain ⟨q,hq⟩:∃ q:Nat,q + c + 1 = mid + m:=⟨mid + m - 1 - c,by omega⟩
    have hqz:(mid:Int) + (m:Int) - 1 - (c:Int) = (q:Int):=by omega
    have hqw:IntKind.i64.wrap ((mid:Int) + (m:Int) - 1 - (c:Int)) = (q:Int):=by rw [hqz];exact IntWalk.i64_in _ (by omega)
    have hqw1:IntKind.i64.wrap (q:Int) = (q:Int):=IntWalk.i64_in _ (by omega)
    have hqb:(q:Int) < (d.size:Int):=by omega
    have hcb:(c:Int) < (d.size:Int):=by omega
    have hcw:IntKind.i64.wrap (c:Int) = (c:Int):=IntWalk.i64_in _ (by omega)
    have lc:=row_load_grown P HK.out HH.out hblk HJ.out.1 rfl c (by omega)
    have lq:=row_load_grown P HK.out HH.out hblk HJ.out.1 rfl q (by omega)
    obtain ⟨rr,hr⟩:∃ rr,rr = cf d[q]! d[c]!:=⟨_,rfl⟩
    have HCC:Hush (∀ W,Calls P g #[.agg (enc d[q]!).toArray,.agg (enc d[c]!).toArray] W fun e w'=>e = .returned (.int .i64 rr) ∧ Grown W w'):=⟨by rw [hr];exact HC.out d[q]! d[c]!⟩
    have HN:Hush (∀ wr',Grown wr wr' → (rr < 0 → symJ (ltOf cf) enc k w blk off d (mid + m) lo hi s c wr') ∧ (¬ rr < 0 → symJ (ltOf cf) enc k w blk off d (mid + m) lo hi (c + 1) r wr')):=⟨fun wr' hg=>by
     obtain ⟨hrow,h1,h2⟩:=HJ.out
     refine ⟨fun hneg=>⟨hrow.grown hg,h1,.inr ?_⟩,fun hneg=>⟨hrow.grown hg,.inr ?_,h2⟩⟩
     ·rw [show mid + m - 1 - c = q by omega]
      unfold ltOf;rw [← hr];exact decide_eq_true hneg
     ·rw [show mid + m - (c + 1) = q by omega,show c + 1 - 1 = c by omega]
      unfold ltOf;rw [← hr];exact decide_eq_false hneg⟩
    clear HJ hr hq
    obtain ⟨x,hx⟩:∃ x,x = enc d[c]!:=⟨_,rfl⟩
    obtain ⟨y,hy⟩:∃ y,y = enc d[q]!:=⟨_,rfl⟩
    rw [← hx] at lc HCC
    rw [← hy] at lq HCC
    have hlx:x.length = k:=by rw [hx];exact HK.out _
    have hly:y.length = k:=by rw [hy];exact HK.out _
    clear hx hy
    by_cases hneg:rr < 0
    ·have hd:decide (rr < 0) = true:=decide_eq_true hneg
     go_wp2_with fail
     refine wp_region_quiet_grown mixed (by kernel_rfl) ?_
     repeat (go_big_quiet_step (first | (go_at_fn g;exact Calls.grown_of (HCC.out _))))
     refine wpQuiet_nil ?_
     intro _ hw'
     obtain ⟨⟨nq,osq⟩,hw''⟩:=hw'
     subst hw''
     have HN2:=Hush.mk (HN.out _ ((Grown.refl wr).grow nq osq))
     clear lc lq HN
     go_wp2
     go_roundw
     case rel=>exact ⟨s,c,by go_num,by go_num,by omega,by omega,by omega,⟨HN2.out.1 hneg⟩⟩
     case measure=>simp [intOf];omega
    ·have hd:decide (rr < 0) = false:=decide_eq_false hneg
     go_wp2_with fail
     refine wp_region_quiet_grown mixed (by kernel_rfl) ?_
     repeat (go_big_quiet_step (first | (go_at_fn g;exact Calls.grown_of (HCC.out _))))
     refine wpQuiet_nil ?_
     intro _ hw'
     obtain ⟨⟨nq,osq⟩,hw''⟩:=hw'
     subst hw''
     have HN2:=Hush.mk (HN.out _ ((Grown.refl wr).grow nq osq))
     clear lc lq HN
     go_wp2
     go_roundw
     case rel=>exact ⟨c + 1,r,by go_num,by go_num,by omega,by omega,by omega,⟨HN2.out.2 hneg⟩⟩
     case measure=>simp [intOf];omega
   ·obtain rfl:s = r:=by omega
    have HT0:Hush (symT0 (ltOf cf) enc k w blk off a m b mid s d wr):=⟨by
     have hv:=HV.out
     obtain ⟨hrow,h1,h2⟩:=HJ.out
     refine ⟨hrow,fun h3 h4=>?_,fun h3 h4=>?_⟩
     ·rcases h1 with h1 | h1
      ·omega
      ·exact h1
     ·rcases h2 with h2 | h2
      ·omega
      ·rw [show mid + m - s - 1 = mid + m - 1 - s by omega];exact h2⟩
    clear HJ HC hlt
    obtain ⟨nd,hnd⟩:∃ nd:Nat,nd + s = mid + m:=⟨mid + m - s,by omega⟩
    have hndz:(mid:Int) + (m:Int) - (s:Int) = (nd:Int):=by omega
    have hndw:IntKind.i64.wrap (nd:Int) = (nd:Int):=IntWalk.i64_in _ (by omega)
    have HND:Hush (nd = mid + m - s):=⟨by omega⟩
    have hnm:m ≤ nd:=by omega
    have hnb:nd ≤ b:=by omega
    have hsa:a ≤ s:=by omega
    have hsm:s ≤ m:=by omega
    have hsmid:s ≤ mid:=by omega
    have HA1:Hush (∀ wr:World,symT0 (ltOf cf) enc k w blk off a m b mid s d wr → s < m → m < nd → Calls P 184 #[.slice (some ⟨blk,off,none⟩) d.size cap,.int .i64 s,.int .i64 m,.int .i64 nd,.func (.func g) #[] #[]] wr fun e w'=>e = .returned (.tuple #[]) ∧ symT1 (ltOf cf) enc k w blk off a m b mid s d w'):=⟨fun wr h0 h1 h2=>by
     have hd:=Row.holds HH.out hblk h0.1 rfl
     refine (HROT.out s nd wr hd (Nat.lt_of_lt_of_le hblk h0.1.size) h1 h2 (by omega)).mono fun e w' ⟨he,ee,hr,hro,hp⟩=>⟨he,?_⟩
     rw [HND.out] at hro hp
     exact symT1_of HW.out hblk (by omega) (by omega) hb HMID.out hsa hsm (by omega) (by omega) HS1.out HS2.out h0 (Row.trans hblk h0.1 hr hp.1) hro hp⟩
    have HA0:Hush (∀ wr:World,symT0 (ltOf cf) enc k w blk off a m b mid s d wr → ¬ (s < m ∧ m < nd) → symT1 (ltOf cf) enc k w blk off a m b mid s d wr):=⟨fun wr h0 h1=>
     symT1_of HW.out hblk (by omega) (by omega) hb HMID.out hsa hsm (by omega) (by omega) HS1.out HS2.out h0 h0.1 (IsRot.triv (by omega) (by omega) (by omega)) (permIn_refl _ _ _)⟩
    have HB1:Hush (∀ wr:World,symT1 (ltOf cf) enc k w blk off a m b mid s d wr → a < s → s < mid → Calls P 162 #[.slice (some ⟨blk,off,none⟩) d.size cap,.int .i64 a,.int .i64 s,.int .i64 mid,.func (.func g) #[] #[]] wr fun e w'=>e = .returned (.tuple #[]) ∧ symT2 (ltOf cf) enc k w blk off a m b mid s d w'):=⟨fun wr ⟨e,hr,hse,hp,g1,g2,g3,g4,g5⟩ h1 h2=>by
     have hd:=Row.holds HH.out hblk hr hse
     refine (HIH.out a s mid e wr hd (Nat.lt_of_lt_of_le hblk hr.size) h1 h2 (by omega) hse (by omega) g1 g2).mono fun en w' ⟨he,f,hrf,hpf,hsf⟩=>⟨he,?_⟩
     have hh:=left_half (lt:=ltOf cf) (by omega) (by omega) (by omega) g5 hpf (mid + m - s) (by omega) g3 g4
     exact ⟨f,Row.trans hblk hr hrf hpf.1,hpf.1.trans hse,permIn_trans _ _ _ _ _ hp (permIn_mono _ _ _ _ _ _ (Nat.le_refl _) (by omega) (by omega) hpf),hsf,hh.1,hh.2.1,hh.2.2⟩⟩
    have HB0:Hush (∀ wr:World,symT1 (ltOf cf) enc k w blk off a m b mid s d wr → ¬ (a < s ∧ s < mid) → symT2 (ltOf cf) enc k w blk off a m b mid s d wr):=⟨fun wr ⟨e,hr,hse,hp,g1,g2,g3,g4,g5⟩ h1=>
     ⟨e,hr,hse,hp,by
      by_cases c:s = a
      ·rw [c] at g2;exact g2
      ·have:s = mid:=by omega
       rw [this] at g1;exact g1,g3,g4,g5⟩⟩
    have HC1:Hush (∀ wr:World,symT2 (ltOf cf) enc k w blk off a m b mid s d wr → mid < nd → nd < b → Calls P 162 #[.slice (some ⟨blk,off,none⟩) d.size cap,.int .i64 mid,.int .i64 nd,.int .i64 b,.func (.func g) #[] #[]] wr fun e w'=>e = .returned (.tuple #[]) ∧ symDone (ltOf cf) enc k w blk off a b d w'):=⟨fun wr ⟨e,hr,hse,hp,g1,g3,g4,g5⟩ h1 h2=>by
     have hd:=Row.holds HH.out hblk hr hse
     rw [← HND.out] at g3 g4
     refine (HIH.out mid nd b e wr hd (Nat.lt_of_lt_of_le hblk hr.size) h1 h2 (by omega) hse (by omega) g3 g4).mono fun en w' ⟨he,f,hrf,hpf,hsf⟩=>⟨he,?_⟩
     exact ⟨f,Row.trans hblk hr hrf hpf.1,permIn_trans _ _ _ _ _ hp (permIn_mono _ _ _ _ _ _ (by omega) (Nat.le_refl _) (by omega) hpf),right_half (by omega) (by omega) (by omega) g5 hpf g1 hsf⟩⟩
    have HC0:Hush (∀ wr:World,symT2 (ltOf cf) enc k w blk off a m b mid s d wr → ¬ (mid < nd ∧ nd < b) → symDone (ltOf cf) enc k w blk off a b d wr):=⟨fun wr ⟨e,hr,hse,hp,g1,g3,g4,g5⟩ h1=>by
     rw [← HND.out] at g3 g4
     refine ⟨e,hr,hp,right_half (mid:=mid) (by omega) (by omega) (by omega) g5 (permIn_refl _ _ _) g1 ?_⟩
     by_cases c:nd = mid
     ·rw [c] at g4;exact g4
     ·have:nd = b:=by omega
      rw [this] at g3;exact g3⟩
    clear HROT HIH HV HND hnd
    by_cases ca:s < m ∧ m < nd
    ·have ca1:(s:Int) < (m:Int):=by omega
     have ca2:(m:Int) < (nd:Int):=by omega
     by_cases cb:a < s ∧ s < mid
     ·have cb1:(a:Int) < (s:Int):=by omega
      have cb2:(s:Int) < (mid:Int):=by omega
      by_cases cc:mid < nd ∧ nd < b
      ·have cc1:(mid:Int) < (nd:Int):=by omega
       have cc2:(nd:Int) < (b:Int):=by omega
       have CA:=Hush.mk ca
       have CB:=Hush.mk cb
       have CC:=Hush.mk cc
       clear ca cb cc hlv hhv hlohi hhim hhimid hlob
       have HCA:=Hush.mk (HA1.out wr HT0.out CA.out.1 CA.out.2)
       go_wp2_with (first | (go_at_fn 184;refine HCA.out.mono ?_;rintro e w1 ⟨rfl,h1⟩;have HT1:=Hush.mk h1;clear h1;have HCB:=Hush.mk (HB1.out w1 HT1.out CB.out.1 CB.out.2)) | (go_at_fn 162;refine HCB.out.mono ?_;rintro e w2 ⟨rfl,h2⟩;have HT2:=Hush.mk h2;clear h2;have HCC1:=Hush.mk (HC1.out w2 HT2.out CC.out.1 CC.out.2)) | (go_at_fn 162;refine HCC1.out.mono ?_;rintro e w3 ⟨rfl,h3⟩;have HT3:=Hush.mk h3;clear h3))
       all_goals go_end0
       all_goals exact ⟨rfl,HT3.out⟩
      ·by_cases ccx:mid < nd
       ·have cc1:(mid:Int) < (nd:Int):=by omega
        have cc2:¬ (nd:Int) < (b:Int):=by omega
        have CA:=Hush.mk ca
        have CB:=Hush.mk cb
        have CC:=Hush.mk cc
        clear ca cb cc hlv hhv hlohi hhim hhimid hlob
        have HCA:=Hush.mk (HA1.out wr HT0.out CA.out.1 CA.out.2)
        go_wp2_with (first | (go_at_fn 184;refine HCA.out.mono ?_;rintro e w1 ⟨rfl,h1⟩;have HT1:=Hush.mk h1;clear h1;have HCB:=Hush.mk (HB1.out w1 HT1.out CB.out.1 CB.out.2)) | (go_at_fn 162;refine HCB.out.mono ?_;rintro e w2 ⟨rfl,h2⟩;have HT2:=Hush.mk h2;clear h2;have HT3:=Hush.mk (HC0.out w2 HT2.out CC.out)))
        all_goals go_end0
        all_goals exact ⟨rfl,HT3.out⟩
       ·have cc1:¬ (mid:Int) < (nd:Int):=by omega
        have CA:=Hush.mk ca
        have CB:=Hush.mk cb
        have CC:=Hush.mk cc
        clear ca cb cc hlv hhv hlohi hhim hhimid hlob
        have HCA:=Hush.mk (HA1.out wr HT0.out CA.out.1 CA.out.2)
        go_wp2_with (first | (go_at_fn 184;refine HCA.out.mono ?_;rintro e w1 ⟨rfl,h1⟩;have HT1:=Hush.mk h1;clear h1;have HCB:=Hush.mk (HB1.out w1 HT1.out CB.out.1 CB.out.2)) | (go_at_fn 162;refine HCB.out.mono ?_;rintro e w2 ⟨rfl,h2⟩;have HT2:=Hush.mk h2;clear h2;have HT3:=Hush.mk (HC0.out w2 HT2.out CC.out)))
        all_goals go_end0
        all_goals exact ⟨rfl,HT3.out⟩
     ·by_cases cbx:a < s
      ·have cb1:(a:Int) < (s:Int):=by omega
       have cb2:¬ (s:Int) < (mid:Int):=by omega
       by_cases cc:mid < nd ∧ nd < b
       ·have cc1:(mid:Int) < (nd:Int):=by omega
        have cc2:(nd:Int) < (b:Int):=by omega
        have CA:=Hush.mk ca
        have CB:=Hush.mk cb
        have CC:=Hush.mk cc
        clear ca cb cc hlv hhv hlohi hhim hhimid hlob
        have HCA:=Hush.mk (HA1.out wr HT0.out CA.out.1 CA.out.2)
        go_wp2_with (first | (go_at_fn 184;refine HCA.out.mono ?_;rintro e w1 ⟨rfl,h1⟩;have HT1:=Hush.mk h1;clear h1;have HT2:=Hush.mk (HB0.out w1 HT1.out CB.out);have HCC1:=Hush.mk (HC1.out w1 HT2.out CC.out.1 CC.out.2)) | (go_at_fn 162;refine HCC1.out.mono ?_;rintro e w3 ⟨rfl,h3⟩;have HT3:=Hush.mk h3;clear h3))
        all_goals go_end0
        all_goals exact ⟨rfl,HT3.out⟩
       ·by_cases ccx:mid < nd
        ·have cc1:(mid:Int) < (nd:Int):=by omega
         have cc2:¬ (nd:Int) < (b:Int):=by omega
         have CA:=Hush.mk ca
         have CB:=Hush.mk cb
         have CC:=Hush.mk cc
         clear ca cb cc hlv hhv hlohi hhim hhimid hlob
         have HCA:=Hush.mk (HA1.out wr HT0.out CA.out.1 CA.out.2)
         go_wp2_with (first | (go_at_fn 184;refine HCA.out.mono ?_;rintro e w1 ⟨rfl,h1⟩;have HT1:=Hush.mk h1;clear h1;have HT2:=Hush.mk (HB0.out w1 HT1.out CB.out);have HT3:=Hush.mk (HC0.out w1 HT2.out CC.out)))
         all_goals go_end0
         all_goals exact ⟨rfl,HT3.out⟩
        ·have cc1:¬ (mid:Int) < (nd:Int):=by omega
         have CA:=Hush.mk ca
         have CB:=Hush.mk cb
         have CC:=Hush.mk cc
         clear ca cb cc hlv hhv hlohi hhim hhimid hlob
         have HCA:=Hush.mk (HA1.out wr HT0.out CA.out.1 CA.out.2)
         go_wp2_with (first | (go_at_fn 184;refine HCA.out.mono ?_;rintro e w1 ⟨rfl,h1⟩;have HT1:=Hush.mk h1;clear h1;have HT2:=Hush.mk (HB0.out w1 HT1.out CB.out);have HT3:=Hush.mk (HC0.out w1 HT2.out CC.out)))
         all_goals go_end0
         all_goals exact ⟨rfl,HT3.out⟩
      ·have cb1:¬ (a:Int) < (s:Int):=by omega
       by_cases cc:mid < nd ∧ nd < b
       ·have cc1:(mid:Int) < (nd:Int):=by omega
        have cc2:(nd:Int) < (b:Int):=by omega
        have CA:=Hush.mk ca
        have CB:=Hush.mk cb
        have CC:=Hush.mk cc
        clear ca cb cc hlv hhv hlohi hhim hhimid hlob
        have HCA:=Hush.mk (HA1.out wr HT0.out CA.out.1 CA.out.2)
        go_wp2_with (first | (go_at_fn 184;refine HCA.out.mono ?_;rintro e w1 ⟨rfl,h1⟩;have HT1:=Hush.mk h1;clear h1;have HT2:=Hush.mk (HB0.out w1 HT1.out CB.out);have HCC1:=Hush.mk (HC1.out w1 HT2.out CC.out.1 CC.out.2)) | (go_at_fn 162;refine HCC1.out.mono ?_;rintro e w3 ⟨rfl,h3⟩;have HT3:=Hush.mk h3;clear h3))
        all_goals go_end0
        all_goals exact ⟨rfl,HT3.out⟩
       ·by_cases ccx:mid < nd
        ·have cc1:(mid:Int) < (nd:Int):=by omega
         have cc2:¬ (nd:Int) < (b:Int):=by omega
         have CA:=Hush.mk ca
         have CB:=Hush.mk cb
         have CC:=Hush.mk cc
         clear ca cb cc hlv hhv hlohi hhim hhimid hlob
         have HCA:=Hush.mk (HA1.out wr HT0.out CA.out.1 CA.out.2)
         go_wp2_with (first | (go_at_fn 184;refine HCA.out.mono ?_;rintro e w1 ⟨rfl,h1⟩;have HT1:=Hush.mk h1;clear h1;have HT2:=Hush.mk (HB0.out w1 HT1.out CB.out);have HT3:=Hush.mk (HC0.out w1 HT2.out CC.out)))
         all_goals go_end0
         all_goals exact ⟨rfl,HT3.out⟩
        ·have cc1:¬ (mid:Int) < (nd:Int):=by omega
         have CA:=Hush.mk ca
         have CB:=Hush.mk cb
         have CC:=Hush.mk cc
         clear ca cb cc hlv hhv hlohi hhim hhimid hlob
         have HCA:=Hush.mk (HA1.out wr HT0.out CA.out.1 CA.out.2)
         go_wp2_with (first | (go_at_fn 184;refine HCA.out.mono ?_;rintro e w1 ⟨rfl,h1⟩;have HT1:=Hush.mk h1;clear h1;have HT2:=Hush.mk (HB0.out w1 HT1.out CB.out);have HT3:=Hush.mk (HC0.out w1 HT2.out CC.out)))
         all_goals go_end0
         all_goals exact ⟨rfl,HT3.out⟩
    ·by_cases cax:s < m
     ·have ca1:(s:Int) < (m:Int):=by omega
      have ca2:¬ (m:Int) < (nd:Int):=by omega
      by_cases cb:a < s ∧ s < mid
      ·have cb1:(a:Int) < (s:Int):=by omega
       have cb2:(s:Int) < (mid:Int):=by omega
       by_cases cc:mid < nd ∧ nd < b
       ·have cc1:(mid:Int) < (nd:Int):=by omega
        have cc2:(nd:Int) < (b:Int):=by omega
        have CA:=Hush.mk ca
        have CB:=Hush.mk cb
        have CC:=Hush.mk cc
        clear ca cb cc hlv hhv hlohi hhim hhimid hlob
        have HT1:=Hush.mk (HA0.out wr HT0.out CA.out)
        have HCB:=Hush.mk (HB1.out wr HT1.out CB.out.1 CB.out.2)
        go_wp2_with (first | (go_at_fn 162;refine HCB.out.mono ?_;rintro e w2 ⟨rfl,h2⟩;have HT2:=Hush.mk h2;clear h2;have HCC1:=Hush.mk (HC1.out w2 HT2.out CC.out.1 CC.out.2)) | (go_at_fn 162;refine HCC1.out.mono ?_;rintro e w3 ⟨rfl,h3⟩;have HT3:=Hush.mk h3;clear h3))
        all_goals go_end0
        all_goals exact ⟨rfl,HT3.out⟩
       ·by_cases ccx:mid < nd
        ·have cc1:(mid:Int) < (nd:Int):=by omega
         have cc2:¬ (nd:Int) < (b:Int):=by omega
         have CA:=Hush.mk ca
         have CB:=Hush.mk cb
         have CC:=Hush.mk cc
         clear ca cb cc hlv hhv hlohi hhim hhimid hlob
         have HT1:=Hush.mk (HA0.out wr HT0.out CA.out)
         have HCB:=Hush.mk (HB1.out wr HT1.out CB.out.1 CB.out.2)
         go_wp2_with (first | (go_at_fn 162;refine HCB.out.mono ?_;rintro e w2 ⟨rfl,h2⟩;have HT2:=Hush.mk h2;clear h2;have HT3:=Hush.mk (HC0.out w2 HT2.out CC.out)))
         all_goals go_end0
         all_goals exact ⟨rfl,HT3.out⟩
        ·have cc1:¬ (mid:Int) < (nd:Int):=by omega
         have CA:=Hush.mk ca
         have CB:=Hush.mk cb
         have CC:=Hush.mk cc
         clear ca cb cc hlv hhv hlohi hhim hhimid hlob
         have HT1:=Hush.mk (HA0.out wr HT0.out CA.out)
         have HCB:=Hush.mk (HB1.out wr HT1.out CB.out.1 CB.out.2)
         go_wp2_with (first | (go_at_fn 162;refine HCB.out.mono ?_;rintro e w2 ⟨rfl,h2⟩;have HT2:=Hush.mk h2;clear h2;have HT3:=Hush.mk (HC0.out w2 HT2.out CC.out)))
         all_goals go_end0
         all_goals exact ⟨rfl,HT3.out⟩
      ·by_cases cbx:a < s
       ·have cb1:(a:Int) < (s:Int):=by omega
        have cb2:¬ (s:Int) < (mid:Int):=by omega
        by_cases cc:mid < nd ∧ nd < b
        ·have cc1:(mid:Int) < (nd:Int):=by omega
         have cc2:(nd:Int) < (b:Int):=by omega
         have CA:=Hush.mk ca
         have CB:=Hush.mk cb
         have CC:=Hush.mk cc
         clear ca cb cc hlv hhv hlohi hhim hhimid hlob
         have HT1:=Hush.mk (HA0.out wr HT0.out CA.out)
         have HT2:=Hush.mk (HB0.out wr HT1.out CB.out);have HCC1:=Hush.mk (HC1.out wr HT2.out CC.out.1 CC.out.2)
         go_wp2_with (first | (go_at_fn 162;refine HCC1.out.mono ?_;rintro e w3 ⟨rfl,h3⟩;have HT3:=Hush.mk h3;clear h3))
         all_goals go_end0
         all_goals exact ⟨rfl,HT3.out⟩
        ·by_cases ccx:mid < nd
         ·have cc1:(mid:Int) < (nd:Int):=by omega
          have cc2:¬ (nd:Int) < (b:Int):=by omega
          have CA:=Hush.mk ca
          have CB:=Hush.mk cb
          have CC:=Hush.mk cc
          clear ca cb cc hlv hhv hlohi hhim hhimid hlob
          have HT1:=Hush.mk (HA0.out wr HT0.out CA.out)
          have HT2:=Hush.mk (HB0.out wr HT1.out CB.out);have HT3:=Hush.mk (HC0.out wr HT2.out CC.out)
          go_wp2
          all_goals go_end0
          all_goals exact ⟨rfl,HT3.out⟩
         ·have cc1:¬ (mid:Int) < (nd:Int):=by omega
          have CA:=Hush.mk ca
          have CB:=Hush.mk cb
          have CC:=Hush.mk cc
          clear ca cb cc hlv hhv hlohi hhim hhimid hlob
          have HT1:=Hush.mk (HA0.out wr HT0.out CA.out)
          have HT2:=Hush.mk (HB0.out wr HT1.out CB.out);have HT3:=Hush.mk (HC0.out wr HT2.out CC.out)
          go_wp2
          all_goals go_end0
          all_goals exact ⟨rfl,HT3.out⟩
       ·have cb1:¬ (a:Int) < (s:Int):=by omega
        by_cases cc:mid < nd ∧ nd < b
        ·have cc1:(mid:Int) < (nd:Int):=by omega
         have cc2:(nd:Int) < (b:Int):=by omega
         have CA:=Hush.mk ca
         have CB:=Hush.mk cb
         have CC:=Hush.mk cc
         clear ca cb cc hlv hhv hlohi hhim hhimid hlob
         have HT1:=Hush.mk (HA0.out wr HT0.out CA.out)
         have HT2:=Hush.mk (HB0.out wr HT1.out CB.out);have HCC1:=Hush.mk (HC1.out wr HT2.out CC.out.1 CC.out.2)
         go_wp2_with (first | (go_at_fn 162;refine HCC1.out.mono ?_;rintro e w3 ⟨rfl,h3⟩;have HT3:=Hush.mk h3;clear h3))
         all_goals go_end0
         all_goals exact ⟨rfl,HT3.out⟩
        ·by_cases ccx:mid < nd
         ·have cc1:(mid:Int) < (nd:Int):=by omega
          have cc2:¬ (nd:Int) < (b:Int):=by omega
          have CA:=Hush.mk ca
          have CB:=Hush.mk cb
          have CC:=Hush.mk cc
          clear ca cb cc hlv hhv hlohi hhim hhimid hlob
          have HT1:=Hush.mk (HA0.out wr HT0.out CA.out)
          have HT2:=Hush.mk (HB0.out wr HT1.out CB.out);have HT3:=Hush.mk (HC0.out wr HT2.out CC.out)
          go_wp2
          all_goals go_end0
          all_goals exact ⟨rfl,HT3.out⟩
         ·have cc1:¬ (mid:Int) < (nd:Int):=by omega
          have CA:=Hush.mk ca
          have CB:=Hush.mk cb
          have CC:=Hush.mk cc
          clear ca cb cc hlv hhv hlohi hhim hhimid hlob
          have HT1:=Hush.mk (HA0.out wr HT0.out CA.out)
          have HT2:=Hush.mk (HB0.out wr HT1.out CB.out);have HT3:=Hush.mk (HC0.out wr HT2.out CC.out)
          go_wp2
          all_goals go_end0
          all_goals exact ⟨rfl,HT3.out⟩
     ·have ca1:¬ (s:Int) < (m:Int):=by omega
      by_cases cb:a < s ∧ s < mid
      ·have cb1:(a:Int) < (s:Int):=by omega
       have cb2:(s:Int) < (mid:Int):=by omega
       by_cases cc:mid < nd ∧ nd < b
       ·have cc1:(mid:Int) < (nd:Int):=by omega
        have cc2:(nd:Int) < (b:Int):=by omega
        have CA:=Hush.mk ca
        have CB:=Hush.mk cb
        have CC:=Hush.mk cc
        clear ca cb cc hlv hhv hlohi hhim hhimid hlob
        have HT1:=Hush.mk (HA0.out wr HT0.out CA.out)
        have HCB:=Hush.mk (HB1.out wr HT1.out CB.out.1 CB.out.2)
        go_wp2_with (first | (go_at_fn 162;refine HCB.out.mono ?_;rintro e w2 ⟨rfl,h2⟩;have HT2:=Hush.mk h2;clear h2;have HCC1:=Hush.mk (HC1.out w2 HT2.out CC.out.1 CC.out.2)) | (go_at_fn 162;refine HCC1.out.mono ?_;rintro e w3 ⟨rfl,h3⟩;have HT3:=Hush.mk h3;clear h3))
        all_goals go_end0
        all_goals exact ⟨rfl,HT3.out⟩
       ·by_cases ccx:mid < nd
        ·have cc1:(mid:Int) < (nd:Int):=by omega
         have cc2:¬ (nd:Int) < (b:Int):=by omega
         have CA:=Hush.mk ca
         have CB:=Hush.mk cb
         have CC:=Hush.mk cc
         clear ca cb cc hlv hhv hlohi hhim hhimid hlob
         have HT1:=Hush.mk (HA0.out wr HT0.out CA.out)
         have HCB:=Hush.mk (HB1.out wr HT1.out CB.out.1 CB.out.2)
         go_wp2_with (first | (go_at_fn 162;refine HCB.out.mono ?_;rintro e w2 ⟨rfl,h2⟩;have HT2:=Hush.mk h2;clear h2;have HT3:=Hush.mk (HC0.out w2 HT2.out CC.out)))
         all_goals go_end0
         all_goals exact ⟨rfl,HT3.out⟩
        ·have cc1:¬ (mid:Int) < (nd:Int):=by omega
         have CA:=Hush.mk ca
         have CB:=Hush.mk cb
         have CC:=Hush.mk cc
         clear ca cb cc hlv hhv hlohi hhim hhimid hlob
         have HT1:=Hush.mk (HA0.out wr HT0.out CA.out)
         have HCB:=Hush.mk (HB1.out wr HT1.out CB.out.1 CB.out.2)
         go_wp2_with (first | (go_at_fn 162;refine HCB.out.mono ?_;rintro e w2 ⟨rfl,h2⟩;have HT2:=Hush.mk h2;clear h2;have HT3:=Hush.mk (HC0.out w2 HT2.out CC.out)))
         all_goals go_end0
         all_goals exact ⟨rfl,HT3.out⟩
      ·by_cases cbx:a < s
       ·have cb1:(a:Int) < (s:Int):=by omega
        have cb2:¬ (s:Int) < (mid:Int):=by omega
        by_cases cc:mid < nd ∧ nd < b
        ·have cc1:(mid:Int) < (nd:Int):=by omega
         have cc2:(nd:Int) < (b:Int):=by omega
         have CA:=Hush.mk ca
         have CB:=Hush.mk cb
         have CC:=Hush.mk cc
         clear ca cb cc hlv hhv hlohi hhim hhimid hlob
         have HT1:=Hush.mk (HA0.out wr HT0.out CA.out)
         have HT2:=Hush.mk (HB0.out wr HT1.out CB.out);have HCC1:=Hush.mk (HC1.out wr HT2.out CC.out.1 CC.out.2)
         go_wp2_with (first | (go_at_fn 162;refine HCC1.out.mono ?_;rintro e w3 ⟨rfl,h3⟩;have HT3:=Hush.mk h3;clear h3))
         all_goals go_end0
         all_goals exact ⟨rfl,HT3.out⟩
        ·by_cases ccx:mid < nd
         ·have cc1:(mid:Int) < (nd:Int):=by omega
          have cc2:¬ (nd:Int) < (b:Int):=by omega
          have CA:=Hush.mk ca
          have CB:=Hush.mk cb
          have CC:=Hush.mk cc
          clear ca cb cc hlv hhv hlohi hhim hhimid hlob
          have HT1:=Hush.mk (HA0.out wr HT0.out CA.out)
          have HT2:=Hush.mk (HB0.out wr HT1.out CB.out);have HT3:=Hush.mk (HC0.out wr HT2.out CC.out)
          go_wp2
          all_goals go_end0
          all_goals exact ⟨rfl,HT3.out⟩
         ·have cc1:¬ (mid:Int) < (nd:Int):=by omega
          have CA:=Hush.mk ca
          have CB:=Hush.mk cb
          have CC:=Hush.mk cc
          clear ca cb cc hlv hhv hlohi hhim hhimid hlob
          have HT1:=Hush.mk (HA0.out wr HT0.out CA.out)
          have HT2:=Hush.mk (HB0.out wr HT1.out CB.out);have HT3:=Hush.mk (HC0.out wr HT2.out CC.out)
          go_wp2
          all_goals go_end0
          all_goals exact ⟨rfl,HT3.out⟩
       ·have cb1:¬ (a:Int) < (s:Int):=by omega
        by_cases cc:mid < nd ∧ nd < b
        ·have cc1:(mid:Int) < (nd:Int):=by omega
         have cc2:(nd:Int) < (b:Int):=by omega
         have CA:=Hush.mk ca
         have CB:=Hush.mk cb
         have CC:=Hush.mk cc
         clear ca cb cc hlv hhv hlohi hhim hhimid hlob
         have HT1:=Hush.mk (HA0.out wr HT0.out CA.out)
         have HT2:=Hush.mk (HB0.out wr HT1.out CB.out);have HCC1:=Hush.mk (HC1.out wr HT2.out CC.out.1 CC.out.2)
         go_wp2_with (first | (go_at_fn 162;refine HCC1.out.mono ?_;rintro e w3 ⟨rfl,h3⟩;have HT3:=Hush.mk h3;clear h3))
         all_goals go_end0
         all_goals exact ⟨rfl,HT3.out⟩
        ·by_cases ccx:mid < nd
         ·have cc1:(mid:Int) < (nd:Int):=by omega
          have cc2:¬ (nd:Int) < (b:Int):=by omega
          have CA:=Hush.mk ca
          have CB:=Hush.mk cb
          have CC:=Hush.mk cc
          clear ca cb cc hlv hhv hlohi hhim hhimid hlob
          have HT1:=Hush.mk (HA0.out wr HT0.out CA.out)
          have HT2:=Hush.mk (HB0.out wr HT1.out CB.out);have HT3:=Hush.mk (HC0.out wr HT2.out CC.out)
          go_wp2
          all_goals go_end0
          all_goals exact ⟨rfl,HT3.out⟩
         ·have cc1:¬ (mid:Int) < (nd:Int):=by omega
          have CA:=Hush.mk ca
          have CB:=Hush.mk cb
          have CC:=Hush.mk cc
          clear ca cb cc hlv hhv hlohi hhim hhimid hlob
          have HT1:=Hush.mk (HA0.out wr HT0.out CA.out)
          have HT2:=Hush.mk (HB0.out wr HT1.out CB.out);have HT3:=Hush.mk (HC0.out wr HT2.out CC.out)
          go_wp2
          all_goals go_end0
          all_goals exact ⟨rfl,HT3.out⟩
theorem symMerge_on (L:SortP P k) (hk:∀ x,(enc x).length = k) (ho:∀ x,∀ v ∈ enc x,v.oneCell' = true) (cf:α → α → Int) (hS:SWO (ltOf cf)) (g:Nat) (eg:∀ args w,(callFunc g args).run P w = .ok (.enter g args) w) (hcmp:CmpAny P g enc cf)
  (blk off cap n:Nat) (hn:n < 4611686018427387904):∀ (N a m b:Nat) (d:Array α) (w:World),b - a ≤ N → HoldsK enc k w blk off d → blk < w.heap.size → a < m → m < b → b ≤ d.size → d.size = n → SortedIn (ltOf cf) a m d → SortedIn (ltOf cf) m b d →
  Calls P 162 #[.slice (some ⟨blk,off,none⟩) n cap,.int .i64 a,.int .i64 m,.int .i64 b,.func (.func g) #[] #[]] w fun e w'=>e = .returned (.tuple #[]) ∧ symDone (ltOf cf) enc k w blk off a b d w'
 | 0,a,m,b,d,w,h0,_,_,h1,h2,_,_,_,_=>by omega
 | N + 1,a,m,b,d,w,h0,hH,hblk,h1,h2,hb,hs,s1,s2=>by
  subst hs
  by_cases c1:m = a + 1
  ·subst c1
   exact symOne_on L hk ho cf hS g eg hcmp blk off cap a b d w hH hblk h2 hb hn s2
  ·by_cases c2:b = m + 1
   ·subst c2
    exact symLast_on L hk ho cf hS g eg hcmp blk off cap a m d w hH hblk (by omega) hb hn s1
   ·exact symMany_on L hk ho cf hS g eg hcmp blk off cap a m b d w hH hblk (by omega) (by omega) hb hn s1 s2 (fun a' m' b' d' wr g1 g2 g3 g4 g5 g6 g7 g8 g9=>symMerge_on L hk ho cf hS g eg hcmp blk off cap d.size hn N a' m' b' d' wr (by omega) g1 g2 g3 g4 g5 g6 g8 g9)
end Go.Proofs.YteilnbnnhocciaaDoor.V

/-! V8 -/
namespace Go.Proofs.YteilnbnnhocciaaDoor.V
open Go.Proofs Go.RowKit Go.BigFrame Go.Lib Go.Sort Go.Proofs.YteilnbnnhocciaaDoorM Go.Proofs.YteilnbnnhocciaaDoor.S
variable {P:Program} {k:Nat} {α:Type} [Inhabited α] {enc:α → List Value} {lt:α → α → Bool}
theorem sortedIn_other {a b x y:Nat} {d e:Array α} (pe:PermIn a b d e) (h:SortedIn lt x y d) (hxy:y ≤ a ∨ b ≤ x):SortedIn lt x y e:=
 fun p q h1 h2 h3=>by rw [pe.2.1 p (by omega),pe.2.1 q (by omega)];exact h p q h1 h2 h3
def Blocks (lt:α → α → Bool) (bs lo n:Nat) (e:Array α):Prop:=∀ q,lo ≤ q → SortedIn lt (bs * q) (min (bs * q + bs) n) e
def stJ1 (lt:α → α → Bool) (enc:α → List Value) (k:Nat) (w:World) (blk off n:Nat) (d:Array α) (A:Nat) (wr:World):Prop:=
 ∃ c,A = 20 * c ∧ ∃ e:Array α,Row enc k w blk off e wr ∧ e.size = n ∧ PermIn 0 n d e ∧ ∀ q,q < c → SortedIn lt (20 * q) (20 * q + 20) e
def stJ (lt:α → α → Bool) (enc:α → List Value) (k:Nat) (w:World) (blk off n:Nat) (d:Array α) (bs:Nat) (wr:World):Prop:=
 ∃ e:Array α,Row enc k w blk off e wr ∧ e.size = n ∧ PermIn 0 n d e ∧ Blocks lt bs 0 n e
def stJ2 (lt:α → α → Bool) (enc:α → List Value) (k:Nat) (w:World) (blk off n:Nat) (d:Array α) (bs A:Nat) (wr:World):Prop:=
 ∃ c,A = 2 * bs * c ∧ ∃ e:Array α,Row enc k w blk off e wr ∧ e.size = n ∧ PermIn 0 n d e ∧ (∀ q,q < c → SortedIn lt (2 * bs * q) (2 * bs * q + 2 * bs) e) ∧ Blocks lt bs (2 * c) n e
section
variable {w w1 w2:World} {blk off n:Nat} {d:Array α}
theorem stJ1_next (hblk:blk < w.heap.size) {A:Nat} (hA:A + 20 ≤ n) {c:Nat} (hc:A = 20 * c) {e f:Array α} (hr:Row enc k w blk off e w1) (hs:e.size = n) (hp:PermIn 0 n d e) (hb:∀ q,q < c → SortedIn lt (20 * q) (20 * q + 20) e)
  (hrf:Row enc k w1 blk off f w2) (pf:PermIn A (A + 20) e f) (sf:SortedIn lt A (A + 20) f):stJ1 lt enc k w blk off n d (A + 20) w2:=by
 refine ⟨c + 1,by omega,f,Row.trans hblk hr hrf pf.1,pf.1.trans hs,permIn_trans _ _ _ _ _ hp (permIn_mono _ _ _ _ _ _ (Nat.zero_le _) hA (by omega) pf),fun q hq=>?_⟩
 by_cases h:q = c
 ·subst h;rw [← hc];exact sf
 ·exact sortedIn_other pf (hb q (by omega)) (by omega)
theorem stJ1_end (hblk:blk < w.heap.size) {A:Nat} (hA:A ≤ n) (hA2:n < A + 20) {c:Nat} (hc:A = 20 * c) {e f:Array α} (hr:Row enc k w blk off e w1) (hs:e.size = n) (hp:PermIn 0 n d e) (hb:∀ q,q < c → SortedIn lt (20 * q) (20 * q + 20) e)
  (hrf:Row enc k w1 blk off f w2) (pf:PermIn A n e f) (sf:SortedIn lt A n f):stJ lt enc k w blk off n d 20 w2:=by
 refine ⟨f,Row.trans hblk hr hrf pf.1,pf.1.trans hs,permIn_trans _ _ _ _ _ hp (permIn_mono _ _ _ _ _ _ (Nat.zero_le _) (Nat.le_refl _) (by omega) pf),fun q _=>?_⟩
 by_cases h1:q < c
 ·rw [show min (20 * q + 20) n = 20 * q + 20 by omega]
  exact sortedIn_other pf (hb q h1) (by omega)
 ·by_cases h2:q = c
  ·subst h2;rw [← hc,show min (A + 20) n = n by omega];exact sf
  ·intro p r h3 h4 h5;omega
theorem two_mul_bs (bs q:Nat):bs * (2 * q) = 2 * bs * q ∧ bs * (2 * q + 1) = 2 * bs * q + bs:=by
 have:bs * (2 * q) = 2 * bs * q:=by rw [Nat.mul_left_comm,Nat.mul_assoc]
 exact ⟨this,by rw [Nat.mul_add,this,Nat.mul_one]⟩
theorem mul_step (B:Nat) {q c:Nat} (h:q < c):B * q + B ≤ B * c:=by
 have:=Nat.mul_le_mul_left B (show q + 1 ≤ c from h)
 rwa [Nat.mul_add,Nat.mul_one] at this
theorem stJ2_next (hblk:blk < w.heap.size) {bs A:Nat} (hA:A + 2 * bs ≤ n) {c:Nat} (hc:A = 2 * bs * c) {e f:Array α} (hr:Row enc k w blk off e w1) (hs:e.size = n) (hp:PermIn 0 n d e) (hb:∀ q,q < c → SortedIn lt (2 * bs * q) (2 * bs * q + 2 * bs) e) (hbl:Blocks lt bs (2 * c) n e)
  (hrf:Row enc k w1 blk off f w2) (pf:PermIn A (A + 2 * bs) e f) (sf:SortedIn lt A (A + 2 * bs) f):stJ2 lt enc k w blk off n d bs (A + 2 * bs) w2:=by
 refine ⟨c + 1,by rw [Nat.mul_add,← hc,Nat.mul_one],f,Row.trans hblk hr hrf pf.1,pf.1.trans hs,permIn_trans _ _ _ _ _ hp (permIn_mono _ _ _ _ _ _ (Nat.zero_le _) hA (by omega) pf),fun q hq=>?_,fun q hq=>?_⟩
 ·by_cases h:q = c
  ·subst h;rw [← hc];exact sf
  ·have:=mul_step (2 * bs) (show q < c by omega)
   exact sortedIn_other pf (hb q (by omega)) (by omega)
 ·have h1:=Nat.mul_le_mul_left bs hq
  rw [show 2 * (c + 1) = 2 * c + 1 + 1 by omega,Nat.mul_add,(two_mul_bs bs c).2] at h1
  exact sortedIn_other pf (hbl q (by omega)) (by omega)
theorem stJ2_parts {bs A c:Nat} (hc:A = 2 * bs * c) {e:Array α} (hbl:Blocks lt bs (2 * c) n e) (h:A + bs ≤ n):SortedIn lt A (A + bs) e ∧ SortedIn lt (A + bs) (min (A + bs + bs) n) e:=by
 have h1:=hbl (2 * c) (Nat.le_refl _)
 have h2:=hbl (2 * c + 1) (by omega)
 rw [(two_mul_bs bs c).1,← hc,show min (A + bs) n = A + bs by omega] at h1
 rw [(two_mul_bs bs c).2,← hc] at h2
 exact ⟨h1,h2⟩
theorem stJ2_last (hblk:blk < w.heap.size) {bs A:Nat} (hA:A ≤ n) (hA2:n < A + 2 * bs) {c:Nat} (hc:A = 2 * bs * c) {e f:Array α} (hr:Row enc k w blk off e w1) (hs:e.size = n) (hp:PermIn 0 n d e) (hb:∀ q,q < c → SortedIn lt (2 * bs * q) (2 * bs * q + 2 * bs) e)
  (hrf:Row enc k w1 blk off f w2) (pf:PermIn A n e f) (sf:SortedIn lt A n f):stJ lt enc k w blk off n d (2 * bs) w2:=by
 refine ⟨f,Row.trans hblk hr hrf pf.1,pf.1.trans hs,permIn_trans _ _ _ _ _ hp (permIn_mono _ _ _ _ _ _ (Nat.zero_le _) (Nat.le_refl _) (by omega) pf),fun q _=>?_⟩
 by_cases h1:q < c
 ·have:=mul_step (2 * bs) h1
  rw [show min (2 * bs * q + 2 * bs) n = 2 * bs * q + 2 * bs by omega]
  exact sortedIn_other pf (hb q h1) (by omega)
 ·by_cases h2:q = c
  ·subst h2;rw [← hc,show min (A + 2 * bs) n = n by omega];exact sf
  ·have:=mul_step (2 * bs) (show c < q by omega)
   intro p r h3 h4 h5;omega
theorem stJ2_none {bs A:Nat} (hA:A ≤ n) (hA2:n ≤ A + bs) {c:Nat} (hc:A = 2 * bs * c) {e:Array α} (hbl:Blocks lt bs (2 * c) n e):SortedIn lt A n e:=by
 have h1:=hbl (2 * c) (Nat.le_refl _)
 rwa [(two_mul_bs bs c).1,← hc,show min (A + bs) n = n by omega] at h1
end
def InsOn (P:Program) (lt:α → α → Bool) (enc:α → List Value) (k:Nat) (blk off cap n:Nat) (fv:Value):Prop:=
 ∀ (a b:Nat) (e:Array α) (wr:World),HoldsK enc k wr blk off e → blk < wr.heap.size → a ≤ b → b ≤ n → e.size = n →
  Calls P 161 #[.slice (some ⟨blk,off,none⟩) n cap,.int .i64 a,.int .i64 b,fv] wr fun en w'=>en = .returned (.tuple #[]) ∧ symDone lt enc k wr blk off a b e w'
def SymOn (P:Program) (lt:α → α → Bool) (enc:α → List Value) (k:Nat) (blk off cap n:Nat) (fv:Value):Prop:=
 ∀ (a m b:Nat) (e:Array α) (wr:World),HoldsK enc k wr blk off e → blk < wr.heap.size → a < m → m < b → b ≤ n → e.size = n → SortedIn lt a m e → SortedIn lt m b e →
  Calls P 162 #[.slice (some ⟨blk,off,none⟩) n cap,.int .i64 a,.int .i64 m,.int .i64 b,fv] wr fun en w'=>en = .returned (.tuple #[]) ∧ symDone lt enc k wr blk off a b e w'
set_option maxHeartbeats 8000000 in
set_option maxRecDepth 1000000 in
theorem stable_on (L:SortP P k) (blk off cap n:Nat) (d:Array α) (w:World) (fv:Value) (hins:InsOn P lt enc k blk off cap n fv) (hsym:SymOn P lt enc k blk off cap n fv) (hH:HoldsK enc k w blk off d) (hblk:blk < w.heap.size) (hd:d.size = n) (hn:n ≤ 1000000000) :
  Calls P 134 #[.slice (some ⟨blk,off,none⟩) n cap,.int .i64 n,fv] w fun e w'=>e = .returned (.tuple #[]) ∧ symDone lt enc k w blk off 0 n d w':=by
 have HH:=Hush.mk hH
 have HD:=Hush.mk hd
 have hold:∀ {e:Array α} {wr:World},Row enc k w blk off e wr → e.size = n → HoldsK enc k wr blk off e ∧ blk < wr.heap.size:=fun hr hs=>⟨Row.holds hH hblk hr (hs.trans hd.symm),Nat.lt_of_lt_of_le hblk hr.size⟩
 have HI1:Hush (∀ (A:Nat) (wr:World),A + 20 ≤ n → stJ1 lt enc k w blk off n d A wr → Calls P 161 #[.slice (some ⟨blk,off,none⟩) n cap,.int .i64 A,.int .i64 ((A:Int) + 20),fv] wr fun en w'=>en = .returned (.tuple #[]) ∧ stJ1 lt enc k w blk off n d (A + 20) w'):=⟨fun A wr hA ⟨c,hc,e,hr,hs,hp,hb⟩=>by
  obtain ⟨h1,h2⟩:=hold hr hs
  exact (hins A (A + 20) e wr h1 h2 (by omega) hA hs).mono fun en w' ⟨he,f,hrf,pf,sf⟩=>⟨he,stJ1_next hblk hA hc hr hs hp hb hrf pf sf⟩⟩
 have HI2:Hush (∀ (A:Nat) (wr:World),A ≤ n → n < A + 20 → stJ1 lt enc k w blk off n d A wr → Calls P 161 #[.slice (some ⟨blk,off,none⟩) n cap,.int .i64 A,.int .i64 n,fv] wr fun en w'=>en = .returned (.tuple #[]) ∧ stJ lt enc k w blk off n d 20 w'):=⟨fun A wr hA hA2 ⟨c,hc,e,hr,hs,hp,hb⟩=>by
  obtain ⟨h1,h2⟩:=hold hr hs
  exact (hins A n e wr h1 h2 hA (Nat.le_refl _) hs).mono fun en w' ⟨he,f,hrf,pf,sf⟩=>⟨he,stJ1_end hblk hA hA2 hc hr hs hp hb hrf pf sf⟩⟩
 have HS1:Hush (∀ (bs A:Nat) (wr:World),0 < bs → A + 2 * bs ≤ n → stJ2 lt enc k w blk off n d bs A wr → Calls P 162 #[.slice (some ⟨blk,off,none⟩) n cap,.int .i64 A,.int .i64 ((A:Int) + (bs:Int)),.int .i64 ((A:Int) + 2 * (bs:Int)),fv] wr fun en w'=>en = .returned (.tuple #[]) ∧ stJ2 lt enc k w blk off n d bs (A + 2 * bs) w'):=⟨fun bs A wr h0 hA ⟨c,hc,e,hr,hs,hp,hb,hbl⟩=>by
  obtain ⟨h1,h2⟩:=hold hr hs
  obtain ⟨g1,g2⟩:=stJ2_parts hc hbl (by omega)
  rw [show min (A + bs + bs) n = A + 2 * bs by omega] at g2
  rw [show (A:Int) + 2 * (bs:Int) = ((A + 2 * bs:Nat):Int) by omega,show (A:Int) + (bs:Int) = ((A + bs:Nat):Int) by omega]
  exact (hsym A (A + bs) (A + 2 * bs) e wr h1 h2 (by omega) (by omega) hA hs g1 g2).mono fun en w' ⟨he,f,hrf,pf,sf⟩=>⟨he,stJ2_next hblk hA hc hr hs hp hb hbl hrf pf sf⟩⟩
 have HS2:Hush (∀ (bs A:Nat) (wr:World),0 < bs → A + bs < n → n < A + 2 * bs → stJ2 lt enc k w blk off n d bs A wr → Calls P 162 #[.slice (some ⟨blk,off,none⟩) n cap,.int .i64 A,.int .i64 ((A:Int) + (bs:Int)),.int .i64 n,fv] wr fun en w'=>en = .returned (.tuple #[]) ∧ stJ lt enc k w blk off n d (2 * bs) w'):=⟨fun bs A wr h0 hA hA2 ⟨c,hc,e,hr,hs,hp,hb,hbl⟩=>by
  obtain ⟨h1,h2⟩:=hold hr hs
  obtain ⟨g1,g2⟩:=stJ2_parts hc hbl (by omega)
  rw [show min (A + bs + bs) n = n by omega] at g2
  rw [show (A:Int) + (bs:Int) = ((A + bs:Nat):Int) by omega]
  exact (hsym A (A + bs) n e wr h1 h2 (by omega) (by omega) (Nat.le_refl _) hs g1 g2).mono fun en w' ⟨he,f,hrf,pf,sf⟩=>⟨he,stJ2_last hblk (by omega) hA2 hc hr hs hp hb hrf pf sf⟩⟩
 have HS3:Hush (∀ (bs A:Nat) (wr:World),0 < bs → A ≤ n → n ≤ A + bs → stJ2 lt enc k w blk off n d bs A wr → stJ lt enc k w blk off n d (2 * bs) wr):=⟨fun bs A wr h0 hA hA2 ⟨c,hc,e,hr,hs,hp,hb,hbl⟩=>
  have h:=hold hr hs
  stJ2_last hblk hA (by omega) hc hr hs hp hb (Row.refl h.1) (permIn_refl _ _ _) (stJ2_none hA hA2 hc hbl)⟩
 have H0:Hush (stJ1 lt enc k w blk off n d 0 w):=⟨0,rfl,d,Row.refl hH,hd,permIn_refl _ _ _,fun q hq=>by omega⟩
 have HE:Hush (∀ (bs:Nat) (wr:World),n ≤ bs → stJ lt enc k w blk off n d bs wr → symDone lt enc k w blk off 0 n d wr):=⟨fun bs wr hb ⟨e,hr,hs,hp,hbl⟩=>⟨e,hr,hp,by
  have:=hbl 0 (Nat.zero_le _)
  rwa [Nat.mul_zero,show min (0 + bs) n = n by omega] at this⟩⟩
 have HB0:Hush (∀ (bs:Nat) (wr:World),stJ lt enc k w blk off n d bs wr → stJ2 lt enc k w blk off n d bs 0 wr):=⟨fun bs wr ⟨e,hr,hs,hp,hbl⟩=>⟨0,rfl,e,hr,hs,hp,fun q hq=>by omega,hbl⟩⟩
 clear hins hsym hH hd hold
 obtain ⟨mixed,f134,f162,f184,f194,e161,e162,e184,e194,t3,a3,z3,t4,a4,z4,t62,a62,z62,t76,a76,z76,a97,z97,t167,a167,z167⟩:=L
 clear f162 f184 f194 e184 e194
 go_enter f134,Tryd.ntmps134
 go_wp2
 go_loopw [7,8] (fun av bv wr=>∃ A:Nat,av = .int .i64 A ∧ bv = .int .i64 ((A:Int) + 20) ∧ A ≤ n ∧ Hush (stJ1 lt enc k w blk off n d A wr)) (fun av _ _=>n + 20 - (intOf av).toNat)
 case atStart=>exact ⟨0,by go_num,by go_num,by omega,H0⟩
 case round=>
  obtain ⟨A,rfl,rfl,hAn,HJ⟩:=hrel
  by_cases hlt:A + 20 ≤ n
  ·have hltz:(A:Int) + 20 ≤ (n:Int):=by omega
   have HCA:=Hush.mk (HI1.out A wr hlt HJ.out)
   go_wp2_with (go_at_fn 161;refine HCA.out.mono ?_;rintro e w1 ⟨rfl,h1⟩;have HJ1:=Hush.mk h1;clear h1)
   go_roundw
   case rel=>exact ⟨A + 20,by go_num,by go_num,by omega,HJ1⟩
   case measure=>simp [intOf];omega
  ·have hltz:¬ (A:Int) + 20 ≤ (n:Int):=by omega
   have HCA:=Hush.mk (HI2.out A wr hAn (by omega) HJ.out)
   clear hlt
   go_wp2_with (go_at_fn 161;refine HCA.out.mono ?_;rintro e w1 ⟨rfl,h1⟩;have HJ1:=Hush.mk h1;clear h1)
   go_loopw [6] (fun sv wr=>∃ bs:Nat,sv = .int .i64 bs ∧ 20 ≤ bs ∧ bs ≤ 2 * n + 20 ∧ Hush (stJ lt enc k w blk off n d bs wr)) (fun sv _=>n - (intOf sv).toNat)
   case atStart=>exact ⟨20,by go_num,by omega,by omega,HJ1⟩
   case round=>
    obtain ⟨bs,rfl,hbs1,hbs2,HJ2⟩:=hrel
    by_cases hlt2:bs < n
    ·have hlt2z:(bs:Int) < (n:Int):=by omega
     have HJ3:=Hush.mk (HB0.out bs _ HJ2.out)
     go_wp2
     go_loopw [7,8] (fun av bv wr=>∃ A:Nat,av = .int .i64 A ∧ bv = .int .i64 ((A:Int) + 2 * (bs:Int)) ∧ A ≤ n ∧ Hush (stJ2 lt enc k w blk off n d bs A wr)) (fun av _ _=>n + 2 * bs - (intOf av).toNat)
     case atStart=>exact ⟨0,by go_num,by go_num,by omega,HJ3⟩
     case round=>
      obtain ⟨A2,rfl,rfl,hA2,HK2⟩:=hrel
      by_cases hlt3:A2 + 2 * bs ≤ n
      ·have hlt3z:(A2:Int) + 2 * (bs:Int) ≤ (n:Int):=by omega
       have HCB:=Hush.mk (HS1.out bs A2 _ (by omega) hlt3 HK2.out)
       go_wp2_with (go_at_fn 162;refine HCB.out.mono ?_;rintro e w2 ⟨rfl,h2⟩;have HK3:=Hush.mk h2;clear h2)
       go_roundw
       case rel=>exact ⟨A2 + 2 * bs,by go_num,by go_num,by omega,HK3⟩
       case measure=>simp [intOf];omega
      ·have hlt3z:¬ (A2:Int) + 2 * (bs:Int) ≤ (n:Int):=by omega
       by_cases hlt4:A2 + bs < n
       ·have hlt4z:(A2:Int) + (bs:Int) < (n:Int):=by omega
        have HCB:=Hush.mk (HS2.out bs A2 _ (by omega) hlt4 (by omega) HK2.out)
        go_wp2_with (go_at_fn 162;refine HCB.out.mono ?_;rintro e w2 ⟨rfl,h2⟩;have HK3:=Hush.mk h2;clear h2)
        go_roundw
        case rel=>exact ⟨2 * bs,by go_num,by omega,by omega,HK3⟩
        case measure=>simp [intOf];omega
       ·have hlt4z:¬ (A2:Int) + (bs:Int) < (n:Int):=by omega
        have HK3:=Hush.mk (HS3.out bs A2 _ (by omega) hA2 (by omega) HK2.out)
        go_wp2
        go_roundw
        case rel=>exact ⟨2 * bs,by go_num,by omega,by omega,HK3⟩
        case measure=>simp [intOf];omega
    ·have hlt2z:¬ (bs:Int) < (n:Int):=by omega
     have HF:=Hush.mk (HE.out bs _ (by omega) HJ2.out)
     go_wp2
     go_end0
     exact ⟨rfl,HF.out⟩
end Go.Proofs.YteilnbnnhocciaaDoor.V

/-! V9 -/
namespace Go.Proofs
open Go.Shelf
def Tryd.ins161_ren:Go.Shelf.Ren:=⟨fun | 20=>161 | n=>n,fun | 24=>97 | 22=>76 | 3=>3 | 25=>167 | 4=>4 | 0=>0 | n=>n,fun | n=>n⟩
theorem Tryd.ins161:Go.Proofs.SlLaysF0.n20 Tryd.prog Tryd.ins161_ren:={
 mixed:=by kernel_rfl
 f20:=⟨Tryd.f161.name,by decide,Tryd.func161.trans (congrArg some (by kernel_rfl))⟩
 t0:=Tryd.underlying0
 a0:=Tryd.isAgg0
 z0:=Tryd.sizeOf0
 v0:=Tryd.zeroValue0
 t3:=Tryd.underlying3
 a3:=Tryd.isAgg3
 z3:=Tryd.sizeOf3
 v3:=Tryd.zeroValue3
 t4:=Tryd.underlying4
 a4:=Tryd.isAgg4
 z4:=Tryd.sizeOf4
 v4:=Tryd.zeroValue4
 t22:=Tryd.underlying76
 a22:=Tryd.isAgg76
 z22:=Tryd.sizeOf76
 v22:=Tryd.zeroValue76
 t25:=Tryd.underlying167
 a25:=Tryd.isAgg167
 z25:=Tryd.sizeOf167
 v25:=Tryd.zeroValue167 }
def Tryd.clone130_ren:Go.Shelf.Ren:=⟨fun | 41=>130 | n=>n,fun | 22=>76 | 23=>97 | 4=>4 | n=>n,fun | n=>n⟩
theorem Tryd.clone130:Go.Proofs.SlLaysE0.n41 Tryd.prog Tryd.clone130_ren:={
 mixed:=by kernel_rfl
 f41:=⟨Tryd.f130.name,by decide,Tryd.func130.trans (congrArg some (by kernel_rfl))⟩
 t4:=Tryd.underlying4
 a4:=Tryd.isAgg4
 z4:=Tryd.sizeOf4
 v4:=Tryd.zeroValue4
 t22:=Tryd.underlying76
 a22:=Tryd.isAgg76
 z22:=Tryd.sizeOf76
 v22:=Tryd.zeroValue76 }
def Tryd.index131_ren:Go.Shelf.Ren:=⟨fun | 6=>131 | n=>n,fun | 22=>76 | 23=>97 | 25=>194 | 3=>3 | 0=>0 | 4=>4 | n=>n,fun | n=>n⟩
theorem Tryd.index131:Go.Proofs.SlLaysH0.n6 Tryd.prog Tryd.index131_ren:={
 mixed:=by kernel_rfl
 f6:=⟨Tryd.f131.name,by decide,Tryd.func131.trans (congrArg some (by kernel_rfl))⟩
 t0:=Tryd.underlying0
 a0:=Tryd.isAgg0
 z0:=Tryd.sizeOf0
 v0:=Tryd.zeroValue0
 t3:=Tryd.underlying3
 a3:=Tryd.isAgg3
 z3:=Tryd.sizeOf3
 v3:=Tryd.zeroValue3
 t4:=Tryd.underlying4
 a4:=Tryd.isAgg4
 z4:=Tryd.sizeOf4
 v4:=Tryd.zeroValue4
 t22:=Tryd.underlying76
 a22:=Tryd.isAgg76
 z22:=Tryd.sizeOf76
 v22:=Tryd.zeroValue76
 t25:=Tryd.underlying194
 a25:=Tryd.isAgg194
 z25:=Tryd.sizeOf194
 v25:=Tryd.zeroValue194 }
end Go.Proofs

/-! V10 -/
namespace Go.Proofs.YteilnbnnhocciaaDoor.V
open Go.Proofs Go.RowKit Go.BigFrame Go.Lib Go.Sort Go.Proofs.YteilnbnnhocciaaDoorM Go.Proofs.YteilnbnnhocciaaDoor.S
theorem u8_eq {a b:UInt8} (h1:¬ a < b) (h2:¬ b < a):a = b:=by
 rw [UInt8.lt_iff_toNat_lt] at h1 h2
 exact UInt8.toNat_inj.1 (by omega)
theorem cb_lt:∀ a b:List UInt8,Lib.compareBytes a b < 0 ↔ a < b
 | [],[]=>by simp [Lib.compareBytes]
 | [],b :: y=>by simp [Lib.compareBytes]
 | a :: x,[]=>by simp [Lib.compareBytes]
 | a :: x,b :: y=>by
  rw [Lib.compareBytes,List.cons_lt_cons_iff]
  by_cases h1:a < b
  ·simp [h1]
  ·by_cases h2:b < a
   ·have h3:¬ a = b:=fun e=>by subst e;exact h1 h2
    simp [h1,h2,h3]
   ·have h3:a = b:=u8_eq h1 h2
    subst h3
    simp only [h1,if_false,cb_lt x y,false_or,true_and]
theorem cb_eq:∀ a b:List UInt8,Lib.compareBytes a b = 0 ↔ a = b
 | [],[]=>by simp [Lib.compareBytes]
 | [],b :: y=>by simp [Lib.compareBytes]
 | a :: x,[]=>by simp [Lib.compareBytes]
 | a :: x,b :: y=>by
  rw [Lib.compareBytes]
  by_cases h1:a < b
  ·have h3:¬ a = b:=fun e=>by subst e;exact UInt8.lt_irrefl _ h1
   simp [h1,h3]
  ·by_cases h2:b < a
   ·have h3:¬ a = b:=fun e=>by subst e;exact h1 h2
    simp [h1,h2,h3]
   ·have h3:a = b:=u8_eq h1 h2
    subst h3
    simp only [h1,if_false,cb_eq x y,List.cons.injEq,true_and]
theorem cmpI_neg (a b:Int):cmpI a b < 0 ↔ a < b:=by
 unfold cmpI
 split
 ·simp_all
 ·split <;> simp_all
theorem lt0_iff (x y:FileV):ltOf ord0 x y = true ↔ y.num < x.num:=by
 unfold ltOf
 rw [decide_eq_true_iff]
 unfold ord0
 rw [cmpI_neg]
theorem orI_neg (a b:Int):orI a b < 0 ↔ a < 0 ∨ a = 0 ∧ b < 0:=by
 unfold orI
 split <;> omega
theorem lt1_iff (x y:FileV):ltOf ord1 x y = true ↔ x.least.data.toList < y.least.data.toList ∨ x.least.data.toList = y.least.data.toList ∧ x.num < y.num:=by
 unfold ltOf
 rw [decide_eq_true_iff]
 unfold ord1
 rw [orI_neg,cmpI_neg]
 unfold cmpS
 rw [cb_lt,cb_eq]
theorem swo_of {lt:FileV → FileV → Bool} (R:FileV → FileV → Prop) (h:∀ x y,lt x y = true ↔ R x y) (hi:∀ x,¬ R x x) (ht:∀ x y z,R x y → R y z → R x z) (hn:∀ x y z,¬ R x y → ¬ R y z → ¬ R x z):SWO lt where
 irrefl x:=by cases e:lt x x with | false=>rfl | true=>exact absurd ((h x x).1 e) (hi x)
 trans x y z h1 h2:=(h x z).2 (ht x y z ((h x y).1 h1) ((h y z).1 h2))
 ntrans x y z h1 h2:=by
  cases e:lt x z with
  | false=>rfl
  | true=>exact absurd ((h x z).1 e) (hn x y z (fun r=>by rw [(h x y).2 r] at h1;cases h1) (fun r=>by rw [(h y z).2 r] at h2;cases h2))
theorem swo_ord0:SWO (ltOf ord0):=swo_of (fun x y=>y.num < x.num) lt0_iff (fun x=>by omega) (fun x y z=>by omega) (fun x y z=>by omega)
theorem swo_ord1:SWO (ltOf ord1):=by
 refine swo_of _ lt1_iff (fun x=>?_) (fun x y z h1 h2=>?_) (fun x y z h1 h2 h3=>?_)
 ·simp [List.lt_irrefl]
 ·rcases h1 with h1 | ⟨h1,h1'⟩ <;> rcases h2 with h2 | ⟨h2,h2'⟩
  ·exact .inl (List.lt_trans h1 h2)
  ·exact .inl (h2 ▸ h1)
  ·exact .inl (h1 ▸ h2)
  ·exact .inr ⟨h1.trans h2,by omega⟩
 ·simp only [not_or,not_and,List.not_lt] at h1 h2
  obtain ⟨a1,a2⟩:=h1
  obtain ⟨b1,b2⟩:=h2
  rcases h3 with h3 | ⟨h3,h3'⟩
  ·exact absurd h3 (List.not_lt.2 (List.le_trans b1 a1))
  ·rw [h3] at a1 a2
   have e:y.least.data.toList = z.least.data.toList:=List.le_antisymm a1 b1
   have:=a2 e.symm
   have:=b2 e
   omega
def ordL (lv:Nat):FileV → FileV → Int:=if lv = 0 then ord0 else ord1
def fnL (lv:Nat):Nat:=if lv = 0 then 135 else 137
theorem swo_ordL (lv:Nat):SWO (ltOf (ordL lv)):=by
 unfold ordL
 split
 ·exact swo_ord0
 ·exact swo_ord1
theorem cmp_ordL (lv:Nat):CmpAny Tryd.prog (fnL lv) encF (ordL lv):=by
 intro x y W
 unfold fnL ordL
 split
 ·exact ord0_on x y W
 ·exact ord1_on x y W
theorem enters_ordL (lv:Nat):∀ args w,(callFunc (fnL lv) args).run Tryd.prog w = .ok (.enter (fnL lv) args) w:=by
 intro args w
 unfold fnL
 split
 ·simp [go_sem]
 ·simp [go_sem]
theorem ins_on (g:Nat) (cf:FileV → FileV → Int) (eg:∀ args w,(callFunc g args).run Tryd.prog w = .ok (.enter g args) w) (hcmp:CmpAny Tryd.prog g encF cf) (hS:SWO (ltOf cf)) (blk off cap n:Nat) (hn:n < 4611686018427387904) :
  InsOn Tryd.prog (ltOf cf) encF 5 blk off cap n (.func (.func g) #[] #[]):=fun a b e wr hH hblk hab hb hs=>by
 subst hs
 have hc:CmpLays Tryd.prog g #[] encF 5 cf blk off e.size wr:=fun m os dk _ x y=>by
  exact hcmp x y (sortWorldK encF 5 wr blk off m dk os)
 exact (AnyQ.insertionSortCmpFunc Tryd.ins161 5 Tryd.isAgg97 Tryd.sizeOf97 encF encF_len encF_one cf g #[] blk off cap a b e wr eg hc hH hblk hab hb hn).mono fun en w' ⟨he,m,os,hw⟩=>
  ⟨he,_,⟨m,os,hw⟩,(insertionSort_holds hS e a b hab hb).1,(insertionSort_holds hS e a b hab hb).2⟩
theorem sym_on (g:Nat) (cf:FileV → FileV → Int) (eg:∀ args w,(callFunc g args).run Tryd.prog w = .ok (.enter g args) w) (hcmp:CmpAny Tryd.prog g encF cf) (hS:SWO (ltOf cf)) (blk off cap n:Nat) (hn:n < 4611686018427387904) :
  SymOn Tryd.prog (ltOf cf) encF 5 blk off cap n (.func (.func g) #[] #[]):=fun a m b e wr hH hblk ham hmb hb hs s1 s2=>
 symMerge_on sortP_on encF_len encF_one cf hS g eg hcmp blk off cap n hn (b - a) a m b e wr (Nat.le_refl _) hH hblk ham hmb (by omega) hs s1 s2
theorem sort_on (lv:Nat) (blk off cap:Nat) (d:Array FileV) (w:World) (hH:HoldsK encF 5 w blk off d) (hblk:blk < w.heap.size) (hn:d.size ≤ 1000000000) :
  Calls Tryd.prog 101 #[.slice (some ⟨blk,off,none⟩) d.size cap,.func (.func (fnL lv)) #[] #[]] w fun e w'=>e = .returned (.tuple #[]) ∧ symDone (ltOf (ordL lv)) encF 5 w blk off 0 d.size d w':=by
 have HS:=Hush.mk (stable_on sortP_on blk off cap d.size d w (.func (.func (fnL lv)) #[] #[]) (ins_on _ _ (enters_ordL lv) (cmp_ordL lv) (swo_ordL lv) blk off cap d.size (by omega)) (sym_on _ _ (enters_ordL lv) (cmp_ordL lv) (swo_ordL lv) blk off cap d.size (by omega)) hH hblk rfl hn)
 clear hH hn
 go_enter Tryd.func101,Tryd.ntmps101
 go_wp2_with fail
 refine HS.out.mono ?_
 rintro e w' ⟨rfl,h⟩
 have HD:=Hush.mk h
 clear h
 go_wp2
 go_end0
 exact ⟨rfl,HD.out⟩
end Go.Proofs.YteilnbnnhocciaaDoor.V

/-! V2 -/
namespace Go.Proofs.YteilnbnnhocciaaDoor.V
open Go.RowKit Go.BigFrame Go.Proofs.YteilnbnnhocciaaDoorM Go.Proofs.YteilnbnnhocciaaDoorW.PrintWords Go.Proofs.YteilnbnnhocciaaDoorW.PrintLast Go.Proofs.YteilnbnnhocciaaDoorW.PrintMore
attribute [local go_sem] gtr_run leq_run geq_run Int.add_sub_cancel
def FileAt (w:World) (p:Addr) (x:FileV):Prop:=w.cell? p = some (.int .u64 x.num) ∧ w.cell? ⟨p.block,p.off + 1,none⟩ = some (.int .u64 x.size) ∧ w.cell? ⟨p.block,p.off + 2,none⟩ = some (.int .u64 x.count) ∧ w.cell? ⟨p.block,p.off + 3,none⟩ = some (.string x.least) ∧ w.cell? ⟨p.block,p.off + 4,none⟩ = some (.string x.most)
def FilesAt (w:World) (A:Option Addr) (L:List FileV):Prop:=0 < L.length → ∃ ad,A = some ad ∧ ∀ i x,L[i]? = some x → FileAt w (ad.add (i * 5)) x
theorem FileAt.below {w w':World} {p:Addr} {x:FileV} (h:FileAt w p x) (b:Below w.heap.size w w'):FileAt w' p x:=by
 have up:∀ p v,w.cell? p = some v → w'.cell? p = some v:=fun p v e=>(b.cell (World.block_lt_of_cell? w p e)).trans e
 exact ⟨up _ _ h.1,up _ _ h.2.1,up _ _ h.2.2.1,up _ _ h.2.2.2.1,up _ _ h.2.2.2.2⟩
theorem FilesAt.below {w w':World} {A:Option Addr} {L:List FileV} (h:FilesAt w A L) (b:Below w.heap.size w w'):FilesAt w' A L:=fun h0=>by
 obtain ⟨ad,e,hc⟩:=h h0
 exact ⟨ad,e,fun i x hx=>(hc i x hx).below b⟩
def stepB (lv:Int) (a b:FileV):Bool:=if lv = 0 then decide (ord0 a b < 0) else decide (ord1 a b < 0) && Op.bytesLess a.most.toList b.least.toList
def risesB (lv:Int):List FileV → Bool
 | a :: b :: r=>stepB lv a b && risesB lv (b :: r)
 | _=>true
theorem cmpI_three (a b:Int):cmpI a b = -1 ∨ cmpI a b = 0 ∨ cmpI a b = 1:=by
 unfold cmpI
 split
 ·exact .inl rfl
 ·split
  ·exact .inr (.inr rfl)
  ·exact .inr (.inl rfl)
theorem ord0_three (a b:FileV):ord0 a b = -1 ∨ ord0 a b = 0 ∨ ord0 a b = 1:=cmpI_three _ _
theorem order_0 (w:World):Calls Tryd.prog 102 #[.int .i64 0] w fun e w'=>e = .returned (.func (.func 135) #[] #[]) ∧ Grown w w':=(order_on 0 w).mono fun _ _ ⟨h1,h2⟩=>⟨h1,Grown.of_eq h2⟩
theorem order_1 (lv:Int) (h:0 < lv) (w:World):Calls Tryd.prog 102 #[.int .i64 lv] w fun e w'=>e = .returned (.func (.func 137) #[] #[]) ∧ Grown w w':=by
 have:=order_on lv w
 rw [if_neg (by omega)] at this
 exact this.mono fun _ _ ⟨h1,h2⟩=>⟨h1,Grown.of_eq h2⟩
theorem orI_three (a b:Int) (ha:a = -1 ∨ a = 0 ∨ a = 1) (hb:b = -1 ∨ b = 0 ∨ b = 1):orI a b = -1 ∨ orI a b = 0 ∨ orI a b = 1:=by
 unfold orI
 split <;> assumption
theorem compareBytes_three:∀ a b:List UInt8,Lib.compareBytes a b = -1 ∨ Lib.compareBytes a b = 0 ∨ Lib.compareBytes a b = 1
 | [],[]=>.inr (.inl rfl)
 | [],_ :: _=>.inl rfl
 | _ :: _,[]=>.inr (.inr rfl)
 | a :: x,b :: y=>by
  rw [Lib.compareBytes]
  split
  ·exact .inl rfl
  ·split
   ·exact .inr (.inr rfl)
   ·exact compareBytes_three x y
theorem cmpS_three (a b:ByteArray):cmpS a b = -1 ∨ cmpS a b = 0 ∨ cmpS a b = 1:=compareBytes_three _ _
theorem ord1_three (a b:FileV):ord1 a b = -1 ∨ ord1 a b = 0 ∨ ord1 a b = 1:=orI_three _ _ (cmpS_three _ _) (cmpI_three _ _)
def risesJ (lv:Int) (w:World) (L:List FileV) (j:Nat) (wr:World):Prop:=risesB lv L = risesB lv (L.drop j) ∧ Grown w wr
theorem risesB_step (lv:Int) (L:List FileV) (j:Nat) (a b:FileV) (ha:L[j]? = some a) (hb:L[j + 1]? = some b):risesB lv (L.drop j) = (stepB lv a b && risesB lv (L.drop (j + 1))):=by
 obtain ⟨h1,e1⟩:=List.getElem?_eq_some_iff.1 ha
 obtain ⟨h2,e2⟩:=List.getElem?_eq_some_iff.1 hb
 rw [List.drop_eq_getElem_cons h1,e1,List.drop_eq_getElem_cons h2,e2]
 rfl
theorem risesB_end (lv:Int) (L:List FileV) (j:Nat) (h:L.length ≤ j + 1):risesB lv (L.drop j) = true:=by
 match h':L.drop j with
 | []=>rfl
 | [x]=>rfl
 | x :: y :: r=>
  have:=congrArg List.length h'
  simp at this
  omega
set_option maxHeartbeats 4000000 in
set_option maxRecDepth 100000 in
theorem rises_0 (A:Option Addr) (L:List FileV) (cap:Nat) (w:World) (hL:FilesAt w A L) (hl:L.length ≤ 1000000):Calls Tryd.prog 97 #[.int .i64 0,.slice A L.length cap] w fun e w'=>e = .returned (.bool (risesB 0 L)) ∧ Grown w w':=by
 have HL:=Hush.mk hL
 clear hL
 have mixed:Tryd.prog.follows .mixedOrders = true:=by kernel_rfl
 go_enter Tryd.func97,Tryd.ntmps97
 go_wp2
 go_loopw [5] (fun iv wr=>∃ j:Nat,iv = .int .i64 ((j:Int) + 1) ∧ Hush (risesJ 0 w L j wr)) (fun iv _=>L.length - (intOf iv).toNat)
 case atStart=>exact ⟨0,rfl,⟨by simp,Grown.refl _⟩⟩
 case round=>
  obtain ⟨j,rfl,HJ⟩:=hrel
  have HG:=Hush.mk HJ.out.2
  by_cases hlt:j + 1 < L.length
  ·have hlt2:(j:Int) + 1 < (L.length:Int):=by omega
   have hj0:(0:Int) ≤ (j:Int):=by omega
   have hj1:(j:Int) < (L.length:Int):=by omega
   have hj3:(0:Int) ≤ (j:Int) + 1:=by omega
   have hl2:(L.length:Int) ≤ 1000000:=by omega
   have hw1:IntKind.i64.wrap ((j:Int) + 1 - 1) = (j:Int):=by
    rw [show (j:Int) + 1 - 1 = (j:Int) from by omega]
    exact IntWalk.i64_in _ (by omega)
   have hw4:IntKind.i64.wrap (j:Int) = (j:Int):=IntWalk.i64_in _ (by omega)
   have hw2:((j:Int) + 1).toNat = j + 1:=by omega
   obtain ⟨a,ha⟩:∃ a,L[j]? = some a:=⟨_,List.getElem?_eq_getElem (by omega)⟩
   obtain ⟨b,hb⟩:∃ b,L[j + 1]? = some b:=⟨_,List.getElem?_eq_getElem hlt⟩
   obtain ⟨ad,rfl,hat⟩:=HL.out (by omega)
   have hA:=(hat j a ha).below HG.out.below
   have hB:=(hat (j + 1) b hb).below HG.out.below
   obtain ⟨r,hr⟩:∃ r,r = ord0 a b:=⟨_,rfl⟩
   have HC:Hush (∀ W,Calls Tryd.prog 135 #[fileVal a,fileVal b] W fun e w'=>e = .returned (.int .i64 r) ∧ Grown W w'):=⟨fun W=>by rw [hr];exact ord0_on a b W⟩
   have HN:Hush (risesB 0 L = (decide (r < 0) && risesB 0 (L.drop (j + 1)))):=⟨by
    rw [HJ.out.1,risesB_step 0 L j a b ha hb,hr]
    simp [stepB]⟩
   have h3:r = -1 ∨ r = 0 ∨ r = 1:=by rw [hr];exact ord0_three _ _
   clear hr ha hb hat HJ
   obtain ⟨a0,a1,a2,a3,a4⟩:=a
   obtain ⟨b0,b1,b2,b3,b4⟩:=b
   simp only [fileVal,fileCells,FileAt] at hA hB HC
   obtain ⟨c0,c1,c2,c3,c4⟩:=hA
   obtain ⟨e0,e1,e2,e3,e4⟩:=hB
   replace c0:=grown_cell c0
   replace c1:=grown_cell c1
   replace c2:=grown_cell c2
   replace c3:=grown_cell c3
   replace c4:=grown_cell c4
   replace e0:=grown_cell e0
   replace e1:=grown_cell e1
   replace e2:=grown_cell e2
   replace e3:=grown_cell e3
   replace e4:=grown_cell e4
   rcases h3 with rfl | rfl | rfl
   all_goals
    go_wp2_with fail
    refine wp_region_quiet_grown mixed (by kernel_rfl) ?_
    repeat (go_big_quiet_step (first | (go_at_call 102;exact Calls.grown_of (order_0 _)) | (go_at_call 135;exact Calls.grown_of (HC.out _))))
    refine wpQuiet_nil ?_
    intro _ hw'
    obtain ⟨⟨nq,osq⟩,hw''⟩:=hw'
    subst hw''
    have HG2:Hush (Grown w (Go.Sort.grow (wr.drewN nq) osq)):=⟨HG.out.grow nq osq⟩
    clear c0 c1 c2 c3 c4 e0 e1 e2 e3 e4 hw1
    go_wp2
   ·go_roundw
    case rel=>exact ⟨j + 1,by go_num,⟨by rw [HN.out];rfl,HG2.out⟩⟩
    case measure=>simp [intOf];omega
   all_goals
    go_ret
    exact ⟨by rw [HN.out];rfl,HG2.out⟩
  ·have HE:=risesB_end 0 L j (by omega)
   have HE2:=Hush.mk (HJ.out.1.trans HE)
   clear HE
   go_wp2
   go_ret
   exact ⟨by rw [HE2.out];rfl,HG.out⟩
set_option maxHeartbeats 4000000 in
set_option maxRecDepth 100000 in
theorem rises_1 (lv:Int) (hlv:0 < lv) (A:Option Addr) (L:List FileV) (cap:Nat) (w:World) (hL:FilesAt w A L) (hl:L.length ≤ 1000000):Calls Tryd.prog 97 #[.int .i64 lv,.slice A L.length cap] w fun e w'=>e = .returned (.bool (risesB lv L)) ∧ Grown w w':=by
 have HL:=Hush.mk hL
 clear hL
 have mixed:Tryd.prog.follows .mixedOrders = true:=by kernel_rfl
 go_enter Tryd.func97,Tryd.ntmps97
 go_wp2
 go_loopw [5] (fun iv wr=>∃ j:Nat,iv = .int .i64 ((j:Int) + 1) ∧ Hush (risesJ lv w L j wr)) (fun iv _=>L.length - (intOf iv).toNat)
 case atStart=>exact ⟨0,rfl,⟨by simp,Grown.refl _⟩⟩
 case round=>
  obtain ⟨j,rfl,HJ⟩:=hrel
  have HG:=Hush.mk HJ.out.2
  by_cases hlt:j + 1 < L.length
  ·have hlt2:(j:Int) + 1 < (L.length:Int):=by omega
   have hj0:(0:Int) ≤ (j:Int):=by omega
   have hj1:(j:Int) < (L.length:Int):=by omega
   have hj3:(0:Int) ≤ (j:Int) + 1:=by omega
   have hl2:(L.length:Int) ≤ 1000000:=by omega
   have hw1:IntKind.i64.wrap ((j:Int) + 1 - 1) = (j:Int):=by
    rw [show (j:Int) + 1 - 1 = (j:Int) from by omega]
    exact IntWalk.i64_in _ (by omega)
   have hw4:IntKind.i64.wrap (j:Int) = (j:Int):=IntWalk.i64_in _ (by omega)
   have hw2:((j:Int) + 1).toNat = j + 1:=by omega
   obtain ⟨a,ha⟩:∃ a,L[j]? = some a:=⟨_,List.getElem?_eq_getElem (by omega)⟩
   obtain ⟨b,hb⟩:∃ b,L[j + 1]? = some b:=⟨_,List.getElem?_eq_getElem hlt⟩
   obtain ⟨ad,rfl,hat⟩:=HL.out (by omega)
   have hA:=(hat j a ha).below HG.out.below
   have hB:=(hat (j + 1) b hb).below HG.out.below
   obtain ⟨r,hr⟩:∃ r,r = ord1 a b:=⟨_,rfl⟩
   obtain ⟨m,hm⟩:∃ m,m = Op.bytesLess a.most.toList b.least.toList:=⟨_,rfl⟩
   have HC:Hush (∀ W,Calls Tryd.prog 137 #[fileVal a,fileVal b] W fun e w'=>e = .returned (.int .i64 r) ∧ Grown W w'):=⟨fun W=>by rw [hr];exact ord1_on a b W⟩
   have HN:Hush (risesB lv L = (decide (r < 0) && m && risesB lv (L.drop (j + 1)))):=⟨by
    rw [HJ.out.1,risesB_step lv L j a b ha hb,hr,hm]
    rw [stepB,if_neg (by omega)]⟩
   have h3:r = -1 ∨ r = 0 ∨ r = 1:=by rw [hr];exact ord1_three _ _
   clear hr ha hb hat HJ
   obtain ⟨a0,a1,a2,a3,a4⟩:=a
   obtain ⟨b0,b1,b2,b3,b4⟩:=b
   simp only [fileVal,fileCells,FileAt] at hA hB HC
   simp only at hm
   obtain ⟨c0,c1,c2,c3,c4⟩:=hA
   obtain ⟨e0,e1,e2,e3,e4⟩:=hB
   replace c0:=grown_cell c0
   replace c1:=grown_cell c1
   replace c2:=grown_cell c2
   replace c3:=grown_cell c3
   replace c4:=grown_cell c4
   replace e0:=grown_cell e0
   replace e1:=grown_cell e1
   replace e2:=grown_cell e2
   replace e3:=grown_cell e3
   replace e4:=grown_cell e4
   rcases h3 with rfl | rfl | rfl
   all_goals cases m
   all_goals replace hm:=hm.symm
   all_goals
    go_wp2_with fail
    refine wp_region_quiet_grown mixed (by kernel_rfl) ?_
    repeat (go_big_quiet_step (first | (go_at_call 102;exact Calls.grown_of (order_1 _ hlv _)) | (go_at_call 137;exact Calls.grown_of (HC.out _))))
    refine wpQuiet_nil ?_
    intro _ hw'
    obtain ⟨⟨nq,osq⟩,hw''⟩:=hw'
    subst hw''
    have HG2:Hush (Grown w (Go.Sort.grow (wr.drewN nq) osq)):=⟨HG.out.grow nq osq⟩
    clear c0 c1 c2 c3 c4 e0 e1 e2 e3 e4 hw1
    go_wp2
   ·go_ret
    exact ⟨by rw [HN.out];rfl,HG2.out⟩
   ·go_roundw
    case rel=>exact ⟨j + 1,by go_num,⟨by rw [HN.out];rfl,HG2.out⟩⟩
    case measure=>simp [intOf];omega
   all_goals
    go_ret
    exact ⟨by rw [HN.out];rfl,HG2.out⟩
  ·have HE:=risesB_end lv L j (by omega)
   have HE2:=Hush.mk (HJ.out.1.trans HE)
   clear HE
   go_wp2
   go_ret
   exact ⟨by rw [HE2.out];rfl,HG.out⟩
theorem rises_on (lv:Nat) (A:Option Addr) (L:List FileV) (cap:Nat) (w:World) (hL:FilesAt w A L) (hl:L.length ≤ 1000000):Calls Tryd.prog 97 #[.int .i64 lv,.slice A L.length cap] w fun e w'=>e = .returned (.bool (risesB lv L)) ∧ Grown w w':=by
 by_cases h:lv = 0
 ·subst h;exact rises_0 A L cap w hL hl
 ·exact rises_1 lv (by omega) A L cap w hL hl
end Go.Proofs.YteilnbnnhocciaaDoor.V

/-! V11 -/
namespace Go.Proofs.YteilnbnnhocciaaDoor.V
open Go.Proofs Go.RowKit Go.Maps Go.ChangeMaps Go.MapKept Go.WideMaps Go.Proofs.YteilnbnnhocciaaDoorM
theorem law103:Keyed Tryd.prog 22:=int_keyed Tryd.underlying22
theorem zero4 (w:World):(zeroValue 4).run Tryd.prog w = .ok (.bool false) w:=by kernel_rfl
theorem plainElem_bool_inv {P:Program} {t:TypeId} (he:P.underlying t = some .bool) {v:Value} {z:DataW Unit × List MemPlace} (h:plainElem P t v = some z):∃ b,v = .bool b ∧ z = (.lit (.bool b),[]):=by
 unfold plainElem at h
 rw [he] at h
 cases v with
 | bool b=>exact ⟨b,rfl,(Option.some.inj h).symm⟩
 | _=>cases h
def Seen (w:World) (m:Nat) (S:List Int):Prop:=
 ∃ (D:DataW Unit) (n:Nat),w.ownsMap Tryd.prog 22 (plainElem Tryd.prog 4) m n D ∧ n ≤ S.length ∧ ∀ x:Int,D.atKey (.int .u64 x) (.lit (.bool false)) = .lit (.bool (S.contains x))
theorem Seen.lt {w:World} {m:Nat} {S:List Int} (h:Seen w m S):m < w.heap.size:=by
 obtain ⟨D,n,ho,_⟩:=h
 exact ho.lt
theorem Seen.made (w:World):Seen (w.alloc (.map #[] 0)) w.heap.size []:=⟨.map [],0,World.ownsMap_made _ _ _ _,Nat.le_refl _,fun x=>rfl⟩
theorem Seen.keep {w w':World} {m:Nat} {S:List Int} (h:Seen w m S) (hb:w'.heap[m]? = w.heap[m]?):Seen w' m S:=by
 obtain ⟨D,n,⟨es,clock,hh,F,hs,hD⟩,hn,hx⟩:=h
 exact ⟨D,n,⟨es,clock,hb.trans hh,F,hs,hD⟩,hn,hx⟩
theorem Seen.below {w w':World} {m:Nat} {S:List Int} (h:Seen w m S) (b:Below w.heap.size w w'):Seen w' m S:=h.keep (b.block m h.lt)
theorem Seen.alloc {w:World} {m:Nat} {S:List Int} (h:Seen w m S) (o:Obj):Seen (w.alloc o) m S:=h.below ((Below.refl _ w).alloc (Nat.le_refl _) o)
theorem Seen.look {w:World} {m:Nat} {S:List Int} (h:Seen w m S) (x:Int) (hx:(Lit.int .u64 x).wf = true) :
  (Instr.lookup 103 (.map (some m)) (.int .u64 x) false).run Tryd.prog w = .ok (.bool (S.contains x)) w:=by
 obtain ⟨D,n,ho,hn,hS⟩:=h
 obtain ⟨v,ps,hrun,hv⟩:=ho.lookup law103 Tryd.underlying103 (zero4 w) (plainElem_bool Tryd.underlying4 false) (keyOf_int_mk Tryd.underlying22 hx)
 obtain ⟨b,rfl,hz⟩:=plainElem_bool_inv Tryd.underlying4 hv
 have e:=congrArg Prod.fst hz
 rw [hS x] at e
 have:S.contains x = b:=Lit.bool.inj (DataW.lit.inj e)
 rw [hrun,this]
theorem Seen.store {w:World} {m:Nat} {S:List Int} (h:Seen w m S) (x:Int) (hx:(Lit.int .u64 x).wf = true) (hl:S.length < 1000000000) :
  ∃ w',(Instr.mapUpdate 103 (.map (some m)) (.int .u64 x) (.bool true)).run Tryd.prog w = .ok () w' ∧ Seen w' m (x :: S) ∧ w.grownBy w' (some m):=by
 obtain ⟨D,n,ho,hn,hS⟩:=h
 obtain ⟨w',hrun,ho',ht⟩:=ho.store law103 Tryd.underlying103 (by unfold maxLen;omega) (keyOf_int_mk Tryd.underlying22 hx) (plainElem_bool Tryd.underlying4 true)
 refine ⟨w',hrun,⟨_,_,ho',by simp;omega,fun y=>?_⟩,ht.grown⟩
 by_cases e:y = x
 ·subst e
  rw [atKey_put_same ho.isMap (by simp [WideAt.IsKeyLit])]
  simp
 ·rw [atKey_put_other (by intro h;injection h with h1 h2;exact e h2),hS y]
  simp [e]
end Go.Proofs.YteilnbnnhocciaaDoor.V

/-! M1 -/
namespace Go.Proofs
open Go.Shelf
def Tryd.lays169_ren:Go.Shelf.Ren:=⟨fun | 169=>83 | n=>n,fun | 70=>138 | 9=>9 | 0=>0 | 72=>140 | 37=>64 | 127=>188 | 3=>3 | 5=>5 | n=>n,fun | n=>n⟩
theorem Tryd.lays169:Go.Proofs.Lays.n169 Tryd.prog Tryd.lays169_ren:={
 mixed:=by kernel_rfl
 f169:=Tryd.func83.trans (congrArg some (by kernel_rfl))
 t0:=Tryd.underlying0
 a0:=Tryd.isAgg0
 z0:=Tryd.sizeOf0
 v0:=Tryd.zeroValue0
 t3:=Tryd.underlying3
 a3:=Tryd.isAgg3
 z3:=Tryd.sizeOf3
 v3:=Tryd.zeroValue3
 t9:=Tryd.underlying9
 a9:=Tryd.isAgg9
 z9:=Tryd.sizeOf9
 v9:=Tryd.zeroValue9
 t37:=Tryd.underlying64
 a37:=Tryd.isAgg64
 z37:=Tryd.sizeOf64
 v37:=Tryd.zeroValue64
 t70:=Tryd.underlying138
 a70:=Tryd.isAgg138
 z70:=Tryd.sizeOf138
 v70:=Tryd.zeroValue138
 t72:=Tryd.underlying140
 a72:=Tryd.isAgg140
 z72:=Tryd.sizeOf140
 v72:=Tryd.zeroValue140
 t127:=Tryd.underlying188
 a127:=Tryd.isAgg188
 z127:=Tryd.sizeOf188
 v127:=Tryd.zeroValue188 }
theorem Tryd.Builder_Extra_169:Builder.Extra Tryd.prog Tryd.lays169_ren:={
 sizeBuilder:=by kernel_rfl
 liesBuilder:=by kernel_rfl
 t5:=Tryd.underlying5
 a5:=Tryd.isAgg5
 z5:=Tryd.sizeOf5
 v5:=Tryd.zeroValue5
 infoByte:=by kernel_rfl
 cellsByte:=by kernel_rfl
 sizeByte:=by kernel_rfl
 neB5:=by decide }
open Go.RowKit in
open Go.RowKit in
open Go.RowKit in
theorem Tryd.Builder_String_any (B b:Nat) (l:List UInt8) (w:World) (h:Lib.IsBuilder 140 5 B b (Lib.byteCells l) w) (hBw:B ≤ w.heap.size) :
  Calls Tryd.prog 83 #[.pointer (some ⟨b,0,none⟩)] w fun e w'=>e = .returned (.string ⟨l.toArray⟩) ∧ Below B w w':=Any.Builder_String_any Tryd.lays169 Tryd.Builder_Extra_169 B b l w h hBw
end Go.Proofs
namespace Go.Proofs.YteilnbnnhocciaaDoorM
open Go.RowKit
theorem infoB:(Tryd.prog.info? 140).map (fun i=>i.size) = some 2:=by kernel_rfl
theorem info5:(Tryd.prog.info? 5).map (fun i=>(i.zero,i.size,i.bytes)) = some (some (.int .u8 0),1,1):=by kernel_rfl
theorem liesB:liesAt Tryd.prog Tryd.prog.depth 140 (2 / Tryd.prog.cellsOf 140) 0 140 1 = true:=by kernel_rfl
set_option maxHeartbeats 1000000 in
set_option maxRecDepth 100000 in
theorem copyCheck_used (b:Nat) (w:World) (h0:w.cell? ⟨b,0,none⟩ = some (.pointer (some ⟨b,0,none⟩))) :
  Calls Tryd.prog 118 #[.pointer (some ⟨b,0,none⟩)] w fun e w'=>e = .returned (.tuple #[]) ∧ w' = w:=by
 obtain ⟨j,hj,_⟩:=Option.map_eq_some_iff.1 infoB
 go_enter Tryd.func118,Tryd.ntmps118
 go_wp2
 rw [Lib.run_neq_ptr_same w _ Tryd.underlying138 hj]
 go_wp2
 go_end0
 exact ⟨rfl,rfl⟩
set_option maxHeartbeats 1000000 in
set_option maxRecDepth 100000 in
theorem copyCheck_fresh (b:Nat) (w:World) (h0:w.cell? ⟨b,0,none⟩ = some (.pointer none)) (hsh:w.shape? b = some (140,2)) (hfz:w.frozen? ⟨b,0,none⟩ = false) :
  Calls Tryd.prog 118 #[.pointer (some ⟨b,0,none⟩)] w fun e w'=>e = .returned (.tuple #[]) ∧ w' = w.setCell ⟨b,0,none⟩ (.pointer (some ⟨b,0,none⟩)):=by
 obtain ⟨j,hj,hjs⟩:=Option.map_eq_some_iff.1 infoB
 go_enter Tryd.func118,Tryd.ntmps118
 go_wp2
 rw [Lib.run_to_unsafe w ⟨b,0,none⟩ Tryd.underlying138 Tryd.underlying203 hj (by rw [hjs];decide) hsh (Nat.zero_lt_succ 1)]
 simp only [Result.andThen]
 rw [Oper.upon_value]
 go_wp2
 rw [run_callFunc_extern Tryd.func143 (by kernel_rfl) (by kernel_rfl) (by kernel_rfl) (e:=Extern.AbiNoEscape.same) (by kernel_rfl)]
 rw [Lib.run_noEscape]
 simp only [Result.andThen]
 rw [Oper.upon_value]
 go_wp2
 rw [Lib.run_from_unsafe w ⟨b,0,none⟩ Tryd.underlying203 Tryd.underlying138 hj hsh liesB]
 simp only [Result.andThen]
 rw [Oper.upon_value]
 go_wp2
 go_end0
 exact ⟨rfl,rfl⟩
theorem copyCheck (B b:Nat) (bs:List Value) (w:World) (h:Lib.IsBuilder 140 5 B b bs w) :
  Calls Tryd.prog 118 #[.pointer (some ⟨b,0,none⟩)] w fun e w'=>e = .returned (.tuple #[]) ∧ (Lib.BuilderAt 140 5 B b (.pointer (some ⟨b,0,none⟩)) bs w' ∧ Below B w w'):=by
 rcases h with h | h
 ·refine (copyCheck_fresh b w h.cell0 h.shape h.frozen0).mono ?_
  rintro e w' ⟨rfl,rfl⟩
  exact ⟨rfl,h.used _,(Below.refl B w).setCell (p:=⟨b,0,none⟩) h.1 _⟩
 ·refine (copyCheck_used b w h.cell0).mono ?_
  rintro e w' ⟨rfl,rfl⟩
  exact ⟨rfl,h,Below.refl B _⟩
set_option maxHeartbeats 2000000 in
set_option maxRecDepth 100000 in
theorem writeString (B b:Nat) (bs:List Value) (s:ByteArray) (w:World) (h:Lib.IsBuilder 140 5 B b bs w) (hlen:bs.length + s.size ≤ 140737488355328) (hBw:B ≤ w.heap.size) :
  Calls Tryd.prog 78 #[.pointer (some ⟨b,0,none⟩),.string s] w fun e w'=>e = .returned (.tuple #[.int .i64 s.size,.nilIface]) ∧ (Lib.BuilderAt 140 5 B b (.pointer (some ⟨b,0,none⟩)) (bs ++ Lib.strCells s) w' ∧ Below B w w'):=by
 obtain ⟨i0,hi,hz0,hz1,hz2⟩:=info_parts info5
 go_enter Tryd.func78,Tryd.ntmps78
 go_wp2_with (go_at_call 118;refine (copyCheck B b bs _ h).mono ?_)
 rintro e w1 ⟨rfl,h1,hb1⟩
 obtain ⟨hB,v,hbk,hown,hne⟩:=h1
 have c0:w1.cell? ⟨b,0,none⟩ = some (.pointer (some ⟨b,0,none⟩)):=by rw [Lib.cell_of_heap hbk];rfl
 have c1:w1.cell? ⟨b,1,none⟩ = some v:=by rw [Lib.cell_of_heap hbk];rfl
 go_wp2_with (at_builtin;refine Lib.wpList_append_own_string _ rfl _ _ 64 9 rfl B 5 i0 Tryd.underlying64 Tryd.underlying9 hi hz0 hz1 hz2 _ _ _ rfl hown s rfl ?c3 ?c4 ?c5 ?_)
 case c3=>unfold maxLen;omega
 case c4=>omega
 case c5=>have:=hb1.size;omega
 intro v' w2 hown' hgrow _
 have hlt:b < w1.heap.size:=by
  rcases Nat.lt_or_ge b w1.heap.size with h' | h'
  ·exact h'
  ·simp [Array.getElem?_eq_none h'] at hbk
 have hb2:w2.heap[b]? = some (.cells #[.pointer (some ⟨b,0,none⟩),v] 140 (0,0)):=by
  rw [hgrow.block b hlt (fun e=>hne e.symm)]
  exact hbk
 have d0:w2.cell? ⟨b,0,none⟩ = some (.pointer (some ⟨b,0,none⟩)):=by rw [Lib.cell_of_heap hb2];rfl
 have d1:w2.cell? ⟨b,1,none⟩ = some v:=by rw [Lib.cell_of_heap hb2];rfl
 have f1:w2.frozen? ⟨b,1,none⟩ = false:=Lib.frozen_of_heap hb2 1
 obtain ⟨ao,n',cap,rfl⟩:∃ ao n' cap,v' = .slice ao n' cap:=by
  rcases hown'.2 with ⟨hv,_⟩ | ⟨g,cap,cur,hv,_⟩
  ·exact ⟨_,_,_,hv⟩
  ·exact ⟨_,_,_,hv⟩
 go_wp2
 go_ret2
 refine ⟨rfl,?_,?_⟩
 ·exact Lib.BuilderAt.put (T:=140) (e:=5) hB hb2 (bs':=bs ++ Lib.strCells s) (by simpa [Lib.strCells_length] using hown') (by decide)
 ·exact (hb1.grown hgrow (by have:=hb1.size;omega) (fun k hk=>(hown.lt k hk).1)).setCell (p:=⟨b,1,none⟩) hB _
theorem builderAt_below {T e:TypeId} {B b:Nat} {p:Value} {bs:List Value} {w w1:World} (h:Lib.BuilderAt T e B b p bs w) (hb:Below w.heap.size w w1):Lib.BuilderAt T e B b p bs w1:=by
 obtain ⟨hB,v,hbk,hown,hne⟩:=h
 have hlt:b < w.heap.size:=Lib.BuilderAt.lt ⟨hB,v,hbk,hown,hne⟩
 exact ⟨hB,v,(hb.block b hlt).trans hbk,hown.kept (row:=none) ⟨hb.os,hb.tape,hb.output,hb.size,fun i hi _=>hb.block i hi⟩ (by cases v.ownBlock <;> simp),hne⟩
theorem builder_below {T e:TypeId} {B b:Nat} {bs:List Value} {w w1:World} (h:Lib.IsBuilder T e B b bs w) (hb:Below w.heap.size w w1):Lib.IsBuilder T e B b bs w1:=
 h.elim (fun h=>.inl (builderAt_below h hb)) (fun h=>.inr (builderAt_below h hb))
end Go.Proofs.YteilnbnnhocciaaDoorM

/-! M2 -/
namespace Go.Proofs
open Go.Shelf Go.Lib
def Tryd.lays283_ren:Go.Shelf.Ren:=⟨fun | 283=>157 | n=>n,fun | 3=>3 | 9=>9 | 4=>4 | n=>n,fun | n=>n⟩
theorem Tryd.lays283:Go.Proofs.Lays.n283 Tryd.prog Tryd.lays283_ren:={
 mixed:=by kernel_rfl
 f283:=Tryd.func157.trans (congrArg some (by kernel_rfl))
 t3:=Tryd.underlying3
 a3:=Tryd.isAgg3
 z3:=Tryd.sizeOf3
 v3:=Tryd.zeroValue3
 t4:=Tryd.underlying4
 a4:=Tryd.isAgg4
 z4:=Tryd.sizeOf4
 v4:=Tryd.zeroValue4
 t9:=Tryd.underlying9
 a9:=Tryd.isAgg9
 z9:=Tryd.sizeOf9
 v9:=Tryd.zeroValue9 }
theorem Tryd.internal_strconv_small (i:Nat) (h:i < 100) (w:World) :
  Calls Tryd.prog 157 #[.int .i64 i] w fun e w'=>e = .returned (.string ⟨(Lib.decDigits i).toArray⟩) ∧ w' = w:=Any.internal_strconv_small Tryd.lays283 i h w
end Go.Proofs
namespace Go.Proofs.YteilnbnnhocciaaDoorM
open Go.RowKit
set_option maxHeartbeats 1000000 in
theorem fmt_small (i:Nat) (h:i < 100) (w:World) :
  Calls Tryd.prog 128 #[.int .u64 i,.int .i64 10] w fun e w'=>e = .returned (.string ⟨(Lib.decDigits i).toArray⟩) ∧ w = w':=by
 go_enter Tryd.func128,Tryd.ntmps128
 go_wp2_with fail
 refine (Tryd.internal_strconv_small i h _).mono ?_
 rintro e w1 ⟨rfl,hw⟩
 subst hw
 go_wp2
 go_ret
 exact ⟨rfl,rfl⟩
set_option maxHeartbeats 1000000 in
theorem formatUint_small (i:Nat) (h:i < 100) (w:World) :
  Calls Tryd.prog 87 #[.int .u64 i,.int .i64 10] w fun e w'=>e = .returned (.string ⟨(Lib.decDigits i).toArray⟩) ∧ w = w':=by
 go_enter Tryd.func87,Tryd.ntmps87
 go_wp2_with fail
 refine (fmt_small i h _).mono ?_
 rintro e w1 ⟨rfl,rfl⟩
 go_wp2
 go_ret
 exact ⟨rfl,rfl⟩
set_option maxHeartbeats 1000000 in
theorem name_t7 (w:World) :
  Calls Tryd.prog 35 #[.string ⟨#[116]⟩,.int .u64 7] w fun e w'=>e = .returned (.string ⟨#[116,45,55]⟩) ∧ w = w':=by
 have hd:Lib.decDigits 7 = [55]:=by first | (simp [Lib.decDigits];done) | (rw [Lib.decDigits];rfl) | decide +kernel
 have H:=Hush.mk hd
 clear hd
 go_enter Tryd.func35,Tryd.ntmps35
 go_wp2_with fail
 refine (formatUint_small 7 (by decide) _).mono ?_
 rintro e w1 ⟨rfl,rfl⟩
 rw [H.out]
 go_wp2
 go_ret
 exact ⟨rfl,rfl⟩
end Go.Proofs.YteilnbnnhocciaaDoorM

/-! KV0 -/
namespace Go.Proofs.YteilnbnnhocciaaDoor.KV
open Go.RowKit Go.Proofs.YteilnbnnhocciaaDoorW.PrintWords Go.Proofs.YteilnbnnhocciaaDoorW.PrintLast Go.Proofs.YteilnbnnhocciaaDoorW.PrintMore Go.Proofs.YteilnbnnhocciaaDoorM
attribute [local go_sem] max2_int min2_int max_two min_two max_three min_three max_four min_four
def errW:Option Int → Value
 | none=>.nilIface
 | some c=>.iface 0 (.int .i64 c)
theorem errW_none:errW none = .nilIface:=rfl
theorem errW_some (c:Int):errW (some c) = .iface 0 (.int .i64 c):=rfl
theorem info112:(Tryd.prog.info? 112).map (fun i=>(i.zero,i.size,i.bytes)) = some (some (.agg #[(.int .u64 0),(.int .u64 0),(.int .u64 0),(.string ⟨#[]⟩),(.string ⟨#[]⟩)]),5,56):=by kernel_rfl
theorem info114:(Tryd.prog.info? 114).map (fun i=>(i.zero,i.size,i.bytes)) = some (some (.agg #[(.int .i64 0),(.int .u64 0),(.int .u64 0),(.int .u64 0),(.string ⟨#[]⟩),(.string ⟨#[]⟩)]),6,64):=by kernel_rfl
theorem info115:(Tryd.prog.info? 115).map (fun i=>(i.zero,i.size,i.bytes)) = some (some (.agg #[(.int .i64 0),(.int .u64 0)]),2,16):=by kernel_rfl
structure S97 where
 f0:Int
 f1:Int
 f2:Int
 f3:ByteArray
 f4:ByteArray
def z97:S97:=⟨(0:Int),(0:Int),(0:Int),(⟨#[]⟩:ByteArray),(⟨#[]⟩:ByteArray)⟩
def k97:Kd S97:=Kd.iso (Kd.pair (Kd.int .u64) (Kd.pair (Kd.int .u64) (Kd.pair (Kd.int .u64) (Kd.pair Kd.string Kd.string)))) (fun x:S97=>(x.f0,x.f1,x.f2,x.f3,x.f4))
theorem k97_open {w:World} {x:S97} {cs:List Value} (h:k97.K w x cs):cs = [.int .u64 x.f0,.int .u64 x.f1,.int .u64 x.f2,.string x.f3,.string x.f4]:=by
 obtain ⟨_,_,rfl,rfl,⟨_,_,rfl,rfl,⟨_,_,rfl,rfl,⟨_,_,rfl,rfl,rfl⟩⟩⟩⟩:=h
 exact rfl
theorem k97_mk (w:World) (x:S97)  : k97.K w x [.int .u64 x.f0,.int .u64 x.f1,.int .u64 x.f2,.string x.f3,.string x.f4]:=⟨[.int .u64 x.f0],[.int .u64 x.f1,.int .u64 x.f2,.string x.f3,.string x.f4],rfl,rfl,⟨[.int .u64 x.f1],[.int .u64 x.f2,.string x.f3,.string x.f4],rfl,rfl,⟨[.int .u64 x.f2],[.string x.f3,.string x.f4],rfl,rfl,⟨[.string x.f3],[.string x.f4],rfl,rfl,rfl⟩⟩⟩⟩
theorem k97_mkM (w:World) (base:Nat) (ok:Nat → Prop) (x:S97)  : k97.M w base ok x [.int .u64 x.f0,.int .u64 x.f1,.int .u64 x.f2,.string x.f3,.string x.f4]:=⟨[.int .u64 x.f0],[.int .u64 x.f1,.int .u64 x.f2,.string x.f3,.string x.f4],rfl,rfl,⟨[.int .u64 x.f1],[.int .u64 x.f2,.string x.f3,.string x.f4],rfl,rfl,⟨[.int .u64 x.f2],[.string x.f3,.string x.f4],rfl,rfl,⟨[.string x.f3],[.string x.f4],rfl,rfl,rfl⟩⟩⟩⟩
def rd_T97 (xs:List S97) (i:Int):S97:=xs.getD i.toNat z97
theorem at_T97 {w:World} {A:Option Addr} {n:Nat} {xs:List S97} (h:Kd.C k97 w A n xs) (i:Int) (h0:0 ≤ i) (h1:i < n):∃ ad ,A = some ad ∧ w.cell? (ad.add (i.toNat * 5)) = some (.int .u64 (rd_T97 xs i).f0) ∧ w.cell? ⟨(ad.add (i.toNat * 5)).block,(ad.add (i.toNat * 5)).off + 1,none⟩ = some (.int .u64 (rd_T97 xs i).f1) ∧ w.cell? ⟨(ad.add (i.toNat * 5)).block,(ad.add (i.toNat * 5)).off + 2,none⟩ = some (.int .u64 (rd_T97 xs i).f2) ∧ w.cell? ⟨(ad.add (i.toNat * 5)).block,(ad.add (i.toNat * 5)).off + 3,none⟩ = some (.string (rd_T97 xs i).f3) ∧ w.cell? ⟨(ad.add (i.toNat * 5)).block,(ad.add (i.toNat * 5)).off + 4,none⟩ = some (.string (rd_T97 xs i).f4):=by
 obtain ⟨ad,c,e,_,hK,hc0⟩:=Kd.C_get h z97 i h0 h1
 have hc:∀ j u,c[j]? = some u → w.cell? (ad.add (i.toNat * 5 + j)) = some u:=hc0
 obtain rfl:=k97_open hK
 exact ⟨ad,e,hc 0 _ rfl,by rw [← add_field _ _ 1 (by omega)];exact hc 1 _ rfl,by rw [← add_field _ _ 2 (by omega)];exact hc 2 _ rfl,by rw [← add_field _ _ 3 (by omega)];exact hc 3 _ rfl,by rw [← add_field _ _ 4 (by omega)];exact hc 4 _ rfl⟩
structure S107 where
 f0:Int
 f1:S97
def z107:S107:=⟨(0:Int),z97⟩
def k107:Kd S107:=Kd.iso (Kd.pair (Kd.int .i64) k97) (fun x:S107=>(x.f0,x.f1))
theorem k107_open {w:World} {x:S107} {cs:List Value} (h:k107.K w x cs):cs = [.int .i64 x.f0,.int .u64 x.f1.f0,.int .u64 x.f1.f1,.int .u64 x.f1.f2,.string x.f1.f3,.string x.f1.f4]:=by
 obtain ⟨_,_,rfl,rfl,s1⟩:=h
 obtain rfl:=k97_open s1
 exact rfl
theorem k107_mk (w:World) (x:S107)  : k107.K w x [.int .i64 x.f0,.int .u64 x.f1.f0,.int .u64 x.f1.f1,.int .u64 x.f1.f2,.string x.f1.f3,.string x.f1.f4]:=⟨[.int .i64 x.f0],[.int .u64 x.f1.f0,.int .u64 x.f1.f1,.int .u64 x.f1.f2,.string x.f1.f3,.string x.f1.f4],rfl,rfl,(k97_mk w x.f1 )⟩
theorem k107_mkM (w:World) (base:Nat) (ok:Nat → Prop) (x:S107)  : k107.M w base ok x [.int .i64 x.f0,.int .u64 x.f1.f0,.int .u64 x.f1.f1,.int .u64 x.f1.f2,.string x.f1.f3,.string x.f1.f4]:=⟨[.int .i64 x.f0],[.int .u64 x.f1.f0,.int .u64 x.f1.f1,.int .u64 x.f1.f2,.string x.f1.f3,.string x.f1.f4],rfl,rfl,(k97_mkM w base ok x.f1 )⟩
def rd_T107 (xs:List S107) (i:Int):S107:=xs.getD i.toNat z107
theorem at_T107 {w:World} {A:Option Addr} {n:Nat} {xs:List S107} (h:Kd.C k107 w A n xs) (i:Int) (h0:0 ≤ i) (h1:i < n):∃ ad ,A = some ad ∧ w.cell? (ad.add (i.toNat * 6)) = some (.int .i64 (rd_T107 xs i).f0) ∧ w.cell? ⟨(ad.add (i.toNat * 6)).block,(ad.add (i.toNat * 6)).off + 1,none⟩ = some (.int .u64 (rd_T107 xs i).f1.f0) ∧ w.cell? ⟨(ad.add (i.toNat * 6)).block,(ad.add (i.toNat * 6)).off + 2,none⟩ = some (.int .u64 (rd_T107 xs i).f1.f1) ∧ w.cell? ⟨(ad.add (i.toNat * 6)).block,(ad.add (i.toNat * 6)).off + 3,none⟩ = some (.int .u64 (rd_T107 xs i).f1.f2) ∧ w.cell? ⟨(ad.add (i.toNat * 6)).block,(ad.add (i.toNat * 6)).off + 4,none⟩ = some (.string (rd_T107 xs i).f1.f3) ∧ w.cell? ⟨(ad.add (i.toNat * 6)).block,(ad.add (i.toNat * 6)).off + 5,none⟩ = some (.string (rd_T107 xs i).f1.f4):=by
 obtain ⟨ad,c,e,_,hK,hc0⟩:=Kd.C_get h z107 i h0 h1
 have hc:∀ j u,c[j]? = some u → w.cell? (ad.add (i.toNat * 6 + j)) = some u:=hc0
 obtain rfl:=k107_open hK
 exact ⟨ad,e,hc 0 _ rfl,by rw [← add_field _ _ 1 (by omega)];exact hc 1 _ rfl,by rw [← add_field _ _ 2 (by omega)];exact hc 2 _ rfl,by rw [← add_field _ _ 3 (by omega)];exact hc 3 _ rfl,by rw [← add_field _ _ 4 (by omega)];exact hc 4 _ rfl,by rw [← add_field _ _ 5 (by omega)];exact hc 5 _ rfl⟩
structure S111 where
 f0:Int
 f1:Int
def z111:S111:=⟨(0:Int),(0:Int)⟩
def k111:Kd S111:=Kd.iso (Kd.pair (Kd.int .i64) (Kd.int .u64)) (fun x:S111=>(x.f0,x.f1))
theorem k111_open {w:World} {x:S111} {cs:List Value} (h:k111.K w x cs):cs = [.int .i64 x.f0,.int .u64 x.f1]:=by
 obtain ⟨_,_,rfl,rfl,rfl⟩:=h
 exact rfl
theorem k111_mkM (w:World) (base:Nat) (ok:Nat → Prop) (x:S111)  : k111.M w base ok x [.int .i64 x.f0,.int .u64 x.f1]:=⟨[.int .i64 x.f0],[.int .u64 x.f1],rfl,rfl,rfl⟩
def rd_T111 (xs:List S111) (i:Int):S111:=xs.getD i.toNat z111
theorem at_T111 {w:World} {A:Option Addr} {n:Nat} {xs:List S111} (h:Kd.C k111 w A n xs) (i:Int) (h0:0 ≤ i) (h1:i < n):∃ ad ,A = some ad ∧ w.cell? (ad.add (i.toNat * 2)) = some (.int .i64 (rd_T111 xs i).f0) ∧ w.cell? ⟨(ad.add (i.toNat * 2)).block,(ad.add (i.toNat * 2)).off + 1,none⟩ = some (.int .u64 (rd_T111 xs i).f1):=by
 obtain ⟨ad,c,e,_,hK,hc0⟩:=Kd.C_get h z111 i h0 h1
 have hc:∀ j u,c[j]? = some u → w.cell? (ad.add (i.toNat * 2 + j)) = some u:=hc0
 obtain rfl:=k111_open hK
 exact ⟨ad,e,hc 0 _ rfl,by rw [← add_field _ _ 1 (by omega)];exact hc 1 _ rfl⟩
structure S26 where
 f0:Int
 f1:Int
 f2:Int
 f3:(List S107)
 f4:(List S111)
def z26:S26:=⟨(0:Int),(0:Int),(0:Int),([]:List S107),([]:List S111)⟩
def k26:Kd S26:=Kd.iso (Kd.pair (Kd.int .u64) (Kd.pair (Kd.int .u64) (Kd.pair (Kd.int .u64) (Kd.pair (Kd.slice 107 k107) (Kd.slice 111 k111))))) (fun x:S26=>(x.f0,x.f1,x.f2,x.f3,x.f4))
theorem k26_open {w:World} {x:S26} {cs:List Value} (h:k26.K w x cs):∃ A3 c3 A4 c4,cs = [.int .u64 x.f0,.int .u64 x.f1,.int .u64 x.f2,.slice A3 x.f3.length c3,.slice A4 x.f4.length c4] ∧ x.f3.length ≤ c3 ∧ k107.C w A3 x.f3.length x.f3 ∧ x.f4.length ≤ c4 ∧ k111.C w A4 x.f4.length x.f4:=by
 obtain ⟨_,_,rfl,rfl,⟨_,_,rfl,rfl,⟨_,_,rfl,rfl,⟨_,_,rfl,⟨A3,c3,rfl,l3,g3⟩,⟨A4,c4,rfl,l4,g4⟩⟩⟩⟩⟩:=h
 exact ⟨A3,c3,A4,c4,rfl,l3,g3,l4,g4⟩
theorem k26_mk (w:World) (x:S26) {A3:Option Addr} {c3:Nat} (l3:x.f3.length ≤ c3) (g3:k107.C w A3 x.f3.length x.f3) {A4:Option Addr} {c4:Nat} (l4:x.f4.length ≤ c4) (g4:k111.C w A4 x.f4.length x.f4):k26.K w x [.int .u64 x.f0,.int .u64 x.f1,.int .u64 x.f2,.slice A3 x.f3.length c3,.slice A4 x.f4.length c4]:=⟨[.int .u64 x.f0],[.int .u64 x.f1,.int .u64 x.f2,.slice A3 x.f3.length c3,.slice A4 x.f4.length c4],rfl,rfl,⟨[.int .u64 x.f1],[.int .u64 x.f2,.slice A3 x.f3.length c3,.slice A4 x.f4.length c4],rfl,rfl,⟨[.int .u64 x.f2],[.slice A3 x.f3.length c3,.slice A4 x.f4.length c4],rfl,rfl,⟨[.slice A3 x.f3.length c3],[.slice A4 x.f4.length c4],rfl,⟨A3,c3,rfl,l3,g3⟩,⟨A4,c4,rfl,l4,g4⟩⟩⟩⟩⟩
def rd_T26 (xs:List S26) (i:Int):S26:=xs.getD i.toNat z26
theorem at_T26 {w:World} {A:Option Addr} {n:Nat} {xs:List S26} (h:Kd.C k26 w A n xs) (i:Int) (h0:0 ≤ i) (h1:i < n):∃ ad A3 c3 A4 c4,A = some ad ∧ w.cell? (ad.add (i.toNat * 5)) = some (.int .u64 (rd_T26 xs i).f0) ∧ w.cell? ⟨(ad.add (i.toNat * 5)).block,(ad.add (i.toNat * 5)).off + 1,none⟩ = some (.int .u64 (rd_T26 xs i).f1) ∧ w.cell? ⟨(ad.add (i.toNat * 5)).block,(ad.add (i.toNat * 5)).off + 2,none⟩ = some (.int .u64 (rd_T26 xs i).f2) ∧ w.cell? ⟨(ad.add (i.toNat * 5)).block,(ad.add (i.toNat * 5)).off + 3,none⟩ = some (.slice A3 (rd_T26 xs i).f3.length c3) ∧ w.cell? ⟨(ad.add (i.toNat * 5)).block,(ad.add (i.toNat * 5)).off + 4,none⟩ = some (.slice A4 (rd_T26 xs i).f4.length c4) ∧ (rd_T26 xs i).f3.length ≤ c3 ∧ k107.C w A3 (rd_T26 xs i).f3.length (rd_T26 xs i).f3 ∧ (rd_T26 xs i).f4.length ≤ c4 ∧ k111.C w A4 (rd_T26 xs i).f4.length (rd_T26 xs i).f4:=by
 obtain ⟨ad,c,e,_,hK,hc0⟩:=Kd.C_get h z26 i h0 h1
 have hc:∀ j u,c[j]? = some u → w.cell? (ad.add (i.toNat * 5 + j)) = some u:=hc0
 obtain ⟨A3,c3,A4,c4,rfl,l3,g3,l4,g4⟩:=k26_open hK
 exact ⟨ad,A3,c3,A4,c4,e,hc 0 _ rfl,by rw [← add_field _ _ 1 (by omega)];exact hc 1 _ rfl,by rw [← add_field _ _ 2 (by omega)];exact hc 2 _ rfl,by rw [← add_field _ _ 3 (by omega)];exact hc 3 _ rfl,by rw [← add_field _ _ 4 (by omega)];exact hc 4 _ rfl,l3,g3,l4,g4⟩
structure S112 where
 f0:Int
 f1:Int
 f2:Int
 f3:ByteArray
 f4:ByteArray
def z112:S112:=⟨(0:Int),(0:Int),(0:Int),(⟨#[]⟩:ByteArray),(⟨#[]⟩:ByteArray)⟩
def k112:Kd S112:=Kd.iso (Kd.pair (Kd.int .u64) (Kd.pair (Kd.int .u64) (Kd.pair (Kd.int .u64) (Kd.pair Kd.string Kd.string)))) (fun x:S112=>(x.f0,x.f1,x.f2,x.f3,x.f4))
theorem k112_open {w:World} {x:S112} {cs:List Value} (h:k112.K w x cs):cs = [.int .u64 x.f0,.int .u64 x.f1,.int .u64 x.f2,.string x.f3,.string x.f4]:=by
 obtain ⟨_,_,rfl,rfl,⟨_,_,rfl,rfl,⟨_,_,rfl,rfl,⟨_,_,rfl,rfl,rfl⟩⟩⟩⟩:=h
 exact rfl
theorem k112_mk (w:World) (x:S112)  : k112.K w x [.int .u64 x.f0,.int .u64 x.f1,.int .u64 x.f2,.string x.f3,.string x.f4]:=⟨[.int .u64 x.f0],[.int .u64 x.f1,.int .u64 x.f2,.string x.f3,.string x.f4],rfl,rfl,⟨[.int .u64 x.f1],[.int .u64 x.f2,.string x.f3,.string x.f4],rfl,rfl,⟨[.int .u64 x.f2],[.string x.f3,.string x.f4],rfl,rfl,⟨[.string x.f3],[.string x.f4],rfl,rfl,rfl⟩⟩⟩⟩
theorem k112_mkM (w:World) (base:Nat) (ok:Nat → Prop) (x:S112)  : k112.M w base ok x [.int .u64 x.f0,.int .u64 x.f1,.int .u64 x.f2,.string x.f3,.string x.f4]:=⟨[.int .u64 x.f0],[.int .u64 x.f1,.int .u64 x.f2,.string x.f3,.string x.f4],rfl,rfl,⟨[.int .u64 x.f1],[.int .u64 x.f2,.string x.f3,.string x.f4],rfl,rfl,⟨[.int .u64 x.f2],[.string x.f3,.string x.f4],rfl,rfl,⟨[.string x.f3],[.string x.f4],rfl,rfl,rfl⟩⟩⟩⟩
def rd_T112 (xs:List S112) (i:Int):S112:=xs.getD i.toNat z112
theorem at_T112 {w:World} {A:Option Addr} {n:Nat} {xs:List S112} (h:Kd.C k112 w A n xs) (i:Int) (h0:0 ≤ i) (h1:i < n):∃ ad ,A = some ad ∧ w.cell? (ad.add (i.toNat * 5)) = some (.int .u64 (rd_T112 xs i).f0) ∧ w.cell? ⟨(ad.add (i.toNat * 5)).block,(ad.add (i.toNat * 5)).off + 1,none⟩ = some (.int .u64 (rd_T112 xs i).f1) ∧ w.cell? ⟨(ad.add (i.toNat * 5)).block,(ad.add (i.toNat * 5)).off + 2,none⟩ = some (.int .u64 (rd_T112 xs i).f2) ∧ w.cell? ⟨(ad.add (i.toNat * 5)).block,(ad.add (i.toNat * 5)).off + 3,none⟩ = some (.string (rd_T112 xs i).f3) ∧ w.cell? ⟨(ad.add (i.toNat * 5)).block,(ad.add (i.toNat * 5)).off + 4,none⟩ = some (.string (rd_T112 xs i).f4):=by
 obtain ⟨ad,c,e,_,hK,hc0⟩:=Kd.C_get h z112 i h0 h1
 have hc:∀ j u,c[j]? = some u → w.cell? (ad.add (i.toNat * 5 + j)) = some u:=hc0
 obtain rfl:=k112_open hK
 exact ⟨ad,e,hc 0 _ rfl,by rw [← add_field _ _ 1 (by omega)];exact hc 1 _ rfl,by rw [← add_field _ _ 2 (by omega)];exact hc 2 _ rfl,by rw [← add_field _ _ 3 (by omega)];exact hc 3 _ rfl,by rw [← add_field _ _ 4 (by omega)];exact hc 4 _ rfl⟩
structure S114 where
 f0:Int
 f1:S112
def z114:S114:=⟨(0:Int),z112⟩
def k114:Kd S114:=Kd.iso (Kd.pair (Kd.int .i64) k112) (fun x:S114=>(x.f0,x.f1))
theorem k114_open {w:World} {x:S114} {cs:List Value} (h:k114.K w x cs):cs = [.int .i64 x.f0,.int .u64 x.f1.f0,.int .u64 x.f1.f1,.int .u64 x.f1.f2,.string x.f1.f3,.string x.f1.f4]:=by
 obtain ⟨_,_,rfl,rfl,s1⟩:=h
 obtain rfl:=k112_open s1
 exact rfl
theorem k114_mk (w:World) (x:S114)  : k114.K w x [.int .i64 x.f0,.int .u64 x.f1.f0,.int .u64 x.f1.f1,.int .u64 x.f1.f2,.string x.f1.f3,.string x.f1.f4]:=⟨[.int .i64 x.f0],[.int .u64 x.f1.f0,.int .u64 x.f1.f1,.int .u64 x.f1.f2,.string x.f1.f3,.string x.f1.f4],rfl,rfl,(k112_mk w x.f1 )⟩
theorem k114_mkM (w:World) (base:Nat) (ok:Nat → Prop) (x:S114)  : k114.M w base ok x [.int .i64 x.f0,.int .u64 x.f1.f0,.int .u64 x.f1.f1,.int .u64 x.f1.f2,.string x.f1.f3,.string x.f1.f4]:=⟨[.int .i64 x.f0],[.int .u64 x.f1.f0,.int .u64 x.f1.f1,.int .u64 x.f1.f2,.string x.f1.f3,.string x.f1.f4],rfl,rfl,(k112_mkM w base ok x.f1 )⟩
def rd_T114 (xs:List S114) (i:Int):S114:=xs.getD i.toNat z114
theorem at_T114 {w:World} {A:Option Addr} {n:Nat} {xs:List S114} (h:Kd.C k114 w A n xs) (i:Int) (h0:0 ≤ i) (h1:i < n):∃ ad ,A = some ad ∧ w.cell? (ad.add (i.toNat * 6)) = some (.int .i64 (rd_T114 xs i).f0) ∧ w.cell? ⟨(ad.add (i.toNat * 6)).block,(ad.add (i.toNat * 6)).off + 1,none⟩ = some (.int .u64 (rd_T114 xs i).f1.f0) ∧ w.cell? ⟨(ad.add (i.toNat * 6)).block,(ad.add (i.toNat * 6)).off + 2,none⟩ = some (.int .u64 (rd_T114 xs i).f1.f1) ∧ w.cell? ⟨(ad.add (i.toNat * 6)).block,(ad.add (i.toNat * 6)).off + 3,none⟩ = some (.int .u64 (rd_T114 xs i).f1.f2) ∧ w.cell? ⟨(ad.add (i.toNat * 6)).block,(ad.add (i.toNat * 6)).off + 4,none⟩ = some (.string (rd_T114 xs i).f1.f3) ∧ w.cell? ⟨(ad.add (i.toNat * 6)).block,(ad.add (i.toNat * 6)).off + 5,none⟩ = some (.string (rd_T114 xs i).f1.f4):=by
 obtain ⟨ad,c,e,_,hK,hc0⟩:=Kd.C_get h z114 i h0 h1
 have hc:∀ j u,c[j]? = some u → w.cell? (ad.add (i.toNat * 6 + j)) = some u:=hc0
 obtain rfl:=k114_open hK
 exact ⟨ad,e,hc 0 _ rfl,by rw [← add_field _ _ 1 (by omega)];exact hc 1 _ rfl,by rw [← add_field _ _ 2 (by omega)];exact hc 2 _ rfl,by rw [← add_field _ _ 3 (by omega)];exact hc 3 _ rfl,by rw [← add_field _ _ 4 (by omega)];exact hc 4 _ rfl,by rw [← add_field _ _ 5 (by omega)];exact hc 5 _ rfl⟩
structure S115 where
 f0:Int
 f1:Int
def z115:S115:=⟨(0:Int),(0:Int)⟩
def k115:Kd S115:=Kd.iso (Kd.pair (Kd.int .i64) (Kd.int .u64)) (fun x:S115=>(x.f0,x.f1))
theorem k115_open {w:World} {x:S115} {cs:List Value} (h:k115.K w x cs):cs = [.int .i64 x.f0,.int .u64 x.f1]:=by
 obtain ⟨_,_,rfl,rfl,rfl⟩:=h
 exact rfl
theorem k115_mkM (w:World) (base:Nat) (ok:Nat → Prop) (x:S115)  : k115.M w base ok x [.int .i64 x.f0,.int .u64 x.f1]:=⟨[.int .i64 x.f0],[.int .u64 x.f1],rfl,rfl,rfl⟩
def rd_T115 (xs:List S115) (i:Int):S115:=xs.getD i.toNat z115
theorem at_T115 {w:World} {A:Option Addr} {n:Nat} {xs:List S115} (h:Kd.C k115 w A n xs) (i:Int) (h0:0 ≤ i) (h1:i < n):∃ ad ,A = some ad ∧ w.cell? (ad.add (i.toNat * 2)) = some (.int .i64 (rd_T115 xs i).f0) ∧ w.cell? ⟨(ad.add (i.toNat * 2)).block,(ad.add (i.toNat * 2)).off + 1,none⟩ = some (.int .u64 (rd_T115 xs i).f1):=by
 obtain ⟨ad,c,e,_,hK,hc0⟩:=Kd.C_get h z115 i h0 h1
 have hc:∀ j u,c[j]? = some u → w.cell? (ad.add (i.toNat * 2 + j)) = some u:=hc0
 obtain rfl:=k115_open hK
 exact ⟨ad,e,hc 0 _ rfl,by rw [← add_field _ _ 1 (by omega)];exact hc 1 _ rfl⟩
end Go.Proofs.YteilnbnnhocciaaDoor.KV

/-! KV9 -/
namespace Go.Proofs.YteilnbnnhocciaaDoor.KV
open Go.RowKit Go.Proofs.YteilnbnnhocciaaDoorW.PrintWords Go.Proofs.YteilnbnnhocciaaDoorW.PrintLast Go.Proofs.YteilnbnnhocciaaDoorW.PrintMore Go.Proofs.YteilnbnnhocciaaDoorM
attribute [local go_sem] max2_int min2_int max_two min_two max_three min_three max_four min_four
attribute [local go_sem] gtr_run leq_run geq_run
def edit_levelB (n:Int):Bool:=decide (0 ≤ n ∧ n < 4)
def edit_keyedB (s:ByteArray):Bool:=decide (0 < s.size ∧ s.size ≤ 200)
def edit_wrong.val (lv num:Int) (least most:ByteArray):Int:=
 if edit_levelB lv = false then 21 else if (edit_keyedB least && edit_keyedB most && !Op.bytesLess most.toList least.toList) = false then 19 else if num = 0 then 8 else 0
set_option maxHeartbeats 1000000 in
theorem edit_level.any (n:Int) (w:World):Calls Tryd.prog 70 #[.int .i64 n] w fun e w'=>e = .returned (.bool (edit_levelB n)) ∧ w = w':=by
 unfold edit_levelB
 by_cases h0:0 ≤ n <;> by_cases h1:n < 4
 all_goals
  go_enter Tryd.func70,Tryd.ntmps70
  go_wp2
  go_ret
  exact ⟨by simp [h0,h1],rfl⟩
set_option maxHeartbeats 1000000 in
theorem edit_keyed.any (s:ByteArray) (w:World):Calls Tryd.prog 113 #[.string s] w fun e w'=>e = .returned (.bool (edit_keyedB s)) ∧ w = w':=by
 unfold edit_keyedB
 by_cases h0:s.toList = []
 ·have h2:=(toList_nil_iff s).1 h0
  go_enter Tryd.func113,Tryd.ntmps113
  go_wp2
  go_ret
  exact ⟨by simp [h2],rfl⟩
 ·have h2:¬ s.size = 0:=fun h=>h0 ((toList_nil_iff s).2 h)
  have h3:s.toList.isEmpty = false:=by simpa using h0
  have h4:(s.toList == []) = false:=by simpa using h0
  go_enter Tryd.func113,Tryd.ntmps113
  go_wp2
  go_ret
  exact ⟨by simp [Nat.pos_of_ne_zero h2];omega,rfl⟩
def edit_wrong.Post (w:World) (r:Int) (e:Ending) (w':World):Prop:=e = .returned (.int .i64 r) ∧ Below w.heap.size w w'
set_option maxHeartbeats 2000000 in
set_option maxRecDepth 100000 in
theorem edit_wrong.walk (a0_0:Int) (a0_1:Int) (a0_2:Int) (a0_3:Int) (a0_4:ByteArray) (a0_5:ByteArray) (w:World) :
  Calls Tryd.prog 67 #[.agg #[.int .i64 a0_0,.int .u64 a0_1,.int .u64 a0_2,.int .u64 a0_3,.string a0_4,.string a0_5]] w (edit_wrong.Post w (edit_wrong.val a0_0 a0_1 a0_4 a0_5)):=by
 have B2:=fun (o o':Obj)=>Hush.mk (((Below.refl w.heap.size w).alloc (Nat.le_refl _) o).alloc (by simp) o')
 by_cases hl:edit_levelB a0_0 = true
 ·by_cases hk:edit_keyedB a0_4 = true
  ·by_cases hk2:edit_keyedB a0_5 = true
   ·by_cases hg:Op.bytesLess a0_5.toList a0_4.toList = true
    ·have hv:Hush (edit_wrong.val a0_0 a0_1 a0_4 a0_5 = 19):=⟨by simp [edit_wrong.val,hl,hk,hk2,hg]⟩
     go_enter Tryd.func67,Tryd.ntmps67
     go_wp2_with fail
     refine (edit_level.any _ _).mono ?_
     rintro e w1 ⟨rfl,rfl⟩
     go_wp2_with fail
     refine (edit_keyed.any _ _).mono ?_
     rintro e w1 ⟨rfl,rfl⟩
     go_wp2_with fail
     refine (edit_keyed.any _ _).mono ?_
     rintro e w1 ⟨rfl,rfl⟩
     go_wp2
     go_ret
     exact ⟨by rw [hv.out];rfl,(B2 _ _).out⟩
    ·have hg':Op.bytesLess a0_5.toList a0_4.toList = false:=by simpa using hg
     by_cases hz:a0_1 = 0
     ·have hv:Hush (edit_wrong.val a0_0 a0_1 a0_4 a0_5 = 8):=⟨by simp [edit_wrong.val,hl,hk,hk2,hg',hz]⟩
      have hz':(a0_1 == 0) = true:=by simpa using hz
      clear hg hz
      go_enter Tryd.func67,Tryd.ntmps67
      go_wp2_with fail
      refine (edit_level.any _ _).mono ?_
      rintro e w1 ⟨rfl,rfl⟩
      go_wp2_with fail
      refine (edit_keyed.any _ _).mono ?_
      rintro e w1 ⟨rfl,rfl⟩
      go_wp2_with fail
      refine (edit_keyed.any _ _).mono ?_
      rintro e w1 ⟨rfl,rfl⟩
      go_wp2
      go_ret
      exact ⟨by rw [hv.out];rfl,(B2 _ _).out⟩
     ·have hv:Hush (edit_wrong.val a0_0 a0_1 a0_4 a0_5 = 0):=⟨by simp [edit_wrong.val,hl,hk,hk2,hg',hz]⟩
      have hz':(a0_1 == 0) = false:=by simpa using hz
      clear hg hz
      go_enter Tryd.func67,Tryd.ntmps67
      go_wp2_with fail
      refine (edit_level.any _ _).mono ?_
      rintro e w1 ⟨rfl,rfl⟩
      go_wp2_with fail
      refine (edit_keyed.any _ _).mono ?_
      rintro e w1 ⟨rfl,rfl⟩
      go_wp2_with fail
      refine (edit_keyed.any _ _).mono ?_
      rintro e w1 ⟨rfl,rfl⟩
      go_wp2
      go_ret
      exact ⟨by rw [hv.out];rfl,(B2 _ _).out⟩
   ·have hk2':edit_keyedB a0_5 = false:=by simpa using hk2
    have hv:Hush (edit_wrong.val a0_0 a0_1 a0_4 a0_5 = 19):=⟨by simp [edit_wrong.val,hl,hk,hk2']⟩
    clear hk2
    go_enter Tryd.func67,Tryd.ntmps67
    go_wp2_with fail
    refine (edit_level.any _ _).mono ?_
    rintro e w1 ⟨rfl,rfl⟩
    go_wp2_with fail
    refine (edit_keyed.any _ _).mono ?_
    rintro e w1 ⟨rfl,rfl⟩
    go_wp2_with fail
    refine (edit_keyed.any _ _).mono ?_
    rintro e w1 ⟨rfl,rfl⟩
    go_wp2
    go_ret
    exact ⟨by rw [hv.out];rfl,(B2 _ _).out⟩
  ·have hk':edit_keyedB a0_4 = false:=by simpa using hk
   have hv:Hush (edit_wrong.val a0_0 a0_1 a0_4 a0_5 = 19):=⟨by simp [edit_wrong.val,hl,hk']⟩
   clear hk
   go_enter Tryd.func67,Tryd.ntmps67
   go_wp2_with fail
   refine (edit_level.any _ _).mono ?_
   rintro e w1 ⟨rfl,rfl⟩
   go_wp2_with fail
   refine (edit_keyed.any _ _).mono ?_
   rintro e w1 ⟨rfl,rfl⟩
   go_wp2
   go_ret
   exact ⟨by rw [hv.out];rfl,(B2 _ _).out⟩
 ·have hl':edit_levelB a0_0 = false:=by simpa using hl
  have hv:Hush (edit_wrong.val a0_0 a0_1 a0_4 a0_5 = 21):=⟨by simp [edit_wrong.val,hl']⟩
  clear hl
  go_enter Tryd.func67,Tryd.ntmps67
  go_wp2_with fail
  refine (edit_level.any _ _).mono ?_
  rintro e w1 ⟨rfl,rfl⟩
  go_wp2
  go_ret
  exact ⟨by rw [hv.out];rfl,(B2 _ _).out⟩
end Go.Proofs.YteilnbnnhocciaaDoor.KV

/-! KV10 -/
namespace Go.Proofs.YteilnbnnhocciaaDoor.KV
open Go.RowKit Go.Proofs.YteilnbnnhocciaaDoorW.PrintWords Go.Proofs.YteilnbnnhocciaaDoorW.PrintLast Go.Proofs.YteilnbnnhocciaaDoorW.PrintMore Go.Proofs.YteilnbnnhocciaaDoorM
attribute [local go_sem] max2_int min2_int max_two min_two max_three min_three max_four min_four
def edit_goneB (g:S111):Bool:=!edit_levelB g.f0
def edit_firstWrong:List S107 → Int
 | []=>0
 | a :: r=>if edit_wrong.val a.f0 a.f1.f0 a.f1.f3 a.f1.f4 = 0 then edit_firstWrong r else edit_wrong.val a.f0 a.f1.f0 a.f1.f3 a.f1.f4
def edit_Edit_Check.val (come:List S107) (gone:List S111):Int:=
 if 200 < come.length ∨ 200 < gone.length then 6 else if edit_firstWrong come ≠ 0 then edit_firstWrong come else if gone.any edit_goneB then 21 else 0
def edit_Edit_Check.f (a0_0:Int) (a0_1:Int) (a0_2:Int) (l0_3:List (S107)) (l0_4:List (S111)):Option (Int):=some (edit_Edit_Check.val l0_3 l0_4)
set_option maxHeartbeats 1000000 in
theorem edit_check1.any (a b:Int) (w:World):Calls Tryd.prog 69 #[.agg #[.int .i64 a,.int .u64 b]] w fun e w'=>e = .returned (.bool (!edit_levelB a)) ∧ Below w.heap.size w w':=by
 have B1:=fun (o:Obj)=>Hush.mk ((Below.refl w.heap.size w).alloc (Nat.le_refl _) o)
 go_enter Tryd.func69,Tryd.ntmps69
 go_wp2_with fail
 refine (edit_level.any _ _).mono ?_
 rintro e w1 ⟨rfl,rfl⟩
 go_wp2
 go_ret
 exact ⟨rfl,(B1 _).out⟩
def edit_index.Post (w:World) (l:List S111) (e:Ending) (w':World):Prop:=∃ r:Int,e = .returned (.int .i64 r) ∧ -1 ≤ r ∧ decide (0 ≤ r) = l.any edit_goneB ∧ Below w.heap.size w w'
def edit_index.J (w:World) (l:List S111) (i:Nat) (wr:World):Prop:=i ≤ l.length ∧ (l.take i).any edit_goneB = false ∧ Below w.heap.size w wr
set_option maxHeartbeats 2000000 in
set_option maxRecDepth 100000 in
theorem edit_index.any (A:Option Addr) (c:Nat) (l:List S111) (w:World) (hr:Kd.C k111 w A l.length l) :
  Calls Tryd.prog 114 #[.slice A l.length c,.func (.func 69) #[] #[]] w (edit_index.Post w l):=by
 have hlen:=Kd.C_max hr
 have HR:=Hush.mk hr
 clear hr
 go_enter Tryd.func114,Tryd.ntmps114
 go_wp2
 go_loopw [5,8] (fun _ i wr=>∃ k':Nat,i = .int .i64 k' ∧ edit_index.J w l k' wr) (fun _ i _=>l.length - (intOf i).toNat)
 case atStart=>exact ⟨0,rfl,by omega,by simp,Below.refl _ _⟩
 case round=>
  obtain ⟨i,rfl,hi,hany,hbl⟩:=hrel
  by_cases hlt:i < l.length
  ·obtain ⟨ad,rfl,hx0,hx1⟩:=at_T111 HR.out i (by omega) (by omega)
   have hn:(i:Int).toNat = i:=by omega
   rw [hn] at hx0 hx1
   have hx0':=(hbl.cell (World.block_lt_of_cell? w _ hx0)).trans hx0
   have hx1':=(hbl.cell (World.block_lt_of_cell? w _ hx1)).trans hx1
   obtain ⟨g,hg⟩:∃ g,g = rd_T111 l i:=⟨_,rfl⟩
   rw [← hg] at hx0' hx1'
   have hgl:g = l[i]:=by rw [hg];simp [rd_T111,List.getD,hlt]
   have HG:=Hush.mk hgl
   clear hx0 hx1 hn hg hgl
   have HA:=Hush.mk hany
   clear hany
   have hsn:(l.take (i + 1)).any edit_goneB = edit_goneB g:=by
    rw [List.take_succ_eq_append_getElem hlt,List.any_append,HA.out,← HG.out];simp
   by_cases hb:edit_levelB g.f0 = true
   ·have hb':(!edit_levelB g.f0) = false:=by rw [hb];rfl
    have HS:Hush ((l.take (i + 1)).any edit_goneB = false):=⟨by rw [hsn];exact hb'⟩
    clear hsn hb
    go_wp2_with fail
    refine (edit_check1.any _ _ _).mono ?_
    rintro e w1 ⟨rfl,hb1⟩
    go_wp2
    go_roundw
    case rel=>exact ⟨i + 1,by go_num,by omega,HS.out,hbl.trans (hb1.mono hbl.size)⟩
    case measure=>simp [intOf];omega
   ·have hb':(!edit_levelB g.f0) = true:=by simpa using hb
    have HS:Hush (l.any edit_goneB = true):=⟨by
     rw [← List.take_append_drop (i + 1) l,List.any_append,hsn]
     have:edit_goneB g = true:=hb'
     rw [this];rfl⟩
    clear hsn hb
    go_wp2_with fail
    refine (edit_check1.any _ _ _).mono ?_
    rintro e w1 ⟨rfl,hb1⟩
    go_wp2
    go_ret
    exact ⟨i,rfl,by omega,by rw [HS.out];simp,hbl.trans (hb1.mono hbl.size)⟩
  ·have HA:=Hush.mk hany
   clear hany
   go_wp2
   go_ret
   have:=HA.out
   rw [List.take_of_length_le (by omega)] at this
   exact ⟨-1,rfl,by omega,by rw [this];rfl,hbl⟩
def edit_contains.Post (w:World) (l:List S111) (e:Ending) (w':World):Prop:=e = .returned (.bool (l.any edit_goneB)) ∧ Below w.heap.size w w'
set_option maxHeartbeats 1000000 in
theorem edit_contains.any (A:Option Addr) (c:Nat) (l:List S111) (w:World) (hr:Kd.C k111 w A l.length l) :
  Calls Tryd.prog 68 #[.slice A l.length c,.func (.func 69) #[] #[]] w (edit_contains.Post w l):=by
 have HR:=Hush.mk hr
 clear hr
 go_enter Tryd.func68,Tryd.ntmps68
 go_wp2_with fail
 refine (edit_index.any _ _ _ _ HR.out).mono ?_
 rintro e w1 ⟨r,rfl,hr1,hr2,hb⟩
 have HR2:=Hush.mk hr2
 clear hr2
 go_wp2
 go_ret
 exact ⟨by rw [← HR2.out];rfl,hb⟩
def edit_Edit_Check.Post (w:World) (r:Int) (e:Ending) (w':World):Prop:=e = .returned (.int .i64 r) ∧ Below w.heap.size w w'
def edit_Edit_Check.J (w:World) (l:List S107) (i:Nat) (wr:World):Prop:=i ≤ l.length ∧ edit_firstWrong l = edit_firstWrong (l.drop i) ∧ Below w.heap.size w wr
set_option maxHeartbeats 3000000 in
set_option maxRecDepth 100000 in
theorem edit_Edit_Check.walk (a0_0:Int) (a0_1:Int) (a0_2:Int) (A0_3:Option Addr) (c0_3:Nat) (l0_3:List (S107)) (A0_4:Option Addr) (c0_4:Nat) (l0_4:List (S111)) (w:World) (hr0_3:Kd.C k107 w A0_3 l0_3.length l0_3) (hr0_4:Kd.C k111 w A0_4 l0_4.length l0_4) :
  Calls Tryd.prog 20 #[.agg #[.int .u64 a0_0,.int .u64 a0_1,.int .u64 a0_2,.slice A0_3 l0_3.length c0_3,.slice A0_4 l0_4.length c0_4]] w (edit_Edit_Check.Post w (edit_Edit_Check.val l0_3 l0_4)):=by
 have hlen:=Kd.C_max hr0_3
 have hlen4:=Kd.C_max hr0_4
 have B1:=fun (o:Obj)=>Hush.mk ((Below.refl w.heap.size w).alloc (Nat.le_refl _) o)
 have HR3:=Hush.mk hr0_3
 have HR4:=Hush.mk hr0_4
 clear hr0_3 hr0_4
 by_cases h3:200 < l0_3.length
 ·have hv:Hush (edit_Edit_Check.val l0_3 l0_4 = 6):=⟨by rw [edit_Edit_Check.val,if_pos (.inl h3)]⟩
  go_enter Tryd.func20,Tryd.ntmps20
  go_wp2
  go_ret
  exact ⟨by rw [hv.out];rfl,(B1 _).out⟩
 ·by_cases h4:200 < l0_4.length
  ·have hv:Hush (edit_Edit_Check.val l0_3 l0_4 = 6):=⟨by rw [edit_Edit_Check.val,if_pos (.inr h4)]⟩
   go_enter Tryd.func20,Tryd.ntmps20
   go_wp2
   go_ret
   exact ⟨by rw [hv.out];rfl,(B1 _).out⟩
  ·go_enter Tryd.func20,Tryd.ntmps20
   go_wp2
   have hk:Below w.heap.size w (w.alloc (.cells #[.int .u64 a0_0,.int .u64 a0_1,.int .u64 a0_2,.slice A0_3 l0_3.length c0_3,.slice A0_4 l0_4.length c0_4] 26)):=(B1 _).out
   have hcell4:(w.alloc (.cells #[.int .u64 a0_0,.int .u64 a0_1,.int .u64 a0_2,.slice A0_3 l0_3.length c0_3,.slice A0_4 l0_4.length c0_4] 26)).cell? ⟨w.heap.size,4,none⟩ = some (.slice A0_4 l0_4.length c0_4):=by
    rw [World.cell?_alloc_at _ _ _ _ rfl];rfl
   obtain ⟨W,hW⟩:∃ W,W = w.alloc (.cells #[.int .u64 a0_0,.int .u64 a0_1,.int .u64 a0_2,.slice A0_3 l0_3.length c0_3,.slice A0_4 l0_4.length c0_4] 26):=⟨_,rfl⟩
   have hWs:W.heap.size = w.heap.size + 1:=by rw [hW];simp
   rw [← hW] at hk hcell4 ⊢
   have HW:=Hush.mk hW
   have HWs:=Hush.mk hWs
   clear hW hWs B1
   go_loopw [4,5,19] (fun _ _ i wr=>∃ k':Nat,i = .int .i64 k' ∧ edit_Edit_Check.J W l0_3 k' wr) (fun _ _ i _=>l0_3.length - (intOf i).toNat)
   case atStart=>exact ⟨0,rfl,by omega,by simp,Below.refl _ _⟩
   case round=>
    obtain ⟨i,rfl,hi,hfw,hbl⟩:=hrel
    by_cases hlt:i < l0_3.length
    ·obtain ⟨ad,rfl,hx0,hx1,hx2,hx3,hx4,hx5⟩:=at_T107 (Kd.C_below (Kd.C_below HR3.out (HW.out ▸ below_alloc (Below.refl _ _) _)) hbl) i (by omega) (by omega)
     have hn:(i:Int).toNat = i:=by omega
     rw [hn] at hx0 hx1 hx2 hx3 hx4 hx5
     have hgl:rd_T107 l0_3 i = l0_3[i]:=by simp [rd_T107,List.getD,hlt]
     rw [hgl] at hx0 hx1 hx2 hx3 hx4 hx5
     rw [List.drop_eq_getElem_cons hlt,edit_firstWrong] at hfw
     obtain ⟨a,ha⟩:∃ a,a = l0_3[i]:=⟨_,rfl⟩
     rw [← ha] at hx0 hx1 hx2 hx3 hx4 hx5 hfw
     clear ha hgl hn
     obtain ⟨v,hv⟩:∃ v,v = edit_wrong.val a.f0 a.f1.f0 a.f1.f3 a.f1.f4:=⟨_,rfl⟩
     rw [← hv] at hfw
     have HV:=Hush.mk hv
     clear hv
     by_cases hz:v = 0
     ·rw [if_pos hz] at hfw
      have HF:=Hush.mk hfw
      have hz':(v == 0) = true:=by simpa using hz
      have hz2:(v != 0) = false:=by simpa using hz
      clear hfw hz
      go_wp2_with fail
      refine (edit_wrong.walk _ _ _ _ _ _ _).mono ?_
      rintro e w1 ⟨he,hb1⟩
      rw [← HV.out] at he
      subst he
      go_wp2
      go_roundw
      case rel=>exact ⟨i + 1,by go_num,by omega,HF.out,hbl.trans ((((Below.refl _ wr).alloc (Nat.le_refl _) _).trans (hb1.mono (by simp))).mono hbl.size)⟩
      case measure=>simp [intOf];omega
     ·rw [if_neg hz] at hfw
      have hr:Hush (edit_Edit_Check.val l0_3 l0_4 = v):=⟨by rw [edit_Edit_Check.val,if_neg (by omega),if_pos (by rw [hfw];exact hz),hfw]⟩
      have hz':(v == 0) = false:=by simpa using hz
      have hz2:(v != 0) = true:=by simpa using hz
      clear hfw hz
      go_wp2_with fail
      refine (edit_wrong.walk _ _ _ _ _ _ _).mono ?_
      rintro e w1 ⟨he,hb1⟩
      rw [← HV.out] at he
      subst he
      go_wp2
      go_ret
      exact ⟨by rw [hr.out];rfl,hk.trans ((hbl.trans ((((Below.refl _ wr).alloc (Nat.le_refl _) _).trans (hb1.mono (by simp))).mono hbl.size)).mono hk.size)⟩
    ·have hf0:edit_firstWrong l0_3 = 0:=by rw [hfw,List.drop_of_length_le (by omega)];rfl
     have hv:edit_Edit_Check.val l0_3 l0_4 = if l0_4.any edit_goneB then 21 else 0:=by rw [edit_Edit_Check.val,if_neg (by omega),if_neg (by rw [hf0];exact fun h=>h rfl)]
     have hc4:=(hbl.cell (p:=⟨w.heap.size,4,none⟩) (by rw [HWs.out];exact Nat.lt_succ_self _)).trans hcell4
     have hb2:=hk.trans (hbl.mono hk.size)
     clear hfw hf0
     have hR4:=Hush.mk (Kd.C_below (Kd.C_below HR4.out (HW.out ▸ below_alloc (Below.refl _ _) _)) hbl)
     cases hany:l0_4.any edit_goneB
     ·rw [hany] at hv
      have HV:=Hush.mk hv
      have HA:=Hush.mk hany
      clear hv hany
      go_wp2_with fail
      refine (edit_contains.any _ _ _ _ hR4.out).mono ?_
      rintro e w1 ⟨he,hb1⟩
      rw [HA.out] at he
      subst he
      go_wp2
      go_ret
      exact ⟨by rw [HV.out];rfl,hb2.trans (hb1.mono hb2.size)⟩
     ·rw [hany] at hv
      have HV:=Hush.mk hv
      have HA:=Hush.mk hany
      clear hv hany
      go_wp2_with fail
      refine (edit_contains.any _ _ _ _ hR4.out).mono ?_
      rintro e w1 ⟨he,hb1⟩
      rw [HA.out] at he
      subst he
      go_wp2
      go_ret
      exact ⟨by rw [HV.out];rfl,hb2.trans (hb1.mono hb2.size)⟩
theorem edit_Edit_Check.calls (a0_0:Int) (a0_1:Int) (a0_2:Int) (A0_3:Option Addr) (c0_3:Nat) (l0_3:List (S107)) (A0_4:Option Addr) (c0_4:Nat) (l0_4:List (S111)) (r:Int) (w:World) (hr0_3:Kd.C k107 w A0_3 l0_3.length l0_3) (hc0_3:l0_3.length ≤ c0_3) (hr0_4:Kd.C k111 w A0_4 l0_4.length l0_4) (hc0_4:l0_4.length ≤ c0_4) (h:edit_Edit_Check.f a0_0 a0_1 a0_2 l0_3 l0_4 = some r) :
  Calls Tryd.prog 20 #[.agg #[.int .u64 a0_0,.int .u64 a0_1,.int .u64 a0_2,.slice A0_3 l0_3.length c0_3,.slice A0_4 l0_4.length c0_4]] w fun e w'=>e = .returned (.int .i64 r) ∧ Below w.heap.size w w':=by
 obtain rfl:=Option.some.inj h
 exact edit_Edit_Check.walk _ _ _ _ _ _ _ _ _ _ hr0_3 hr0_4
end Go.Proofs.YteilnbnnhocciaaDoor.KV
