/- VersionWhole: the card of the statement VersionWhole, with no condition: what a pick has is all that overlaps it, a version made of another one's files is that one, edits change no version. (part 5 of 8; packed by program out of the texts named below) -/
import Derived.Test.YteilnbnnhocciaaDoorXJ4
import Derived.Shelf.SlicesE.Clone
import Derived.Deep.RegionLaw
import Derived.Deep.AppendLies
import Derived.ChangeArms
import Derived.DataReads
import Derived.Deep.Slices
import Derived.WideShapes
import Derived.Test.YteilnbnnhocciaaDoorRows
import Derived.Lib.LaidIn
import Derived.ChangeSame
import Derived.ChangeVars
import Derived.JoinedOf
import Derived.Carry
import Derived.RowKit
import Derived.WalkKit
import Derived.ProofKit
import Derived.OpenShut
import Derived.ShutString
import Derived.ChangeOld
import Derived.Below
import Derived.SizedLaws
import Derived.Shelf.RegionOpenPlain
import Derived.Lib.SliceRun
import Derived.Deep.LoopGhost
import Derived.Shelf.SlicesQ.IndexFunc
set_option linter.unusedVariables false
set_option linter.unusedSimpArgs false

/-! KV43 -/
namespace Go.Proofs.YteilnbnnhocciaaDoor.KV
open Go.RowKit Go.Proofs.YteilnbnnhocciaaDoorW.PrintWords Go.Proofs.YteilnbnnhocciaaDoorW.PrintLast Go.Proofs.YteilnbnnhocciaaDoorW.PrintMore Go.Proofs.YteilnbnnhocciaaDoorM
attribute [local go_sem] max2_int min2_int max_two min_two max_three min_three max_four min_four
def varint_Reader_End.f (s0_0:ByteArray) (s0_1:Int) (s0_2:Int):Option (Int × ByteArray × Int × Int):=(varint_Reader_Err.f s0_0 s0_1 s0_2).bind fun bt175=>(if bt175.1 = 0 then ((varint_Reader_Left.f bt175.2.1 bt175.2.2.1 bt175.2.2.2).bind fun bt179=>(if bt179.1 > 0 then (some (4,bt179.2.1,bt179.2.2.1,bt179.2.2.2)) else (some (0,bt179.2.1,bt179.2.2.1,bt179.2.2.2)))) else (some (bt175.1,bt175.2.1,bt175.2.2.1,bt175.2.2.2)))
set_option maxHeartbeats 8000000 in
set_option maxRecDepth 100000 in
theorem varint_Reader_End.calls (g:Nat) (s0_0:ByteArray) (s0_1:Int) (s0_2:Int) (r1:Int) (r2:ByteArray) (r3:Int) (r4:Int) (w0 w:World) (hI:IsS171 w0 w g s0_0 s0_1 s0_2) (hB:Below w0.heap.size w0 w) (h:varint_Reader_End.f s0_0 s0_1 s0_2 = some (r1,r2,r3,r4)) :
  Calls Tryd.prog 61 #[.pointer (some ⟨g,0,none⟩)] w fun e w'=>e = .returned (.int .i64 r1) ∧ IsS171 w0 w' g r2 r3 r4 ∧ Below w0.heap.size w0 w' ∧ KeepBut w w' g none:=by
 have HI0:=Aside0.mk hI
 have HK:=Aside0.mk (KeepBut.refl w g none)
 have HL:=Aside0.mk hB.size
 clear hI
 have HW0:=Aside0.mk hB.size
 have HB:=Aside0.mk hB
 clear hB
 have H:((varint_Reader_Err.f s0_0 s0_1 s0_2).bind fun bt175=>(if bt175.1 = 0 then ((varint_Reader_Left.f bt175.2.1 bt175.2.2.1 bt175.2.2.2).bind fun bt179=>(if bt179.1 > 0 then (some (4,bt179.2.1,bt179.2.2.1,bt179.2.2.2)) else (some (0,bt179.2.1,bt179.2.2.1,bt179.2.2.2)))) else (some (bt175.1,bt175.2.1,bt175.2.2.1,bt175.2.2.2)))) = some (r1,r2,r3,r4):=h
 clear h
 replace H:=Option.bind_eq_some_iff.mp H
 obtain ⟨⟨t175,t176,t177,t178⟩,A20,H⟩:=H
 replace H:(if t175 = 0 then ((varint_Reader_Left.f t176 t177 t178).bind fun bt179=>(if bt179.1 > 0 then (some (4,bt179.2.1,bt179.2.2.1,bt179.2.2.2)) else (some (0,bt179.2.1,bt179.2.2.1,bt179.2.2.2)))) else (some (t175,t176,t177,t178))) = some (r1,r2,r3,r4):=H
 have A2:=Aside0.mk A20
 clear A20
 by_cases c3:t175 = 0
 ·rw [if_pos c3] at H
  have c3b0:(t175 == 0) = true:=beq_iff_eq.mpr c3
  have c3b1:(t175 != 0) = false:=bne_eq_false_iff_eq.mpr c3
  clear c3
  replace H:=Option.bind_eq_some_iff.mp H
  obtain ⟨⟨t179,t180,t181,t182⟩,A40,H⟩:=H
  replace H:(if t179 > 0 then (some (4,t180,t181,t182)) else (some (0,t180,t181,t182))) = some (r1,r2,r3,r4):=H
  have A4:=Aside0.mk A40
  clear A40
  by_cases c5:t179 > 0
  ·rw [if_pos c5] at H
   have c5b0:decide (0 < t179) = true:=decide_eq_true c5
   clear c5
   simp only [Option.some.injEq,Prod.mk.injEq] at H
   obtain ⟨rfl,rfl,rfl,rfl⟩:=H
   go_enter Tryd.func61,Tryd.ntmps61
   go_wp2_with (first | ((with_reducible refine gate_callee (f:=58) rfl ?_);refine goesL_ (some 5) rfl rfl Tryd.func58 (by kernel_rfl) rfl #[.pointer (some ⟨g,0,none⟩)] rfl (by (try simp only [List.map_toArray,List.map_cons,List.map_nil]);first | done | rfl | (simp only [List.length_drop,List.length_take];rfl)) ?_;(with_reducible refine (varint_Reader_Err.calls g s0_0 s0_1 s0_2 t175 t176 t177 t178 w0 _ ?side1 ?side2 A2.out).mono ?_);(case side1=>repeat (first | (with_reducible first | exact HI0.out | apply IsS171.alloc | apply IsS171.drewN | apply IsS171.drew | apply IsS171.set_0 | apply IsS171.set_1 | apply IsS171.set_2) | exact HI0.out));(case side2=>repeat (first | (with_reducible first | exact HB.out | apply below_alloc | apply pw_below_drewN | apply below_drew1 | refine below_set ?_ (IsS171.ge HI0.out)) | exact HB.out));rintro e w6 ⟨rfl,hi,hb,hk⟩;refine ⟨_,rfl,?_⟩;have n0_:=Aside0.mk (KeepBut.trans (by repeat (first | (with_reducible first | exact HK.out | apply KeepBut.set_ | apply keep_drewN | apply keep_drew | apply keep_alloc) | exact HK.out)) hk (.inl rfl));have n1_:=Aside0.mk (hb);have n2_:=Aside0.mk (hi);clear HK;clear HB;clear HI0;have HK:=n0_;have HB:=n1_;have HI0:=n2_;clear n0_ n1_ n2_;(try clear hb);(try clear hb2);(try clear hk);(try clear hi)) | ((with_reducible refine gate_callee (f:=110) rfl ?_);refine goesL_ (some 10) rfl rfl Tryd.func110 (by kernel_rfl) rfl #[.pointer (some ⟨g,0,none⟩)] rfl (by (try simp only [List.map_toArray,List.map_cons,List.map_nil]);first | done | rfl | (simp only [List.length_drop,List.length_take];rfl)) ?_;(with_reducible refine (varint_Reader_Left.calls g t176 t177 t178 t179 t180 t181 t182 w0 _ ?side1 ?side2 A4.out).mono ?_);(case side1=>repeat (first | (with_reducible first | exact HI0.out | apply IsS171.alloc | apply IsS171.drewN | apply IsS171.drew | apply IsS171.set_0 | apply IsS171.set_1 | apply IsS171.set_2) | exact HI0.out));(case side2=>repeat (first | (with_reducible first | exact HB.out | apply below_alloc | apply pw_below_drewN | apply below_drew1 | refine below_set ?_ (IsS171.ge HI0.out)) | exact HB.out));rintro e w7 ⟨rfl,hi,hb,hk⟩;refine ⟨_,rfl,?_⟩;have n0_:=Aside0.mk (KeepBut.trans (by repeat (first | (with_reducible first | exact HK.out | apply KeepBut.set_ | apply keep_drewN | apply keep_drew | apply keep_alloc) | exact HK.out)) hk (.inl rfl));have n1_:=Aside0.mk (hb);have n2_:=Aside0.mk (hi);clear HK;clear HB;clear HI0;have HK:=n0_;have HB:=n1_;have HI0:=n2_;clear n0_ n1_ n2_;(try clear hb);(try clear hb2);(try clear hk);(try clear hi)))
   go_ret
   exact ⟨by first | rfl | (simp [errW_none,errW_some] <;> rfl) | (simp [*,errW_none,errW_some] <;> rfl),by repeat (first | (with_reducible first | exact HI0.out | apply IsS171.alloc | apply IsS171.drewN | apply IsS171.drew | apply IsS171.set_0 | apply IsS171.set_1 | apply IsS171.set_2) | exact HI0.out),by repeat (first | (with_reducible first | exact HB.out | apply below_alloc | apply pw_below_drewN | apply below_drew1 | refine below_set ?_ (IsS171.ge HI0.out)) | exact HB.out),by repeat (first | (with_reducible first | exact HK.out | apply KeepBut.set_ | apply keep_drewN | apply keep_drew | apply keep_alloc) | exact HK.out)⟩
  ·rw [if_neg c5] at H
   have c5b0:decide (0 < t179) = false:=decide_eq_false c5
   clear c5
   simp only [Option.some.injEq,Prod.mk.injEq] at H
   obtain ⟨rfl,rfl,rfl,rfl⟩:=H
   go_enter Tryd.func61,Tryd.ntmps61
   go_wp2_with (first | ((with_reducible refine gate_callee (f:=58) rfl ?_);refine goesL_ (some 5) rfl rfl Tryd.func58 (by kernel_rfl) rfl #[.pointer (some ⟨g,0,none⟩)] rfl (by (try simp only [List.map_toArray,List.map_cons,List.map_nil]);first | done | rfl | (simp only [List.length_drop,List.length_take];rfl)) ?_;(with_reducible refine (varint_Reader_Err.calls g s0_0 s0_1 s0_2 t175 t176 t177 t178 w0 _ ?side1 ?side2 A2.out).mono ?_);(case side1=>repeat (first | (with_reducible first | exact HI0.out | apply IsS171.alloc | apply IsS171.drewN | apply IsS171.drew | apply IsS171.set_0 | apply IsS171.set_1 | apply IsS171.set_2) | exact HI0.out));(case side2=>repeat (first | (with_reducible first | exact HB.out | apply below_alloc | apply pw_below_drewN | apply below_drew1 | refine below_set ?_ (IsS171.ge HI0.out)) | exact HB.out));rintro e w8 ⟨rfl,hi,hb,hk⟩;refine ⟨_,rfl,?_⟩;have n0_:=Aside0.mk (KeepBut.trans (by repeat (first | (with_reducible first | exact HK.out | apply KeepBut.set_ | apply keep_drewN | apply keep_drew | apply keep_alloc) | exact HK.out)) hk (.inl rfl));have n1_:=Aside0.mk (hb);have n2_:=Aside0.mk (hi);clear HK;clear HB;clear HI0;have HK:=n0_;have HB:=n1_;have HI0:=n2_;clear n0_ n1_ n2_;(try clear hb);(try clear hb2);(try clear hk);(try clear hi)) | ((with_reducible refine gate_callee (f:=110) rfl ?_);refine goesL_ (some 10) rfl rfl Tryd.func110 (by kernel_rfl) rfl #[.pointer (some ⟨g,0,none⟩)] rfl (by (try simp only [List.map_toArray,List.map_cons,List.map_nil]);first | done | rfl | (simp only [List.length_drop,List.length_take];rfl)) ?_;(with_reducible refine (varint_Reader_Left.calls g t176 t177 t178 t179 t180 t181 t182 w0 _ ?side1 ?side2 A4.out).mono ?_);(case side1=>repeat (first | (with_reducible first | exact HI0.out | apply IsS171.alloc | apply IsS171.drewN | apply IsS171.drew | apply IsS171.set_0 | apply IsS171.set_1 | apply IsS171.set_2) | exact HI0.out));(case side2=>repeat (first | (with_reducible first | exact HB.out | apply below_alloc | apply pw_below_drewN | apply below_drew1 | refine below_set ?_ (IsS171.ge HI0.out)) | exact HB.out));rintro e w9 ⟨rfl,hi,hb,hk⟩;refine ⟨_,rfl,?_⟩;have n0_:=Aside0.mk (KeepBut.trans (by repeat (first | (with_reducible first | exact HK.out | apply KeepBut.set_ | apply keep_drewN | apply keep_drew | apply keep_alloc) | exact HK.out)) hk (.inl rfl));have n1_:=Aside0.mk (hb);have n2_:=Aside0.mk (hi);clear HK;clear HB;clear HI0;have HK:=n0_;have HB:=n1_;have HI0:=n2_;clear n0_ n1_ n2_;(try clear hb);(try clear hb2);(try clear hk);(try clear hi)))
   go_ret
   exact ⟨by first | rfl | (simp [errW_none,errW_some] <;> rfl) | (simp [*,errW_none,errW_some] <;> rfl),by repeat (first | (with_reducible first | exact HI0.out | apply IsS171.alloc | apply IsS171.drewN | apply IsS171.drew | apply IsS171.set_0 | apply IsS171.set_1 | apply IsS171.set_2) | exact HI0.out),by repeat (first | (with_reducible first | exact HB.out | apply below_alloc | apply pw_below_drewN | apply below_drew1 | refine below_set ?_ (IsS171.ge HI0.out)) | exact HB.out),by repeat (first | (with_reducible first | exact HK.out | apply KeepBut.set_ | apply keep_drewN | apply keep_drew | apply keep_alloc) | exact HK.out)⟩
 ·rw [if_neg c3] at H
  have c3b0:(t175 == 0) = false:=beq_eq_false_iff_ne.mpr c3
  have c3b1:(t175 != 0) = true:=bne_iff_ne.mpr c3
  simp only [Option.some.injEq,Prod.mk.injEq] at H
  obtain ⟨rfl,rfl,rfl,rfl⟩:=H
  go_enter Tryd.func61,Tryd.ntmps61
  go_wp2_with (first | ((with_reducible refine gate_callee (f:=58) rfl ?_);refine goesL_ (some 5) rfl rfl Tryd.func58 (by kernel_rfl) rfl #[.pointer (some ⟨g,0,none⟩)] rfl (by (try simp only [List.map_toArray,List.map_cons,List.map_nil]);first | done | rfl | (simp only [List.length_drop,List.length_take];rfl)) ?_;(with_reducible refine (varint_Reader_Err.calls g s0_0 s0_1 s0_2 t175 t176 t177 t178 w0 _ ?side1 ?side2 A2.out).mono ?_);(case side1=>repeat (first | (with_reducible first | exact HI0.out | apply IsS171.alloc | apply IsS171.drewN | apply IsS171.drew | apply IsS171.set_0 | apply IsS171.set_1 | apply IsS171.set_2) | exact HI0.out));(case side2=>repeat (first | (with_reducible first | exact HB.out | apply below_alloc | apply pw_below_drewN | apply below_drew1 | refine below_set ?_ (IsS171.ge HI0.out)) | exact HB.out));rintro e w10 ⟨rfl,hi,hb,hk⟩;refine ⟨_,rfl,?_⟩;have n0_:=Aside0.mk (KeepBut.trans (by repeat (first | (with_reducible first | exact HK.out | apply KeepBut.set_ | apply keep_drewN | apply keep_drew | apply keep_alloc) | exact HK.out)) hk (.inl rfl));have n1_:=Aside0.mk (hb);have n2_:=Aside0.mk (hi);clear HK;clear HB;clear HI0;have HK:=n0_;have HB:=n1_;have HI0:=n2_;clear n0_ n1_ n2_;(try clear hb);(try clear hb2);(try clear hk);(try clear hi)))
  go_ret
  exact ⟨by first | rfl | (simp [errW_none,errW_some] <;> rfl) | (simp [*,errW_none,errW_some] <;> rfl),by repeat (first | (with_reducible first | exact HI0.out | apply IsS171.alloc | apply IsS171.drewN | apply IsS171.drew | apply IsS171.set_0 | apply IsS171.set_1 | apply IsS171.set_2) | exact HI0.out),by repeat (first | (with_reducible first | exact HB.out | apply below_alloc | apply pw_below_drewN | apply below_drew1 | refine below_set ?_ (IsS171.ge HI0.out)) | exact HB.out),by repeat (first | (with_reducible first | exact HK.out | apply KeepBut.set_ | apply keep_drewN | apply keep_drew | apply keep_alloc) | exact HK.out)⟩
end Go.Proofs.YteilnbnnhocciaaDoor.KV

/-! KV44 -/
namespace Go.Proofs.YteilnbnnhocciaaDoor.KV
open Go.RowKit Go.Proofs.YteilnbnnhocciaaDoorW.PrintWords Go.Proofs.YteilnbnnhocciaaDoorW.PrintLast Go.Proofs.YteilnbnnhocciaaDoorW.PrintMore Go.Proofs.YteilnbnnhocciaaDoorM
attribute [local go_sem] max2_int min2_int max_two min_two max_three min_three max_four min_four
def edit_cells107 (a:S107):List Value:=[.int .i64 a.f0,.int .u64 a.f1.f0,.int .u64 a.f1.f1,.int .u64 a.f1.f2,.string a.f1.f3,.string a.f1.f4]
def edit_cells111 (a:S111):List Value:=[.int .i64 a.f0,.int .u64 a.f1]
def edit_Parse.come (s:ByteArray) (p e:Int):Option (S107 × ByteArray × Int × Int):=
 (edit_levelOf.f s p e).bind fun t0=>(varint_Reader_Num.f t0.2.1 t0.2.2.1 t0.2.2.2).bind fun t1=>(varint_Reader_Num.f t1.2.1 t1.2.2.1 t1.2.2.2).bind fun t2=>(varint_Reader_Num.f t2.2.1 t2.2.2.1 t2.2.2.2).bind fun t3=>
  (varint_Reader_Text.f t3.2.1 t3.2.2.1 t3.2.2.2 200).bind fun t4=>(varint_Reader_Text.f t4.2.1 t4.2.2.1 t4.2.2.2 200).bind fun t5=>some (⟨t0.1,⟨t1.1,t2.1,t3.1,t4.1,t5.1⟩⟩,t5.2.1,t5.2.2.1,t5.2.2.2)
def edit_Parse.gone (s:ByteArray) (p e:Int):Option (S111 × ByteArray × Int × Int):=
 (edit_levelOf.f s p e).bind fun t0=>(varint_Reader_Num.f t0.2.1 t0.2.2.1 t0.2.2.2).bind fun t1=>some (⟨t0.1,t1.1⟩,t1.2.1,t1.2.2.1,t1.2.2.2)
def edit_Parse.comes:Nat → ByteArray → Int → Int → List S107 → Option (List S107 × ByteArray × Int × Int)
 | 0,s,p,e,acc=>some (acc,s,p,e)
 | m + 1,s,p,e,acc=>if e = 0 then (edit_Parse.come s p e).bind fun t=>if acc.length < 2199023255552 then edit_Parse.comes m t.2.1 t.2.2.1 t.2.2.2 (acc ++ [t.1]) else none else some (acc,s,p,e)
def edit_Parse.gones:Nat → ByteArray → Int → Int → List S111 → Option (List S111 × ByteArray × Int × Int)
 | 0,s,p,e,acc=>some (acc,s,p,e)
 | m + 1,s,p,e,acc=>if e = 0 then (edit_Parse.gone s p e).bind fun t=>if acc.length < 8796093022208 then edit_Parse.gones m t.2.1 t.2.2.1 t.2.2.2 (acc ++ [t.1]) else none else some (acc,s,p,e)
def edit_Parse.fin (lg nx sq:Int) (c:List S107) (g:List S111) (err:Int):Int × Int × Int × List S107 × List S111 × Int:=
 if err = 0 then (if edit_Edit_Check.val c g = 0 then (lg,nx,sq,c,g,0) else (0,0,0,[],[],edit_Edit_Check.val c g)) else (0,0,0,[],[],err)
def edit_Parse.f (a0:ByteArray):Option (Int × Int × Int × (List (S107)) × (List (S111)) × Int):=
 (varint_Reader_Num.f a0 0 0).bind fun t1=>(varint_Reader_Num.f t1.2.1 t1.2.2.1 t1.2.2.2).bind fun t2=>(varint_Reader_Num.f t2.2.1 t2.2.2.1 t2.2.2.2).bind fun t3=>
  (edit_count.f t3.2.1 t3.2.2.1 t3.2.2.2).bind fun n=>if 0 ≤ n.1 ∧ n.1 ≤ 18446744073709551615 then (edit_Parse.comes n.1.toNat n.2.1 n.2.2.1 n.2.2.2 []).bind fun c=>
   (edit_count.f c.2.1 c.2.2.1 c.2.2.2).bind fun n2=>if 0 ≤ n2.1 ∧ n2.1 ≤ 18446744073709551615 then (edit_Parse.gones n2.1.toNat n2.2.1 n2.2.2.1 n2.2.2.2 []).bind fun g=>
    (varint_Reader_End.f g.2.1 g.2.2.1 g.2.2.2).bind fun z=>some (edit_Parse.fin t1.1 t2.1 t3.1 c.1 g.1 z.1) else none else none
theorem own_type {w:World} {base e size n:Nat} {v:Value} {xs:List Value} (h:w.ownsRow base e size v n xs) {k:Nat} (hk:v.ownBlock = some k):∃ cs,w.heap[k]? = some (.cells cs e (0,0)):=by
 rcases h.2 with ⟨rfl,_⟩ | ⟨g,cap,cur,rfl,_,hg,_⟩
 ·simp [Value.ownBlock] at hk
 ·simp [Value.ownBlock] at hk
  subst hk
  exact ⟨cur,hg⟩
theorem heap_lt {w:World} {b:Nat} {o:Obj} (h:w.heap[b]? = some o):b < w.heap.size:=(Array.getElem?_eq_some_iff.1 h).1
theorem blk_ne {w:World} {a b:Nat} {cs cs':Array Value} {t t':TypeId} {fr fr':Nat × Nat} (h:w.heap[a]? = some (.cells cs t fr)) (h':w.heap[b]? = some (.cells cs' t' fr')) (hne:t ≠ t'):a ≠ b:=by
 rintro rfl
 rw [h] at h'
 injection h' with h'
 injection h' with _ ht _
 exact hne ht
theorem own_kept_keep {w W:World} {g base e size n t:Nat} {v:Value} {xs:List Value} {cs:Array Value} (h:w.ownsRow base e size v n xs) (hk:KeepBut w W g none) (hg:w.heap[g]? = some (.cells cs t (0,0))) (hne:e ≠ t):W.ownsRow base e size v n xs:=by
 refine own_move h fun k hk'=>?_
 obtain ⟨cs',hc⟩:=own_type h hk'
 exact hk.2 k (heap_lt hc) (blk_ne hc hg hne) (by simp)
theorem blk_kept_keep {w W:World} {g b t t':Nat} {cs cs':Array Value} (h:w.heap[b]? = some (.cells cs t (0,0))) (hk:KeepBut w W g none) (hg:w.heap[g]? = some (.cells cs' t' (0,0))) (hne:t ≠ t'):W.heap[b]? = some (.cells cs t (0,0)):=
 (hk.2 b (heap_lt h) (blk_ne h hg hne) (by simp)).trans h
def edit_zero26:Array Value:=#[.int .u64 0,.int .u64 0,.int .u64 0,.slice none 0 0,.slice none 0 0]
structure edit_Parse.St (w:World) (g b2 b5:Nat) (s:ByteArray) (p e:Int) (C5:Array Value) (v3:Value) (l3:List S107) (v4:Value) (l4:List S111) (W:World):Prop where
 rd:IsS171 w W g s p e
 h2:W.heap[b2]? = some (.cells edit_zero26 26 (0,0))
 h5:W.heap[b5]? = some (.cells C5 26 (0,0))
 o3:W.ownsRow w.heap.size 107 6 v3 l3.length (l3.flatMap edit_cells107)
 o4:W.ownsRow w.heap.size 111 2 v4 l4.length (l4.flatMap edit_cells111)
 bel:Below w.heap.size w W
 ge2:w.heap.size ≤ b2
 ge5:w.heap.size ≤ b5
 ne25:b2 ≠ b5
section
variable {w W W':World} {g b2 b5:Nat} {s s':ByteArray} {p e p' e':Int} {C5:Array Value} {v3 v4:Value} {l3:List S107} {l4:List S111}
theorem edit_Parse.St.call (h:edit_Parse.St w g b2 b5 s p e C5 v3 l3 v4 l4 W) (hi:IsS171 w W' g s' p' e') (hb:Below w.heap.size w W') (hk:KeepBut W W' g none):edit_Parse.St w g b2 b5 s' p' e' C5 v3 l3 v4 l4 W':=
 ⟨hi,blk_kept_keep h.h2 hk h.rd.1 (by decide),blk_kept_keep h.h5 hk h.rd.1 (by decide),own_kept_keep h.o3 hk h.rd.1 (by decide),own_kept_keep h.o4 hk h.rd.1 (by decide),hb,h.ge2,h.ge5,h.ne25⟩
theorem edit_Parse.St.alloc (h:edit_Parse.St w g b2 b5 s p e C5 v3 l3 v4 l4 W) (o:Obj):edit_Parse.St w g b2 b5 s p e C5 v3 l3 v4 l4 (W.alloc o):=
 ⟨h.rd.alloc o,blk_alloc h.h2 o,blk_alloc h.h5 o,h.o3.alloc o,h.o4.alloc o,below_alloc h.bel o,h.ge2,h.ge5,h.ne25⟩
theorem edit_Parse.St.drew (h:edit_Parse.St w g b2 b5 s p e C5 v3 l3 v4 l4 W):edit_Parse.St w g b2 b5 s p e C5 v3 l3 v4 l4 W.drew:=
 ⟨h.rd.drew,h.h2,h.h5,h.o3.drew,h.o4.drew,below_drew1 h.bel,h.ge2,h.ge5,h.ne25⟩
theorem edit_Parse.St.far (h:edit_Parse.St w g b2 b5 s p e C5 v3 l3 v4 l4 W) {b i:Nat} (u:Value) (hb:w.heap.size ≤ b) (hg:g ≠ b) (h2:b2 ≠ b) (h5:b5 ≠ b) (h3:v3.ownBlock ≠ some b) (h4:v4.ownBlock ≠ some b):edit_Parse.St w g b2 b5 s p e C5 v3 l3 v4 l4 (W.setCell ⟨b,i,none⟩ u):=
 ⟨h.rd.far hg u,(Below.heap_setCell W _ u b2 h2).trans h.h2,(Below.heap_setCell W _ u b5 h5).trans h.h5,own_move h.o3 (fun k hk=>Below.heap_setCell W _ u k (fun e=>h3 (by rw [hk];exact congrArg some e))),own_move h.o4 (fun k hk=>Below.heap_setCell W _ u k (fun e=>h4 (by rw [hk];exact congrArg some e))),below_set h.bel hb,h.ge2,h.ge5,h.ne25⟩
theorem edit_Parse.St.set5 (h:edit_Parse.St w g b2 b5 s p e C5 v3 l3 v4 l4 W) (i:Nat) (u:Value):edit_Parse.St w g b2 b5 s p e (C5.setIfInBounds i u) v3 l3 v4 l4 (W.setCell ⟨b5,i,none⟩ u):=by
 have hg:g ≠ b5:=blk_ne h.rd.1 h.h5 (by decide)
 refine ⟨h.rd.far hg u,(Below.heap_setCell W _ u b2 h.ne25).trans h.h2,?_,own_move h.o3 (fun k hk=>Below.heap_setCell W _ u k ?_),own_move h.o4 (fun k hk=>Below.heap_setCell W _ u k ?_),below_set h.bel h.ge5,h.ge2,h.ge5,h.ne25⟩
 ·simp [World.setCell,Array.getElem?_modify,h.h5]
 ·obtain ⟨cs,hc⟩:=own_type h.o3 hk
  exact blk_ne hc h.h5 (by decide)
 ·obtain ⟨cs,hc⟩:=own_type h.o4 hk
  exact blk_ne hc h.h5 (by decide)
theorem edit_Parse.St.push3 (h:edit_Parse.St w g b2 b5 s p e C5 v3 l3 v4 l4 W) {a:S107} {v':Value} (ho:W'.ownsRow w.heap.size 107 6 v' (l3.length + 1) (l3.flatMap edit_cells107 ++ edit_cells107 a)) (hg:W.grownBy W' v3.ownBlock):edit_Parse.St w g b2 b5 s p e C5 v' (l3 ++ [a]) v4 l4 W':=by
 have hn:∀ {b t:Nat} {cs:Array Value},W.heap[b]? = some (.cells cs t (0,0)) → t ≠ 107 → some b ≠ v3.ownBlock:=by
  intro b t cs hb ht e
  obtain ⟨cs',hc⟩:=own_type h.o3 e.symm
  exact blk_ne hb hc ht rfl
 have hb:∀ {b t:Nat} {cs:Array Value},W.heap[b]? = some (.cells cs t (0,0)) → t ≠ 107 → W'.heap[b]? = some (.cells cs t (0,0)):=fun hb ht=>(hg.block _ (heap_lt hb) (hn hb ht)).trans hb
 refine ⟨⟨hb h.rd.1 (by decide),h.rd.2⟩,hb h.h2 (by decide),hb h.h5 (by decide),by simpa using ho,own_move h.o4 (fun k hk=>?_),h.bel.grown hg h.bel.size (fun k hk=>(h.o3.lt k hk).1),h.ge2,h.ge5,h.ne25⟩
 obtain ⟨cs,hc⟩:=own_type h.o4 hk
 exact hg.block _ (heap_lt hc) (hn hc (by decide))
theorem edit_Parse.St.push4 (h:edit_Parse.St w g b2 b5 s p e C5 v3 l3 v4 l4 W) {a:S111} {v':Value} (ho:W'.ownsRow w.heap.size 111 2 v' (l4.length + 1) (l4.flatMap edit_cells111 ++ edit_cells111 a)) (hg:W.grownBy W' v4.ownBlock):edit_Parse.St w g b2 b5 s p e C5 v3 l3 v' (l4 ++ [a]) W':=by
 have hn:∀ {b t:Nat} {cs:Array Value},W.heap[b]? = some (.cells cs t (0,0)) → t ≠ 111 → some b ≠ v4.ownBlock:=by
  intro b t cs hb ht e
  obtain ⟨cs',hc⟩:=own_type h.o4 e.symm
  exact blk_ne hb hc ht rfl
 have hb:∀ {b t:Nat} {cs:Array Value},W.heap[b]? = some (.cells cs t (0,0)) → t ≠ 111 → W'.heap[b]? = some (.cells cs t (0,0)):=fun hb ht=>(hg.block _ (heap_lt hb) (hn hb ht)).trans hb
 refine ⟨⟨hb h.rd.1 (by decide),h.rd.2⟩,hb h.h2 (by decide),hb h.h5 (by decide),own_move h.o3 (fun k hk=>?_),by simpa using ho,h.bel.grown hg h.bel.size (fun k hk=>(h.o4.lt k hk).1),h.ge2,h.ge5,h.ne25⟩
 obtain ⟨cs,hc⟩:=own_type h.o3 hk
 exact hg.block _ (heap_lt hc) (hn hc (by decide))
end
theorem cells_new (w:World) (cs:List Value) (e:TypeId):∀ j u,cs[j]? = some u → (w.alloc (.cells cs.toArray e)).cell? ((⟨w.heap.size,0,none⟩:Addr).add j) = some u:=by
 intro j u hj
 have:(⟨w.heap.size,0,none⟩:Addr).add j = ⟨w.heap.size,j,none⟩:=by unfold Addr.add;split <;> simp_all
 rw [this,World.cell?_alloc_at _ _ _ _ rfl]
 simpa using hj
theorem R_of_own {α:Type} {d:Kd α} {e base:Nat} {w:World} {v:Value} {l:List α} (f:α → List Value) (hf:∀ x,(f x).length = d.sz) (hM:∀ ok x,d.M w base ok x (f x)) (h:w.ownsRow base e d.sz v l.length (l.flatMap f)):Kd.R d e w base (fun _=>True) v l:=by
 refine ⟨fun _ _=>trivial,_,h,?_⟩
 clear h
 have:∀ (ok:Nat → Prop),Reps (d.M w base ok) d.sz l (l.flatMap f):=by
  intro ok
  generalize hm:l.length = m
  induction m generalizing l with
  | zero=>obtain rfl:=List.eq_nil_of_length_eq_zero hm;exact Reps.none _ _
  | succ m ih=>
   obtain ⟨l',x,rfl⟩:∃ l' x,l = l' ++ [x]:=by
    refine ⟨l.dropLast,l.getLast (by intro h;simp [h] at hm),?_⟩
    exact (List.dropLast_concat_getLast _).symm
   have hl:l'.length = m:=by simpa using hm
   simpa using Reps.snoc (ih hl) (hM ok x) (hf x)
 exact this _
theorem edit_Parse.comes_stop {m:Nat} {s:ByteArray} {p e:Int} {l:List S107} {C:List S107 × ByteArray × Int × Int} (h:edit_Parse.comes m s p e l = some C) (hz:m = 0 ∨ e ≠ 0):(l,s,p,e) = C:=by
 cases m with
 | zero=>exact Option.some.inj h
 | succ m=>
  rcases hz with hz | hz
  ·cases hz
  ·rw [edit_Parse.comes,if_neg hz] at h;exact Option.some.inj h
theorem edit_Parse.gones_stop {m:Nat} {s:ByteArray} {p e:Int} {l:List S111} {C:List S111 × ByteArray × Int × Int} (h:edit_Parse.gones m s p e l = some C) (hz:m = 0 ∨ e ≠ 0):(l,s,p,e) = C:=by
 cases m with
 | zero=>exact Option.some.inj h
 | succ m=>
  rcases hz with hz | hz
  ·cases hz
  ·rw [edit_Parse.gones,if_neg hz] at h;exact Option.some.inj h
structure edit_Parse.Come (s:ByteArray) (p:Int) (a:S107) (s1 s2 s3 s4 s5 s6:ByteArray) (p1 p2 p3 p4 p5 p6 e1 e2 e3 e4 e5 e6:Int):Prop where
 c1:edit_levelOf.f s p 0 = some (a.f0,s1,p1,e1)
 c2:varint_Reader_Num.f s1 p1 e1 = some (a.f1.f0,s2,p2,e2)
 c3:varint_Reader_Num.f s2 p2 e2 = some (a.f1.f1,s3,p3,e3)
 c4:varint_Reader_Num.f s3 p3 e3 = some (a.f1.f2,s4,p4,e4)
 c5:varint_Reader_Text.f s4 p4 e4 200 = some (a.f1.f3,s5,p5,e5)
 c6:varint_Reader_Text.f s5 p5 e5 200 = some (a.f1.f4,s6,p6,e6)
theorem edit_Parse.comes_go {m:Nat} {s:ByteArray} {p:Int} {l:List S107} {C:List S107 × ByteArray × Int × Int} (h:edit_Parse.comes (m + 1) s p 0 l = some C) :
  l.length < 2199023255552 ∧ ∃ a s1 s2 s3 s4 s5 s6 p1 p2 p3 p4 p5 p6 e1 e2 e3 e4 e5 e6,edit_Parse.Come s p a s1 s2 s3 s4 s5 s6 p1 p2 p3 p4 p5 p6 e1 e2 e3 e4 e5 e6 ∧ edit_Parse.comes m s6 p6 e6 (l ++ [a]) = some C:=by
 rw [edit_Parse.comes,if_pos rfl] at h
 obtain ⟨⟨a,s6,p6,e6⟩,hc,h⟩:=Option.bind_eq_some_iff.mp h
 dsimp only at h
 by_cases hl:l.length < 2199023255552
 ·rw [if_pos hl] at h
  refine ⟨hl,?_⟩
  obtain ⟨⟨a0,s1,p1,e1⟩,h1,hc⟩:=Option.bind_eq_some_iff.mp hc
  obtain ⟨⟨a1,s2,p2,e2⟩,h2,hc⟩:=Option.bind_eq_some_iff.mp hc
  obtain ⟨⟨a2,s3,p3,e3⟩,h3,hc⟩:=Option.bind_eq_some_iff.mp hc
  obtain ⟨⟨a3,s4,p4,e4⟩,h4,hc⟩:=Option.bind_eq_some_iff.mp hc
  obtain ⟨⟨a4,s5,p5,e5⟩,h5,hc⟩:=Option.bind_eq_some_iff.mp hc
  obtain ⟨⟨a5,s7,p7,e7⟩,h6,hc⟩:=Option.bind_eq_some_iff.mp hc
  dsimp only at h1 h2 h3 h4 h5 h6 hc
  simp only [Option.some.injEq,Prod.mk.injEq] at hc
  obtain ⟨rfl,rfl,rfl,rfl⟩:=hc
  exact ⟨_,_,_,_,_,_,_,_,_,_,_,_,_,_,_,_,_,_,_,⟨h1,h2,h3,h4,h5,h6⟩,h⟩
 ·rw [if_neg hl] at h;cases h
theorem edit_Parse.gones_go {m:Nat} {s:ByteArray} {p:Int} {l:List S111} {C:List S111 × ByteArray × Int × Int} (h:edit_Parse.gones (m + 1) s p 0 l = some C) :
  l.length < 8796093022208 ∧ ∃ a s1 s2 p1 p2 e1 e2,(edit_levelOf.f s p 0 = some (a.f0,s1,p1,e1) ∧ varint_Reader_Num.f s1 p1 e1 = some (a.f1,s2,p2,e2)) ∧ edit_Parse.gones m s2 p2 e2 (l ++ [a]) = some C:=by
 rw [edit_Parse.gones,if_pos rfl] at h
 obtain ⟨⟨a,s6,p6,e6⟩,hc,h⟩:=Option.bind_eq_some_iff.mp h
 dsimp only at h
 by_cases hl:l.length < 8796093022208
 ·rw [if_pos hl] at h
  refine ⟨hl,?_⟩
  obtain ⟨⟨a0,s1,p1,e1⟩,h1,hc⟩:=Option.bind_eq_some_iff.mp hc
  obtain ⟨⟨a1,s2,p2,e2⟩,h2,hc⟩:=Option.bind_eq_some_iff.mp hc
  dsimp only at h1 h2 hc
  simp only [Option.some.injEq,Prod.mk.injEq] at hc
  obtain ⟨rfl,rfl,rfl,rfl⟩:=hc
  exact ⟨_,_,_,_,_,_,_,⟨h1,h2⟩,h⟩
 ·rw [if_neg hl] at h;cases h
theorem own_set2 {w:World} {base e size n t b i:Nat} {v:Value} {xs:List Value} (u:Value) (h:w.ownsRow base e size v n xs) (hb:∃ cs,w.heap[b]? = some (.cells cs t (0,0))) (hne:e ≠ t):(w.setCell ⟨b,i,none⟩ u).ownsRow base e size v n xs ∧ ∃ cs,(w.setCell ⟨b,i,none⟩ u).heap[b]? = some (.cells cs t (0,0)):=by
 obtain ⟨cs,hb⟩:=hb
 refine ⟨own_move h (fun k hk=>?_),cs.setIfInBounds i u,?_⟩
 ·obtain ⟨cs',hc⟩:=own_type h hk
  exact Below.heap_setCell w _ u k (blk_ne hc hb hne)
 ·simp [World.setCell,Array.getElem?_modify,hb]
theorem own_set5 {w:World} {base e size n t b:Nat} {v:Value} {xs:List Value} (u0 u1 u2 u3 u4:Value) (h:w.ownsRow base e size v n xs) (hb:∃ cs,w.heap[b]? = some (.cells cs t (0,0))) (hne:e ≠ t):(((((w.setCell ⟨b,0,none⟩ u0).setCell ⟨b,1,none⟩ u1).setCell ⟨b,2,none⟩ u2).setCell ⟨b,3,none⟩ u3).setCell ⟨b,4,none⟩ u4).ownsRow base e size v n xs:=by
 obtain ⟨h,hb⟩:=own_set2 (i:=0) u0 h hb hne
 obtain ⟨h,hb⟩:=own_set2 (i:=1) u1 h hb hne
 obtain ⟨h,hb⟩:=own_set2 (i:=2) u2 h hb hne
 obtain ⟨h,hb⟩:=own_set2 (i:=3) u3 h hb hne
 exact (own_set2 (i:=4) u4 h hb hne).1
theorem below_set5 {B b:Nat} {w0 w:World} (u0 u1 u2 u3 u4:Value) (h:Below B w0 w) (hb:B ≤ b):Below B w0 (((((w.setCell ⟨b,0,none⟩ u0).setCell ⟨b,1,none⟩ u1).setCell ⟨b,2,none⟩ u2).setCell ⟨b,3,none⟩ u3).setCell ⟨b,4,none⟩ u4):=
 ((((h.setCell (p:=⟨b,0,none⟩) hb u0).setCell (p:=⟨b,1,none⟩) hb u1).setCell (p:=⟨b,2,none⟩) hb u2).setCell (p:=⟨b,3,none⟩) hb u3).setCell (p:=⟨b,4,none⟩) hb u4
def edit_Parse.Post (w:World) (R:Int × Int × Int × List S107 × List S111 × Int) (e:Ending) (w':World):Prop:=
 ∃ v3_ v4_:Value,e = .returned (.tuple #[.agg #[.int .u64 R.1,.int .u64 R.2.1,.int .u64 R.2.2.1,v3_,v4_],.int .i64 R.2.2.2.2.2]) ∧ Kd.R k107 107 w' w.heap.size (fun _=>True) v3_ R.2.2.2.1 ∧ Kd.R k111 111 w' w.heap.size (fun _=>True) v4_ R.2.2.2.2.1 ∧ Below w.heap.size w w'
theorem edit_Parse.info107:(Tryd.prog.info? 107).map (fun i=>(i.zero,i.size,i.bytes)) = some (some (.agg #[(.int .i64 0),(.int .u64 0),(.int .u64 0),(.int .u64 0),(.string ⟨#[]⟩),(.string ⟨#[]⟩)]),6,64):=by kernel_rfl
theorem edit_Parse.info111:(Tryd.prog.info? 111).map (fun i=>(i.zero,i.size,i.bytes)) = some (some (.agg #[(.int .i64 0),(.int .u64 0)]),2,16):=by kernel_rfl
def edit_Parse.J1 (w:World) (g b2 b5:Nat) (lg nx sq n:Int) (C:List S107 × ByteArray × Int × Int) (i:Int) (W:World):Prop:=
 ∃ (m:Nat) (s:ByteArray) (p e:Int) (v3:Value) (l3:List S107),0 ≤ i ∧ i + m = n ∧ edit_Parse.St w g b2 b5 s p e #[.int .u64 lg,.int .u64 nx,.int .u64 sq,v3,.slice none 0 0] v3 l3 (.slice none 0 0) [] W ∧ edit_Parse.comes m s p e l3 = some C
def edit_Parse.J2 (w:World) (g b2 b5:Nat) (lg nx sq n:Int) (l3:List S107) (v3:Value) (C:List S111 × ByteArray × Int × Int) (i:Int) (W:World):Prop:=
 ∃ (m:Nat) (s:ByteArray) (p e:Int) (v4:Value) (l4:List S111),0 ≤ i ∧ i + m = n ∧ edit_Parse.St w g b2 b5 s p e #[.int .u64 lg,.int .u64 nx,.int .u64 sq,v3,v4] v3 l3 v4 l4 W ∧ edit_Parse.gones m s p e l4 = some C
structure edit_Parse.Parts (a0:ByteArray) (R:Int × Int × Int × List S107 × List S111 × Int) (n1 n2 n3 n4 n6 z:Int) (s1 s2 s3 s4 s5 s6 s7 s8:ByteArray) (p1 p2 p3 p4 p5 p6 p7 p8 e1 e2 e3 e4 e5 e6 e7 e8:Int) (l3:List S107) (l4:List S111):Prop where
 a1:varint_Reader_Num.f a0 0 0 = some (n1,s1,p1,e1)
 a2:varint_Reader_Num.f s1 p1 e1 = some (n2,s2,p2,e2)
 a3:varint_Reader_Num.f s2 p2 e2 = some (n3,s3,p3,e3)
 a4:edit_count.f s3 p3 e3 = some (n4,s4,p4,e4)
 a5:edit_Parse.comes n4.toNat s4 p4 e4 [] = some (l3,s5,p5,e5)
 a6:edit_count.f s5 p5 e5 = some (n6,s6,p6,e6)
 a7:edit_Parse.gones n6.toNat s6 p6 e6 [] = some (l4,s7,p7,e7)
 a8:varint_Reader_End.f s7 p7 e7 = some (z,s8,p8,e8)
 hr:edit_Parse.fin n1 n2 n3 l3 l4 z = R
 h4:0 ≤ n4 ∧ n4 ≤ 18446744073709551615
 h6:0 ≤ n6 ∧ n6 ≤ 18446744073709551615
theorem edit_Parse.parts {a0:ByteArray} {R:Int × Int × Int × List S107 × List S111 × Int} (h:edit_Parse.f a0 = some R):∃ n1 n2 n3 n4 n6 z s1 s2 s3 s4 s5 s6 s7 s8 p1 p2 p3 p4 p5 p6 p7 p8 e1 e2 e3 e4 e5 e6 e7 e8 l3 l4,edit_Parse.Parts a0 R n1 n2 n3 n4 n6 z s1 s2 s3 s4 s5 s6 s7 s8 p1 p2 p3 p4 p5 p6 p7 p8 e1 e2 e3 e4 e5 e6 e7 e8 l3 l4:=by
 obtain ⟨⟨n1,s1,p1,e1⟩,A1,h⟩:=Option.bind_eq_some_iff.mp h
 obtain ⟨⟨n2,s2,p2,e2⟩,A2,h⟩:=Option.bind_eq_some_iff.mp h
 obtain ⟨⟨n3,s3,p3,e3⟩,A3,h⟩:=Option.bind_eq_some_iff.mp h
 obtain ⟨⟨n4,s4,p4,e4⟩,A4,h⟩:=Option.bind_eq_some_iff.mp h
 dsimp only at A1 A2 A3 A4 h
 by_cases hn4:0 ≤ n4 ∧ n4 ≤ 18446744073709551615
 ·rw [if_pos hn4] at h
  obtain ⟨⟨l3,s5,p5,e5⟩,A5,h⟩:=Option.bind_eq_some_iff.mp h
  obtain ⟨⟨n6,s6,p6,e6⟩,A6,h⟩:=Option.bind_eq_some_iff.mp h
  dsimp only at A5 A6 h
  by_cases hn6:0 ≤ n6 ∧ n6 ≤ 18446744073709551615
  ·rw [if_pos hn6] at h
   obtain ⟨⟨l4,s7,p7,e7⟩,A7,h⟩:=Option.bind_eq_some_iff.mp h
   obtain ⟨⟨z,s8,p8,e8⟩,A8,h⟩:=Option.bind_eq_some_iff.mp h
   dsimp only at A7 A8 h
   exact ⟨_,_,_,_,_,_,_,_,_,_,_,_,_,_,_,_,_,_,_,_,_,_,_,_,_,_,_,_,_,_,_,_,A1,A2,A3,A4,A5,A6,A7,A8,Option.some.inj h,hn4,hn6⟩
  ·rw [if_neg hn6] at h;cases h
 ·rw [if_neg hn4] at h;cases h
set_option maxHeartbeats 1000000 in
set_option maxRecDepth 100000 in
theorem edit_Parse.walk (a0:ByteArray) (R:Int × Int × Int × List S107 × List S111 × Int) (w:World) (h:edit_Parse.f a0 = some R):Calls Tryd.prog 18 #[.string a0] w (edit_Parse.Post w R):=by
 obtain ⟨n1,n2,n3,n4,n6,z,s1,s2,s3,s4,s5,s6,s7,s8,p1,p2,p3,p4,p5,p6,p7,p8,e1,e2,e3,e4,e5,e6,e7,e8,l3,l4,A⟩:=edit_Parse.parts h
 clear h
 obtain ⟨hn4,hu4⟩:=A.h4
 obtain ⟨hn6,hu6⟩:=A.h6
 go_enter Tryd.func18,Tryd.ntmps18
 go_wp2_with fail
 refine (varint_Over.calls a0 a0 0 0 w _ ((Below.refl _ w).alloc (Nat.le_refl _) _) rfl).mono ?_
 rintro e W1 ⟨g,rfl,hi1',hb1,hb1'⟩
 have h21:W1.heap[w.heap.size]? = some (.cells edit_zero26 26 (0,0)):=(hb1'.block _ (by simp)).trans (heap_alloc_new w _)
 go_wp2_with fail
 refine (varint_Reader_Num.calls g _ _ _ _ _ _ _ w _ hi1' hb1 A.a1).mono ?_
 rintro e W2 ⟨rfl,hi2,hb2,hk2⟩
 have h22:=blk_kept_keep h21 hk2 hi1'.1 (by decide)
 go_wp2_with fail
 refine (varint_Reader_Num.calls g _ _ _ _ _ _ _ w _ hi2 hb2 A.a2).mono ?_
 rintro e W3 ⟨rfl,hi3,hb3,hk3⟩
 have h23:=blk_kept_keep h22 hk3 hi2.1 (by decide)
 go_wp2_with fail
 refine (varint_Reader_Num.calls g _ _ _ _ _ _ _ w _ hi3 hb3 A.a3).mono ?_
 rintro e W4 ⟨rfl,hi4,hb4,hk4⟩
 have h24:=blk_kept_keep h23 hk4 hi3.1 (by decide)
 go_wp2_with fail
 refine (edit_count.calls g _ _ _ _ _ _ _ w _ (hi4.alloc _) (below_alloc hb4 _) A.a4).mono ?_
 rintro e W5 ⟨rfl,hi5,hb5,hk5⟩
 have S0:edit_Parse.St w g w.heap.size W4.heap.size s3 p3 e3 #[.int .u64 n1,.int .u64 n2,.int .u64 n3,.slice none 0 0,.slice none 0 0] (.slice none 0 0) [] (.slice none 0 0) [] (W4.alloc (.cells #[.int .u64 n1,.int .u64 n2,.int .u64 n3,.slice none 0 0,.slice none 0 0] 26)):=
  ⟨hi4.alloc _,blk_alloc h24 _,heap_alloc_new _ _,World.ownsRow_nil _ _ _ _,World.ownsRow_nil _ _ _ _,below_alloc hb4 _,Nat.le_refl _,hb4.size,fun h=>by have:=heap_lt h24;omega⟩
 have S5:=S0.call hi5 hb5 hk5
 obtain ⟨b5,hb5e⟩:∃ b,b = W4.heap.size:=⟨_,rfl⟩
 rw [← hb5e] at S5 ⊢
 have X5:=Hush.mk hb5e
 clear S0 h24 h23 h22 h21 hi1' hi2 hi3 hi4 hi5 hb1 hb1' hb2 hb3 hb4 hb5 hk2 hk3 hk4 hk5 hb5e
 go_wp2_with fail
 go_loopw [7] (fun i wr=>∃ iv:Int,i = .int .u64 iv ∧ edit_Parse.J1 w g w.heap.size b5 n1 n2 n3 n4 (l3,s5,p5,e5) iv wr) (fun i _=>(n4 - intOf i).toNat)
 case atStart=>exact ⟨0,rfl,n4.toNat,s4,p4,e4,_,_,by omega,by omega,S5,A.a5⟩
 case round=>
  obtain ⟨iv,rfl,m,s,p,e,v3,l,hi0,him,hS,hc⟩:=hrel
  clear S5
  have HC:=Hush.mk hc
  clear hc
  by_cases hgo:iv < n4 ∧ e = 0
  ·obtain ⟨hlt,he⟩:=hgo
   obtain ⟨m,rfl⟩:∃ m',m = m' + 1:=⟨m - 1,by omega⟩
   obtain ⟨hll,a,t1,t2,t3,t4,t5,t6,q1,q2,q3,q4,q5,q6,f1,f2,f3,f4,f5,f6,HCm,hcs⟩:=edit_Parse.comes_go (he ▸ HC.out)
   have HN:=Hush.mk hcs
   subst he
   clear HC hcs
   go_wp2_with fail
   refine (varint_Reader_Err.calls g s p 0 0 s p 0 w wr hS.rd hS.bel rfl).mono ?_
   rintro e W6 ⟨rfl,hi6,hb6,hk6⟩
   have S6:=hS.call hi6 hb6 hk6
   clear hS hi6 hb6 hk6
   go_wp2_with fail
   refine (edit_levelOf.calls g _ _ _ _ _ _ _ w _ S6.rd S6.bel HCm.c1).mono ?_
   rintro e W7 ⟨rfl,hi7,hb7,hk7⟩
   have S7:=S6.call hi7 hb7 hk7
   clear S6 hi7 hb7 hk7
   have hv3:v3.ownBlock ≠ some W7.heap.size:=fun h=>by have:=(S7.o3.lt _ h).2;omega
   have ha8:=heap_alloc_new W7 (.cells #[.int .i64 a.f0,.int .u64 0,.int .u64 0,.int .u64 0,.string ⟨#[]⟩,.string ⟨#[]⟩] 107)
   have S8:=S7.alloc (.cells #[.int .i64 a.f0,.int .u64 0,.int .u64 0,.int .u64 0,.string ⟨#[]⟩,.string ⟨#[]⟩] 107)
   have hga:w.heap.size ≤ W7.heap.size:=S7.bel.size
   clear S7
   go_wp2_with fail
   obtain ⟨W8,hW8⟩:∃ W,W = W7.alloc (.cells #[.int .i64 a.f0,.int .u64 0,.int .u64 0,.int .u64 0,.string ⟨#[]⟩,.string ⟨#[]⟩] 107):=⟨_,rfl⟩
   rw [← hW8] at S8 ha8 ⊢
   obtain ⟨ba,hba⟩:∃ b,b = W7.heap.size:=⟨_,rfl⟩
   rw [← hba] at ha8 hv3 hga ⊢
   clear hba hW8
   refine (varint_Reader_Num.calls g _ _ _ _ _ _ _ w _ S8.rd S8.bel HCm.c2).mono ?_
   rintro e W9 ⟨rfl,hi,hb,hk⟩
   have S9:=S8.call hi hb hk
   have ha9:=blk_kept_keep ha8 hk S8.rd.1 (by decide)
   clear S8 ha8 hi hb hk
   go_wp2_with fail
   refine (varint_Reader_Num.calls g _ _ _ _ _ _ _ w _ S9.rd S9.bel HCm.c3).mono ?_
   rintro e W10 ⟨rfl,hi,hb,hk⟩
   have S10:=S9.call hi hb hk
   have ha10:=blk_kept_keep ha9 hk S9.rd.1 (by decide)
   clear S9 ha9 hi hb hk
   go_wp2_with fail
   refine (varint_Reader_Num.calls g _ _ _ _ _ _ _ w _ S10.rd S10.bel HCm.c4).mono ?_
   rintro e W11 ⟨rfl,hi,hb,hk⟩
   have S11:=S10.call hi hb hk
   have ha11:=blk_kept_keep ha10 hk S10.rd.1 (by decide)
   clear S10 ha10 hi hb hk
   go_wp2_with fail
   refine (varint_Reader_Text.calls g _ _ _ 200 _ _ _ _ w _ S11.rd S11.bel HCm.c5).mono ?_
   rintro e W12 ⟨rfl,hi,hb,hk⟩
   have S12:=S11.call hi hb hk
   have ha12:=blk_kept_keep ha11 hk S11.rd.1 (by decide)
   clear S11 ha11 hi hb hk
   go_wp2_with fail
   refine (varint_Reader_Text.calls g _ _ _ 200 _ _ _ _ w _ S12.rd S12.bel HCm.c6).mono ?_
   rintro e W13 ⟨rfl,hi,hb,hk⟩
   have S13:=S12.call hi hb hk
   have ha13:=blk_kept_keep ha12 hk S12.rd.1 (by decide)
   clear S12 ha12 hi hb hk
   have n5a:b5 ≠ ba:=blk_ne S13.h5 ha13 (by decide)
   have na5:ba ≠ b5:=fun h=>n5a h.symm
   have n2a:w.heap.size ≠ ba:=blk_ne S13.h2 ha13 (by decide)
   have nga:g ≠ ba:=blk_ne S13.rd.1 ha13 (by decide)
   have k0:=(blk_cell ha13 0).trans rfl
   have k1:=(blk_cell ha13 1).trans rfl
   have k2:=(blk_cell ha13 2).trans rfl
   have k3:=(blk_cell ha13 3).trans rfl
   have k4:=(blk_cell ha13 4).trans rfl
   have k5:=(blk_cell ha13 5).trans rfl
   have z1:=blk_frozen ha13 1
   have z2:=blk_frozen ha13 2
   have z3:=blk_frozen ha13 3
   have z4:=blk_frozen ha13 4
   have z5:=blk_frozen ha13 5
   have y3:=(blk_cell S13.h5 3).trans rfl
   obtain ⟨WX,hWX⟩:∃ W,W = ((((W13.setCell ⟨ba,1,none⟩ (.int .u64 a.f1.f0)).setCell ⟨ba,2,none⟩ (.int .u64 a.f1.f1)).setCell ⟨ba,3,none⟩ (.int .u64 a.f1.f2)).setCell ⟨ba,4,none⟩ (.string a.f1.f3)).setCell ⟨ba,5,none⟩ (.string a.f1.f4):=⟨_,rfl⟩
   have SX:edit_Parse.St w g w.heap.size b5 t6 q6 f6 #[.int .u64 n1,.int .u64 n2,.int .u64 n3,v3,.slice none 0 0] v3 l (.slice none 0 0) [] WX:=by
    rw [hWX]
    exact ((((S13.far (b:=ba) (i:=1) (.int .u64 a.f1.f0) hga nga n2a n5a hv3 (by simp [Value.ownBlock])).far (b:=ba) (i:=2) (.int .u64 a.f1.f1) hga nga n2a n5a hv3 (by simp [Value.ownBlock])).far (b:=ba) (i:=3) (.int .u64 a.f1.f2) hga nga n2a n5a hv3 (by simp [Value.ownBlock])).far (b:=ba) (i:=4) (.string a.f1.f3) hga nga n2a n5a hv3 (by simp [Value.ownBlock])).far (b:=ba) (i:=5) (.string a.f1.f4) hga nga n2a n5a hv3 (by simp [Value.ownBlock])
   have LX:=Hush.mk hll
   have HX:=Hush.mk hWX
   have SY:=SX.alloc (.cells #[.int .i64 a.f0,.int .u64 a.f1.f0,.int .u64 a.f1.f1,.int .u64 a.f1.f2,.string a.f1.f3,.string a.f1.f4] 107)
   have NY:∀ j u,(edit_cells107 a)[j]? = some u → (WX.alloc (.cells #[.int .i64 a.f0,.int .u64 a.f1.f0,.int .u64 a.f1.f1,.int .u64 a.f1.f2,.string a.f1.f3,.string a.f1.f4] 107)).cell? ((⟨WX.heap.size,0,none⟩:Addr).add j) = some u:=cells_new WX (edit_cells107 a) 107
   have SZ:=Hush.mk SY.bel.size
   have SY:=Hush.mk SY
   have NY:=Hush.mk NY
   clear hv3 hWX SX hll
   rename_i SY0 NY0
   clear SY0 NY0 ha13 S13
   obtain ⟨I7,HI7,HZ0,HZ1,HZ2⟩:=info_parts edit_Parse.info107
   go_wp2_with (at_builtin;rw [← HX.out];refine wpList_append_own _ rfl _ _ 23 rfl w.heap.size 107 I7 _ 6 64 Tryd.underlying23 HI7 HZ0 HZ1 HZ2 rfl (by decide) v3 l.length (l.flatMap edit_cells107) rfl SY.out.o3 ⟨WX.heap.size,0,none⟩ 1 1 (edit_cells107 a) ?ca rfl NY.out ?c2 ?c3 ?c4 ?c5 ?_)
   case ca=>
    have hsz:WX.heap.size = W13.heap.size:=by rw [HX.out];simp [World.setCell]
    rw [hsz]
    rfl
   case c2=>intro u hu;simp [edit_cells107] at hu;rcases hu with rfl | rfl | rfl | rfl | rfl | rfl <;> rfl
   case c3=>have:=LX.out;unfold maxLen;omega
   case c4=>have:=LX.out;omega
   case c5=>exact SZ.out
   intro v' w1 hown1 hgrow _
   have SP:=SY.out.push3 hown1 hgrow
   obtain ⟨A',cap',rfl⟩:∃ A' c',v' = .slice A' (l.length + 1) c':=by
    rcases hown1.2 with ⟨rfl,h0⟩ | ⟨g',cap,cur,rfl,_⟩
    ·simp [edit_cells107] at h0
    ·exact ⟨_,_,rfl⟩
   have y4:=(blk_cell SP.h5 3).trans rfl
   have x4:=blk_frozen SP.h5 3
   have SQ:=Hush.mk (SP.set5 3 (.slice A' (l.length + 1) cap'))
   clear SP hown1 hgrow n5a na5 k0 k1 k2 k3 k4 k5 z1 z2 z3 z4 z5 y3
   go_wp2
   go_roundw
   case rel=>exact ⟨iv + 1,by go_num,m,t6,q6,f6,_,l ++ [a],by omega,by omega,SQ.out,HN.out⟩
   case measure=>simp [intOf];omega
  ·have hst:=edit_Parse.comes_stop HC.out (by omega)
   simp only [Prod.mk.injEq] at hst
   obtain ⟨rfl,rfl,rfl,rfl⟩:=hst
   clear HC
   by_cases hlt:iv < n4
   ·have he:(e == 0) = false:=by simpa using (fun h=>hgo ⟨hlt,h⟩:¬ e = 0)
    clear hgo
    go_wp2_with fail
    refine (varint_Reader_Err.calls g s p e e s p e w wr hS.rd hS.bel rfl).mono ?_
    rintro e_ W6 ⟨rfl,hi6,hb6,hk6⟩
    have S6:=hS.call hi6 hb6 hk6
    clear hS hi6 hb6 hk6
    go_wp2_with fail
    refine (edit_count.calls g _ _ _ _ _ _ _ w _ S6.rd S6.bel A.a6).mono ?_
    rintro e_ W20 ⟨rfl,hi20,hb20,hk20⟩
    have T0:=S6.call hi20 hb20 hk20
    clear S6 hi20 hb20 hk20
    go_wp2_with fail
    go_loopw [9] (fun i wr=>∃ iv:Int,i = .int .u64 iv ∧ edit_Parse.J2 w g w.heap.size b5 n1 n2 n3 n6 l v3 (l4,s7,p7,e7) iv wr) (fun i _=>(n6 - intOf i).toNat)
    case atStart=>exact ⟨0,rfl,n6.toNat,s6,p6,e6,_,_,by omega,by omega,T0,A.a7⟩
    case round=>
     clear T0
     obtain ⟨iv,rfl,m,s,p,e,v4,lg,hi0,him,hT,hc⟩:=hrel
     have HC:=Hush.mk hc
     clear hc
     by_cases hgo:iv < n6 ∧ e = 0
     ·obtain ⟨hlt2,he⟩:=hgo
      obtain ⟨m,rfl⟩:∃ m',m = m' + 1:=⟨m - 1,by omega⟩
      obtain ⟨hll,a,t1,t2,q1,q2,f1,f2,HCm,hcs⟩:=edit_Parse.gones_go (he ▸ HC.out)
      have HN:=Hush.mk hcs
      have LX:=Hush.mk hll
      subst he
      clear HC hcs hll
      go_wp2_with fail
      refine (varint_Reader_Err.calls g s p 0 0 s p 0 w wr hT.rd hT.bel rfl).mono ?_
      rintro e_ W21 ⟨rfl,hi,hb,hk⟩
      have T1:=hT.call hi hb hk
      have y1:W21.cell? ⟨b5,4,none⟩ = some v4:=blk_cell T1.h5 4
      clear hT hi hb hk
      go_wp2_with fail
      obtain ⟨hc1,hc2⟩:=HCm
      have T1:=T1.drew
      have HC1:=Hush.mk hc1
      have HC2:=Hush.mk hc2
      clear hc1 hc2
      obtain ⟨I7,HI7,HZ0,HZ1,HZ2⟩:=info_parts edit_Parse.info111
      go_region_law (first | (refine step_append_lies _ rfl _ _ 24 rfl w.heap.size 111 I7 _ 2 16 Tryd.underlying24 HI7 HZ0 HZ1 HZ2 rfl (by decide) v4 lg.length (lg.flatMap edit_cells111) rfl (T3.alloc (.cells #[.int .i64 a.f0,.int .u64 a.f1] 111)).o4 ⟨W23.heap.size,0,none⟩ 1 1 (edit_cells111 a) rfl rfl (cells_new W23 (edit_cells111 a) 111) (by intro u hu;simp [edit_cells111] at hu;rcases hu with rfl | rfl <;> rfl) (by decide) (by have:=LX.out;unfold maxLen;omega) (by have:=LX.out;omega) (T3.alloc (.cells #[.int .i64 a.f0,.int .u64 a.f1] 111)).bel.size _ rfl ?_;intro g' cap' w1 hown1 hgrow _ _;have TP:=(T3.alloc (.cells #[.int .i64 a.f0,.int .u64 a.f1] 111)).push4 hown1 hgrow;have y4:=(blk_cell TP.h5 4).trans rfl;have x4:=blk_frozen TP.h5 4;have TQ:=Hush.mk (TP.set5 4 (.slice (some ⟨g',0,none⟩) (lg.length + 1) cap'));clear TP hown1 hgrow) | (go_simp;go_at_call 59;refine (edit_levelOf.calls g s p 0 a.f0 t1 q1 f1 w _ T1.rd T1.bel HC1.out).mono ?_;rintro e_ W22 ⟨rfl,hi,hb,hk⟩;have T2:edit_Parse.St w g w.heap.size b5 t1 q1 f1 _ v3 l v4 lg W22:=T1.call hi hb hk;have y2:W22.cell? ⟨b5,4,none⟩ = some v4:=blk_cell T2.h5 4;clear hi hb hk) | (go_simp;go_at_call 56;refine (varint_Reader_Num.calls g t1 q1 f1 a.f1 t2 q2 f2 w _ T2.rd T2.bel HC2.out).mono ?_;rintro e_ W23 ⟨rfl,hi,hb,hk⟩;have T3:edit_Parse.St w g w.heap.size b5 t2 q2 f2 _ v3 l v4 lg W23:=T2.call hi hb hk;have y3:W23.cell? ⟨b5,4,none⟩ = some v4:=blk_cell T3.h5 4;have y3a:(W23.alloc (.cells #[.int .i64 a.f0,.int .u64 a.f1] 111)).cell? ⟨b5,4,none⟩ = some v4:=blk_cell (T3.alloc (.cells #[.int .i64 a.f0,.int .u64 a.f1] 111)).h5 4;clear hi hb hk))
      all_goals
       go_wp2
       go_roundw
       case rel=>exact ⟨iv + 1,by go_num,m,t2,q2,f2,_,lg ++ [a],by omega,by omega,TQ.out,HN.out⟩
       case measure=>simp [intOf];omega
     ·have hst:=edit_Parse.gones_stop HC.out (by omega)
      simp only [Prod.mk.injEq] at hst
      obtain ⟨rfl,rfl,rfl,rfl⟩:=hst
      clear HC
      by_cases hlt2:iv < n6
      ·have he:(e == 0) = false:=by simpa using (fun h=>hgo ⟨hlt2,h⟩:¬ e = 0)
       clear hgo
       go_wp2_with fail
       refine (varint_Reader_Err.calls g s p e e s p e w wr hT.rd hT.bel rfl).mono ?_
       rintro e_ W21 ⟨rfl,hi,hb,hk⟩
       have T1:=hT.call hi hb hk
       clear hT hi hb hk
       go_wp2_with fail
       refine (varint_Reader_End.calls g _ _ _ _ _ _ _ w _ T1.rd T1.bel A.a8).mono ?_
       rintro e_ W30 ⟨rfl,hi,hb,hk⟩
       have U:=T1.call hi hb hk
       have HA:=Hush.mk A.hr
       clear T1 hi hb hk
       have R3:=R_of_own (d:=k107) edit_cells107 (fun _=>rfl) (fun ok x=>k107_mkM _ _ ok x) U.o3
       have R4:=R_of_own (d:=k111) edit_cells111 (fun _=>rfl) (fun ok x=>k111_mkM _ _ ok x) U.o4
       obtain ⟨A3,c3,rfl,_,hC3⟩:=Kd.R_reads R3
       obtain ⟨A4,c4,rfl,_,hC4⟩:=Kd.R_reads R4
       have C3:=Hush.mk hC3
       have C4:=Hush.mk hC4
       have R3:=Hush.mk R3
       have R4:=Hush.mk R4
       have x0:W30.cell? ⟨b5,0,none⟩ = some (.int .u64 n1):=blk_cell U.h5 0
       have x1:W30.cell? ⟨b5,1,none⟩ = some (.int .u64 n2):=blk_cell U.h5 1
       have x2:W30.cell? ⟨b5,2,none⟩ = some (.int .u64 n3):=blk_cell U.h5 2
       have x3:W30.cell? ⟨b5,3,none⟩ = some (.slice A3 l.length c3):=blk_cell U.h5 3
       have x4:W30.cell? ⟨b5,4,none⟩ = some (.slice A4 lg.length c4):=blk_cell U.h5 4
       clear hC3 hC4
       by_cases hz:z = 0
       ·have hz1:(z == 0) = true:=by simpa using hz
        have HZ:=Hush.mk hz
        clear hz
        go_wp2_with fail
        refine (edit_Edit_Check.walk n1 n2 n3 A3 c3 l A4 c4 lg W30 C3.out C4.out).mono ?_
        rintro e_ W31 ⟨rfl,hb31⟩
        have h2':=(hb31.block _ (heap_lt U.h2)).trans U.h2
        have h5':=(hb31.block _ (heap_lt U.h5)).trans U.h5
        have o3':=Hush.mk (own_move U.o3 (fun k hk=>by obtain ⟨cs,hc⟩:=own_type U.o3 hk;exact hb31.block _ (heap_lt hc)))
        have o4':=Hush.mk (own_move U.o4 (fun k hk=>by obtain ⟨cs,hc⟩:=own_type U.o4 hk;exact hb31.block _ (heap_lt hc)))
        have bel':=Hush.mk (U.bel.trans (hb31.mono U.bel.size))
        have x0:W31.cell? ⟨b5,0,none⟩ = some (.int .u64 n1):=blk_cell h5' 0
        have x1:W31.cell? ⟨b5,1,none⟩ = some (.int .u64 n2):=blk_cell h5' 1
        have x2:W31.cell? ⟨b5,2,none⟩ = some (.int .u64 n3):=blk_cell h5' 2
        have x3:W31.cell? ⟨b5,3,none⟩ = some (.slice A3 l.length c3):=blk_cell h5' 3
        have x4:W31.cell? ⟨b5,4,none⟩ = some (.slice A4 lg.length c4):=blk_cell h5' 4
        have d0:W31.cell? ⟨w.heap.size,0,none⟩ = some (.int .u64 0):=blk_cell h2' 0
        have f0:=blk_frozen h2' 0
        have d1:W31.cell? ⟨w.heap.size,1,none⟩ = some (.int .u64 0):=blk_cell h2' 1
        have f1:=blk_frozen h2' 1
        have d2:W31.cell? ⟨w.heap.size,2,none⟩ = some (.int .u64 0):=blk_cell h2' 2
        have f2:=blk_frozen h2' 2
        have d3:W31.cell? ⟨w.heap.size,3,none⟩ = some (.slice none 0 0):=blk_cell h2' 3
        have f3:=blk_frozen h2' 3
        have d4:W31.cell? ⟨w.heap.size,4,none⟩ = some (.slice none 0 0):=blk_cell h2' 4
        have f4:=blk_frozen h2' 4
        have H2:=Hush.mk h2'
        clear h2' h5' hb31 U
        obtain ⟨cv,hcv⟩:∃ c,c = edit_Edit_Check.val l lg:=⟨_,rfl⟩
        rw [← hcv]
        have HV:=Hush.mk hcv
        clear hcv
        by_cases hv:cv = 0
        ·have hv1:(cv == 0) = true:=by simpa using hv
         have hv2:(cv != 0) = false:=by simpa using hv
         have HR:Hush (R = (n1,n2,n3,l,lg,0)):=⟨by rw [← HA.out,edit_Parse.fin,if_pos HZ.out,← HV.out,if_pos hv]⟩
         clear hv
         go_wp2
         obtain rfl:=HR.out
         exact bodyPost_ret (v:=.tuple #[.agg #[.int .u64 n1,.int .u64 n2,.int .u64 n3,.slice A3 l.length c3,.slice A4 lg.length c4],.int .i64 0]) (by simp [results,Tryd.results18,go_sem,d0,d1,d2,d3,d4]) rfl
          ⟨_,_,rfl,R_of_own (d:=k107) edit_cells107 (fun _=>rfl) (fun ok x=>k107_mkM _ _ ok x) (own_set5 _ _ _ _ _ o3'.out ⟨_,H2.out⟩ (by decide)),R_of_own (d:=k111) edit_cells111 (fun _=>rfl) (fun ok x=>k111_mkM _ _ ok x) (own_set5 _ _ _ _ _ o4'.out ⟨_,H2.out⟩ (by decide)),below_set5 _ _ _ _ _ bel'.out (Nat.le_refl _)⟩
        ·have hv1:(cv == 0) = false:=by simpa using hv
         have hv2:(cv != 0) = true:=by simpa using hv
         have HR:Hush (R = (0,0,0,[],[],cv)):=⟨by rw [← HA.out,edit_Parse.fin,if_pos HZ.out,← HV.out,if_neg hv]⟩
         clear hv
         go_wp2
         obtain rfl:=HR.out
         exact bodyPost_ret (v:=.tuple #[.agg #[.int .u64 0,.int .u64 0,.int .u64 0,.slice none 0 0,.slice none 0 0],.int .i64 cv]) (by simp [results,Tryd.results18,go_sem,d0,d1,d2,d3,d4]) rfl ⟨_,_,rfl,Kd.R_nil _ _ _ _ _,Kd.R_nil _ _ _ _ _,below_set5 _ _ _ _ _ bel'.out (Nat.le_refl _)⟩
       ·have hz1:(z == 0) = false:=by simpa using hz
        have hz2:(z != 0) = true:=by simpa using hz
        have HR:Hush (R = (0,0,0,[],[],z)):=⟨by rw [← HA.out,edit_Parse.fin,if_neg hz]⟩
        clear hz
        have d0:W30.cell? ⟨w.heap.size,0,none⟩ = some (.int .u64 0):=blk_cell U.h2 0
        have f0:=blk_frozen U.h2 0
        have d1:W30.cell? ⟨w.heap.size,1,none⟩ = some (.int .u64 0):=blk_cell U.h2 1
        have f1:=blk_frozen U.h2 1
        have d2:W30.cell? ⟨w.heap.size,2,none⟩ = some (.int .u64 0):=blk_cell U.h2 2
        have f2:=blk_frozen U.h2 2
        have d3:W30.cell? ⟨w.heap.size,3,none⟩ = some (.slice none 0 0):=blk_cell U.h2 3
        have f3:=blk_frozen U.h2 3
        have d4:W30.cell? ⟨w.heap.size,4,none⟩ = some (.slice none 0 0):=blk_cell U.h2 4
        have f4:=blk_frozen U.h2 4
        have HU:=Hush.mk U
        clear U
        go_wp2
        obtain rfl:=HR.out
        exact bodyPost_ret (v:=.tuple #[.agg #[.int .u64 0,.int .u64 0,.int .u64 0,.slice none 0 0,.slice none 0 0],.int .i64 z]) (by simp [results,Tryd.results18,go_sem,d0,d1,d2,d3,d4]) rfl ⟨_,_,rfl,Kd.R_nil _ _ _ _ _,Kd.R_nil _ _ _ _ _,below_set5 _ _ _ _ _ HU.out.bel (Nat.le_refl _)⟩
      ·clear hgo
       go_wp2_with fail
       refine (varint_Reader_End.calls g _ _ _ _ _ _ _ w _ hT.rd hT.bel A.a8).mono ?_
       rintro e_ W30 ⟨rfl,hi,hb,hk⟩
       have U:=hT.call hi hb hk
       have HA:=Hush.mk A.hr
       clear hT hi hb hk
       have R3:=R_of_own (d:=k107) edit_cells107 (fun _=>rfl) (fun ok x=>k107_mkM _ _ ok x) U.o3
       have R4:=R_of_own (d:=k111) edit_cells111 (fun _=>rfl) (fun ok x=>k111_mkM _ _ ok x) U.o4
       obtain ⟨A3,c3,rfl,_,hC3⟩:=Kd.R_reads R3
       obtain ⟨A4,c4,rfl,_,hC4⟩:=Kd.R_reads R4
       have C3:=Hush.mk hC3
       have C4:=Hush.mk hC4
       have R3:=Hush.mk R3
       have R4:=Hush.mk R4
       have x0:W30.cell? ⟨b5,0,none⟩ = some (.int .u64 n1):=blk_cell U.h5 0
       have x1:W30.cell? ⟨b5,1,none⟩ = some (.int .u64 n2):=blk_cell U.h5 1
       have x2:W30.cell? ⟨b5,2,none⟩ = some (.int .u64 n3):=blk_cell U.h5 2
       have x3:W30.cell? ⟨b5,3,none⟩ = some (.slice A3 l.length c3):=blk_cell U.h5 3
       have x4:W30.cell? ⟨b5,4,none⟩ = some (.slice A4 lg.length c4):=blk_cell U.h5 4
       clear hC3 hC4
       by_cases hz:z = 0
       ·have hz1:(z == 0) = true:=by simpa using hz
        have HZ:=Hush.mk hz
        clear hz
        go_wp2_with fail
        refine (edit_Edit_Check.walk n1 n2 n3 A3 c3 l A4 c4 lg W30 C3.out C4.out).mono ?_
        rintro e_ W31 ⟨rfl,hb31⟩
        have h2':=(hb31.block _ (heap_lt U.h2)).trans U.h2
        have h5':=(hb31.block _ (heap_lt U.h5)).trans U.h5
        have o3':=Hush.mk (own_move U.o3 (fun k hk=>by obtain ⟨cs,hc⟩:=own_type U.o3 hk;exact hb31.block _ (heap_lt hc)))
        have o4':=Hush.mk (own_move U.o4 (fun k hk=>by obtain ⟨cs,hc⟩:=own_type U.o4 hk;exact hb31.block _ (heap_lt hc)))
        have bel':=Hush.mk (U.bel.trans (hb31.mono U.bel.size))
        have x0:W31.cell? ⟨b5,0,none⟩ = some (.int .u64 n1):=blk_cell h5' 0
        have x1:W31.cell? ⟨b5,1,none⟩ = some (.int .u64 n2):=blk_cell h5' 1
        have x2:W31.cell? ⟨b5,2,none⟩ = some (.int .u64 n3):=blk_cell h5' 2
        have x3:W31.cell? ⟨b5,3,none⟩ = some (.slice A3 l.length c3):=blk_cell h5' 3
        have x4:W31.cell? ⟨b5,4,none⟩ = some (.slice A4 lg.length c4):=blk_cell h5' 4
        have d0:W31.cell? ⟨w.heap.size,0,none⟩ = some (.int .u64 0):=blk_cell h2' 0
        have f0:=blk_frozen h2' 0
        have d1:W31.cell? ⟨w.heap.size,1,none⟩ = some (.int .u64 0):=blk_cell h2' 1
        have f1:=blk_frozen h2' 1
        have d2:W31.cell? ⟨w.heap.size,2,none⟩ = some (.int .u64 0):=blk_cell h2' 2
        have f2:=blk_frozen h2' 2
        have d3:W31.cell? ⟨w.heap.size,3,none⟩ = some (.slice none 0 0):=blk_cell h2' 3
        have f3:=blk_frozen h2' 3
        have d4:W31.cell? ⟨w.heap.size,4,none⟩ = some (.slice none 0 0):=blk_cell h2' 4
        have f4:=blk_frozen h2' 4
        have H2:=Hush.mk h2'
        clear h2' h5' hb31 U
        obtain ⟨cv,hcv⟩:∃ c,c = edit_Edit_Check.val l lg:=⟨_,rfl⟩
        rw [← hcv]
        have HV:=Hush.mk hcv
        clear hcv
        by_cases hv:cv = 0
        ·have hv1:(cv == 0) = true:=by simpa using hv
         have hv2:(cv != 0) = false:=by simpa using hv
         have HR:Hush (R = (n1,n2,n3,l,lg,0)):=⟨by rw [← HA.out,edit_Parse.fin,if_pos HZ.out,← HV.out,if_pos hv]⟩
         clear hv
         go_wp2
         obtain rfl:=HR.out
         exact bodyPost_ret (v:=.tuple #[.agg #[.int .u64 n1,.int .u64 n2,.int .u64 n3,.slice A3 l.length c3,.slice A4 lg.length c4],.int .i64 0]) (by simp [results,Tryd.results18,go_sem,d0,d1,d2,d3,d4]) rfl
          ⟨_,_,rfl,R_of_own (d:=k107) edit_cells107 (fun _=>rfl) (fun ok x=>k107_mkM _ _ ok x) (own_set5 _ _ _ _ _ o3'.out ⟨_,H2.out⟩ (by decide)),R_of_own (d:=k111) edit_cells111 (fun _=>rfl) (fun ok x=>k111_mkM _ _ ok x) (own_set5 _ _ _ _ _ o4'.out ⟨_,H2.out⟩ (by decide)),below_set5 _ _ _ _ _ bel'.out (Nat.le_refl _)⟩
        ·have hv1:(cv == 0) = false:=by simpa using hv
         have hv2:(cv != 0) = true:=by simpa using hv
         have HR:Hush (R = (0,0,0,[],[],cv)):=⟨by rw [← HA.out,edit_Parse.fin,if_pos HZ.out,← HV.out,if_neg hv]⟩
         clear hv
         go_wp2
         obtain rfl:=HR.out
         exact bodyPost_ret (v:=.tuple #[.agg #[.int .u64 0,.int .u64 0,.int .u64 0,.slice none 0 0,.slice none 0 0],.int .i64 cv]) (by simp [results,Tryd.results18,go_sem,d0,d1,d2,d3,d4]) rfl ⟨_,_,rfl,Kd.R_nil _ _ _ _ _,Kd.R_nil _ _ _ _ _,below_set5 _ _ _ _ _ bel'.out (Nat.le_refl _)⟩
       ·have hz1:(z == 0) = false:=by simpa using hz
        have hz2:(z != 0) = true:=by simpa using hz
        have HR:Hush (R = (0,0,0,[],[],z)):=⟨by rw [← HA.out,edit_Parse.fin,if_neg hz]⟩
        clear hz
        have d0:W30.cell? ⟨w.heap.size,0,none⟩ = some (.int .u64 0):=blk_cell U.h2 0
        have f0:=blk_frozen U.h2 0
        have d1:W30.cell? ⟨w.heap.size,1,none⟩ = some (.int .u64 0):=blk_cell U.h2 1
        have f1:=blk_frozen U.h2 1
        have d2:W30.cell? ⟨w.heap.size,2,none⟩ = some (.int .u64 0):=blk_cell U.h2 2
        have f2:=blk_frozen U.h2 2
        have d3:W30.cell? ⟨w.heap.size,3,none⟩ = some (.slice none 0 0):=blk_cell U.h2 3
        have f3:=blk_frozen U.h2 3
        have d4:W30.cell? ⟨w.heap.size,4,none⟩ = some (.slice none 0 0):=blk_cell U.h2 4
        have f4:=blk_frozen U.h2 4
        have HU:=Hush.mk U
        clear U
        go_wp2
        obtain rfl:=HR.out
        exact bodyPost_ret (v:=.tuple #[.agg #[.int .u64 0,.int .u64 0,.int .u64 0,.slice none 0 0,.slice none 0 0],.int .i64 z]) (by simp [results,Tryd.results18,go_sem,d0,d1,d2,d3,d4]) rfl ⟨_,_,rfl,Kd.R_nil _ _ _ _ _,Kd.R_nil _ _ _ _ _,below_set5 _ _ _ _ _ HU.out.bel (Nat.le_refl _)⟩
   ·clear hgo
    go_wp2_with fail
    refine (edit_count.calls g _ _ _ _ _ _ _ w _ hS.rd hS.bel A.a6).mono ?_
    rintro e_ W20 ⟨rfl,hi20,hb20,hk20⟩
    have T0:=hS.call hi20 hb20 hk20
    clear hS hi20 hb20 hk20
    go_wp2_with fail
    go_loopw [9] (fun i wr=>∃ iv:Int,i = .int .u64 iv ∧ edit_Parse.J2 w g w.heap.size b5 n1 n2 n3 n6 l v3 (l4,s7,p7,e7) iv wr) (fun i _=>(n6 - intOf i).toNat)
    case atStart=>exact ⟨0,rfl,n6.toNat,s6,p6,e6,_,_,by omega,by omega,T0,A.a7⟩
    case round=>
     clear T0
     obtain ⟨iv,rfl,m,s,p,e,v4,lg,hi0,him,hT,hc⟩:=hrel
     have HC:=Hush.mk hc
     clear hc
     by_cases hgo:iv < n6 ∧ e = 0
     ·obtain ⟨hlt2,he⟩:=hgo
      obtain ⟨m,rfl⟩:∃ m',m = m' + 1:=⟨m - 1,by omega⟩
      obtain ⟨hll,a,t1,t2,q1,q2,f1,f2,HCm,hcs⟩:=edit_Parse.gones_go (he ▸ HC.out)
      have HN:=Hush.mk hcs
      have LX:=Hush.mk hll
      subst he
      clear HC hcs hll
      go_wp2_with fail
      refine (varint_Reader_Err.calls g s p 0 0 s p 0 w wr hT.rd hT.bel rfl).mono ?_
      rintro e_ W21 ⟨rfl,hi,hb,hk⟩
      have T1:=hT.call hi hb hk
      have y1:W21.cell? ⟨b5,4,none⟩ = some v4:=blk_cell T1.h5 4
      clear hT hi hb hk
      go_wp2_with fail
      obtain ⟨hc1,hc2⟩:=HCm
      have T1:=T1.drew
      have HC1:=Hush.mk hc1
      have HC2:=Hush.mk hc2
      clear hc1 hc2
      obtain ⟨I7,HI7,HZ0,HZ1,HZ2⟩:=info_parts edit_Parse.info111
      go_region_law (first | (refine step_append_lies _ rfl _ _ 24 rfl w.heap.size 111 I7 _ 2 16 Tryd.underlying24 HI7 HZ0 HZ1 HZ2 rfl (by decide) v4 lg.length (lg.flatMap edit_cells111) rfl (T3.alloc (.cells #[.int .i64 a.f0,.int .u64 a.f1] 111)).o4 ⟨W23.heap.size,0,none⟩ 1 1 (edit_cells111 a) rfl rfl (cells_new W23 (edit_cells111 a) 111) (by intro u hu;simp [edit_cells111] at hu;rcases hu with rfl | rfl <;> rfl) (by decide) (by have:=LX.out;unfold maxLen;omega) (by have:=LX.out;omega) (T3.alloc (.cells #[.int .i64 a.f0,.int .u64 a.f1] 111)).bel.size _ rfl ?_;intro g' cap' w1 hown1 hgrow _ _;have TP:=(T3.alloc (.cells #[.int .i64 a.f0,.int .u64 a.f1] 111)).push4 hown1 hgrow;have y4:=(blk_cell TP.h5 4).trans rfl;have x4:=blk_frozen TP.h5 4;have TQ:=Hush.mk (TP.set5 4 (.slice (some ⟨g',0,none⟩) (lg.length + 1) cap'));clear TP hown1 hgrow) | (go_simp;go_at_call 59;refine (edit_levelOf.calls g s p 0 a.f0 t1 q1 f1 w _ T1.rd T1.bel HC1.out).mono ?_;rintro e_ W22 ⟨rfl,hi,hb,hk⟩;have T2:edit_Parse.St w g w.heap.size b5 t1 q1 f1 _ v3 l v4 lg W22:=T1.call hi hb hk;have y2:W22.cell? ⟨b5,4,none⟩ = some v4:=blk_cell T2.h5 4;clear hi hb hk) | (go_simp;go_at_call 56;refine (varint_Reader_Num.calls g t1 q1 f1 a.f1 t2 q2 f2 w _ T2.rd T2.bel HC2.out).mono ?_;rintro e_ W23 ⟨rfl,hi,hb,hk⟩;have T3:edit_Parse.St w g w.heap.size b5 t2 q2 f2 _ v3 l v4 lg W23:=T2.call hi hb hk;have y3:W23.cell? ⟨b5,4,none⟩ = some v4:=blk_cell T3.h5 4;have y3a:(W23.alloc (.cells #[.int .i64 a.f0,.int .u64 a.f1] 111)).cell? ⟨b5,4,none⟩ = some v4:=blk_cell (T3.alloc (.cells #[.int .i64 a.f0,.int .u64 a.f1] 111)).h5 4;clear hi hb hk))
      all_goals
       go_wp2
       go_roundw
       case rel=>exact ⟨iv + 1,by go_num,m,t2,q2,f2,_,lg ++ [a],by omega,by omega,TQ.out,HN.out⟩
       case measure=>simp [intOf];omega
     ·have hst:=edit_Parse.gones_stop HC.out (by omega)
      simp only [Prod.mk.injEq] at hst
      obtain ⟨rfl,rfl,rfl,rfl⟩:=hst
      clear HC
      by_cases hlt2:iv < n6
      ·have he:(e == 0) = false:=by simpa using (fun h=>hgo ⟨hlt2,h⟩:¬ e = 0)
       clear hgo
       go_wp2_with fail
       refine (varint_Reader_Err.calls g s p e e s p e w wr hT.rd hT.bel rfl).mono ?_
       rintro e_ W21 ⟨rfl,hi,hb,hk⟩
       have T1:=hT.call hi hb hk
       clear hT hi hb hk
       go_wp2_with fail
       refine (varint_Reader_End.calls g _ _ _ _ _ _ _ w _ T1.rd T1.bel A.a8).mono ?_
       rintro e_ W30 ⟨rfl,hi,hb,hk⟩
       have U:=T1.call hi hb hk
       have HA:=Hush.mk A.hr
       clear T1 hi hb hk
       have R3:=R_of_own (d:=k107) edit_cells107 (fun _=>rfl) (fun ok x=>k107_mkM _ _ ok x) U.o3
       have R4:=R_of_own (d:=k111) edit_cells111 (fun _=>rfl) (fun ok x=>k111_mkM _ _ ok x) U.o4
       obtain ⟨A3,c3,rfl,_,hC3⟩:=Kd.R_reads R3
       obtain ⟨A4,c4,rfl,_,hC4⟩:=Kd.R_reads R4
       have C3:=Hush.mk hC3
       have C4:=Hush.mk hC4
       have R3:=Hush.mk R3
       have R4:=Hush.mk R4
       have x0:W30.cell? ⟨b5,0,none⟩ = some (.int .u64 n1):=blk_cell U.h5 0
       have x1:W30.cell? ⟨b5,1,none⟩ = some (.int .u64 n2):=blk_cell U.h5 1
       have x2:W30.cell? ⟨b5,2,none⟩ = some (.int .u64 n3):=blk_cell U.h5 2
       have x3:W30.cell? ⟨b5,3,none⟩ = some (.slice A3 l.length c3):=blk_cell U.h5 3
       have x4:W30.cell? ⟨b5,4,none⟩ = some (.slice A4 lg.length c4):=blk_cell U.h5 4
       clear hC3 hC4
       by_cases hz:z = 0
       ·have hz1:(z == 0) = true:=by simpa using hz
        have HZ:=Hush.mk hz
        clear hz
        go_wp2_with fail
        refine (edit_Edit_Check.walk n1 n2 n3 A3 c3 l A4 c4 lg W30 C3.out C4.out).mono ?_
        rintro e_ W31 ⟨rfl,hb31⟩
        have h2':=(hb31.block _ (heap_lt U.h2)).trans U.h2
        have h5':=(hb31.block _ (heap_lt U.h5)).trans U.h5
        have o3':=Hush.mk (own_move U.o3 (fun k hk=>by obtain ⟨cs,hc⟩:=own_type U.o3 hk;exact hb31.block _ (heap_lt hc)))
        have o4':=Hush.mk (own_move U.o4 (fun k hk=>by obtain ⟨cs,hc⟩:=own_type U.o4 hk;exact hb31.block _ (heap_lt hc)))
        have bel':=Hush.mk (U.bel.trans (hb31.mono U.bel.size))
        have x0:W31.cell? ⟨b5,0,none⟩ = some (.int .u64 n1):=blk_cell h5' 0
        have x1:W31.cell? ⟨b5,1,none⟩ = some (.int .u64 n2):=blk_cell h5' 1
        have x2:W31.cell? ⟨b5,2,none⟩ = some (.int .u64 n3):=blk_cell h5' 2
        have x3:W31.cell? ⟨b5,3,none⟩ = some (.slice A3 l.length c3):=blk_cell h5' 3
        have x4:W31.cell? ⟨b5,4,none⟩ = some (.slice A4 lg.length c4):=blk_cell h5' 4
        have d0:W31.cell? ⟨w.heap.size,0,none⟩ = some (.int .u64 0):=blk_cell h2' 0
        have f0:=blk_frozen h2' 0
        have d1:W31.cell? ⟨w.heap.size,1,none⟩ = some (.int .u64 0):=blk_cell h2' 1
        have f1:=blk_frozen h2' 1
        have d2:W31.cell? ⟨w.heap.size,2,none⟩ = some (.int .u64 0):=blk_cell h2' 2
        have f2:=blk_frozen h2' 2
        have d3:W31.cell? ⟨w.heap.size,3,none⟩ = some (.slice none 0 0):=blk_cell h2' 3
        have f3:=blk_frozen h2' 3
        have d4:W31.cell? ⟨w.heap.size,4,none⟩ = some (.slice none 0 0):=blk_cell h2' 4
        have f4:=blk_frozen h2' 4
        have H2:=Hush.mk h2'
        clear h2' h5' hb31 U
        obtain ⟨cv,hcv⟩:∃ c,c = edit_Edit_Check.val l lg:=⟨_,rfl⟩
        rw [← hcv]
        have HV:=Hush.mk hcv
        clear hcv
        by_cases hv:cv = 0
        ·have hv1:(cv == 0) = true:=by simpa using hv
         have hv2:(cv != 0) = false:=by simpa using hv
         have HR:Hush (R = (n1,n2,n3,l,lg,0)):=⟨by rw [← HA.out,edit_Parse.fin,if_pos HZ.out,← HV.out,if_pos hv]⟩
         clear hv
         go_wp2
         obtain rfl:=HR.out
         exact bodyPost_ret (v:=.tuple #[.agg #[.int .u64 n1,.int .u64 n2,.int .u64 n3,.slice A3 l.length c3,.slice A4 lg.length c4],.int .i64 0]) (by simp [results,Tryd.results18,go_sem,d0,d1,d2,d3,d4]) rfl
          ⟨_,_,rfl,R_of_own (d:=k107) edit_cells107 (fun _=>rfl) (fun ok x=>k107_mkM _ _ ok x) (own_set5 _ _ _ _ _ o3'.out ⟨_,H2.out⟩ (by decide)),R_of_own (d:=k111) edit_cells111 (fun _=>rfl) (fun ok x=>k111_mkM _ _ ok x) (own_set5 _ _ _ _ _ o4'.out ⟨_,H2.out⟩ (by decide)),below_set5 _ _ _ _ _ bel'.out (Nat.le_refl _)⟩
        ·have hv1:(cv == 0) = false:=by simpa using hv
         have hv2:(cv != 0) = true:=by simpa using hv
         have HR:Hush (R = (0,0,0,[],[],cv)):=⟨by rw [← HA.out,edit_Parse.fin,if_pos HZ.out,← HV.out,if_neg hv]⟩
         clear hv
         go_wp2
         obtain rfl:=HR.out
         exact bodyPost_ret (v:=.tuple #[.agg #[.int .u64 0,.int .u64 0,.int .u64 0,.slice none 0 0,.slice none 0 0],.int .i64 cv]) (by simp [results,Tryd.results18,go_sem,d0,d1,d2,d3,d4]) rfl ⟨_,_,rfl,Kd.R_nil _ _ _ _ _,Kd.R_nil _ _ _ _ _,below_set5 _ _ _ _ _ bel'.out (Nat.le_refl _)⟩
       ·have hz1:(z == 0) = false:=by simpa using hz
        have hz2:(z != 0) = true:=by simpa using hz
        have HR:Hush (R = (0,0,0,[],[],z)):=⟨by rw [← HA.out,edit_Parse.fin,if_neg hz]⟩
        clear hz
        have d0:W30.cell? ⟨w.heap.size,0,none⟩ = some (.int .u64 0):=blk_cell U.h2 0
        have f0:=blk_frozen U.h2 0
        have d1:W30.cell? ⟨w.heap.size,1,none⟩ = some (.int .u64 0):=blk_cell U.h2 1
        have f1:=blk_frozen U.h2 1
        have d2:W30.cell? ⟨w.heap.size,2,none⟩ = some (.int .u64 0):=blk_cell U.h2 2
        have f2:=blk_frozen U.h2 2
        have d3:W30.cell? ⟨w.heap.size,3,none⟩ = some (.slice none 0 0):=blk_cell U.h2 3
        have f3:=blk_frozen U.h2 3
        have d4:W30.cell? ⟨w.heap.size,4,none⟩ = some (.slice none 0 0):=blk_cell U.h2 4
        have f4:=blk_frozen U.h2 4
        have HU:=Hush.mk U
        clear U
        go_wp2
        obtain rfl:=HR.out
        exact bodyPost_ret (v:=.tuple #[.agg #[.int .u64 0,.int .u64 0,.int .u64 0,.slice none 0 0,.slice none 0 0],.int .i64 z]) (by simp [results,Tryd.results18,go_sem,d0,d1,d2,d3,d4]) rfl ⟨_,_,rfl,Kd.R_nil _ _ _ _ _,Kd.R_nil _ _ _ _ _,below_set5 _ _ _ _ _ HU.out.bel (Nat.le_refl _)⟩
      ·clear hgo
       go_wp2_with fail
       refine (varint_Reader_End.calls g _ _ _ _ _ _ _ w _ hT.rd hT.bel A.a8).mono ?_
       rintro e_ W30 ⟨rfl,hi,hb,hk⟩
       have U:=hT.call hi hb hk
       have HA:=Hush.mk A.hr
       clear hT hi hb hk
       have R3:=R_of_own (d:=k107) edit_cells107 (fun _=>rfl) (fun ok x=>k107_mkM _ _ ok x) U.o3
       have R4:=R_of_own (d:=k111) edit_cells111 (fun _=>rfl) (fun ok x=>k111_mkM _ _ ok x) U.o4
       obtain ⟨A3,c3,rfl,_,hC3⟩:=Kd.R_reads R3
       obtain ⟨A4,c4,rfl,_,hC4⟩:=Kd.R_reads R4
       have C3:=Hush.mk hC3
       have C4:=Hush.mk hC4
       have R3:=Hush.mk R3
       have R4:=Hush.mk R4
       have x0:W30.cell? ⟨b5,0,none⟩ = some (.int .u64 n1):=blk_cell U.h5 0
       have x1:W30.cell? ⟨b5,1,none⟩ = some (.int .u64 n2):=blk_cell U.h5 1
       have x2:W30.cell? ⟨b5,2,none⟩ = some (.int .u64 n3):=blk_cell U.h5 2
       have x3:W30.cell? ⟨b5,3,none⟩ = some (.slice A3 l.length c3):=blk_cell U.h5 3
       have x4:W30.cell? ⟨b5,4,none⟩ = some (.slice A4 lg.length c4):=blk_cell U.h5 4
       clear hC3 hC4
       by_cases hz:z = 0
       ·have hz1:(z == 0) = true:=by simpa using hz
        have HZ:=Hush.mk hz
        clear hz
        go_wp2_with fail
        refine (edit_Edit_Check.walk n1 n2 n3 A3 c3 l A4 c4 lg W30 C3.out C4.out).mono ?_
        rintro e_ W31 ⟨rfl,hb31⟩
        have h2':=(hb31.block _ (heap_lt U.h2)).trans U.h2
        have h5':=(hb31.block _ (heap_lt U.h5)).trans U.h5
        have o3':=Hush.mk (own_move U.o3 (fun k hk=>by obtain ⟨cs,hc⟩:=own_type U.o3 hk;exact hb31.block _ (heap_lt hc)))
        have o4':=Hush.mk (own_move U.o4 (fun k hk=>by obtain ⟨cs,hc⟩:=own_type U.o4 hk;exact hb31.block _ (heap_lt hc)))
        have bel':=Hush.mk (U.bel.trans (hb31.mono U.bel.size))
        have x0:W31.cell? ⟨b5,0,none⟩ = some (.int .u64 n1):=blk_cell h5' 0
        have x1:W31.cell? ⟨b5,1,none⟩ = some (.int .u64 n2):=blk_cell h5' 1
        have x2:W31.cell? ⟨b5,2,none⟩ = some (.int .u64 n3):=blk_cell h5' 2
        have x3:W31.cell? ⟨b5,3,none⟩ = some (.slice A3 l.length c3):=blk_cell h5' 3
        have x4:W31.cell? ⟨b5,4,none⟩ = some (.slice A4 lg.length c4):=blk_cell h5' 4
        have d0:W31.cell? ⟨w.heap.size,0,none⟩ = some (.int .u64 0):=blk_cell h2' 0
        have f0:=blk_frozen h2' 0
        have d1:W31.cell? ⟨w.heap.size,1,none⟩ = some (.int .u64 0):=blk_cell h2' 1
        have f1:=blk_frozen h2' 1
        have d2:W31.cell? ⟨w.heap.size,2,none⟩ = some (.int .u64 0):=blk_cell h2' 2
        have f2:=blk_frozen h2' 2
        have d3:W31.cell? ⟨w.heap.size,3,none⟩ = some (.slice none 0 0):=blk_cell h2' 3
        have f3:=blk_frozen h2' 3
        have d4:W31.cell? ⟨w.heap.size,4,none⟩ = some (.slice none 0 0):=blk_cell h2' 4
        have f4:=blk_frozen h2' 4
        have H2:=Hush.mk h2'
        clear h2' h5' hb31 U
        obtain ⟨cv,hcv⟩:∃ c,c = edit_Edit_Check.val l lg:=⟨_,rfl⟩
        rw [← hcv]
        have HV:=Hush.mk hcv
        clear hcv
        by_cases hv:cv = 0
        ·have hv1:(cv == 0) = true:=by simpa using hv
         have hv2:(cv != 0) = false:=by simpa using hv
         have HR:Hush (R = (n1,n2,n3,l,lg,0)):=⟨by rw [← HA.out,edit_Parse.fin,if_pos HZ.out,← HV.out,if_pos hv]⟩
         clear hv
         go_wp2
         obtain rfl:=HR.out
         exact bodyPost_ret (v:=.tuple #[.agg #[.int .u64 n1,.int .u64 n2,.int .u64 n3,.slice A3 l.length c3,.slice A4 lg.length c4],.int .i64 0]) (by simp [results,Tryd.results18,go_sem,d0,d1,d2,d3,d4]) rfl
          ⟨_,_,rfl,R_of_own (d:=k107) edit_cells107 (fun _=>rfl) (fun ok x=>k107_mkM _ _ ok x) (own_set5 _ _ _ _ _ o3'.out ⟨_,H2.out⟩ (by decide)),R_of_own (d:=k111) edit_cells111 (fun _=>rfl) (fun ok x=>k111_mkM _ _ ok x) (own_set5 _ _ _ _ _ o4'.out ⟨_,H2.out⟩ (by decide)),below_set5 _ _ _ _ _ bel'.out (Nat.le_refl _)⟩
        ·have hv1:(cv == 0) = false:=by simpa using hv
         have hv2:(cv != 0) = true:=by simpa using hv
         have HR:Hush (R = (0,0,0,[],[],cv)):=⟨by rw [← HA.out,edit_Parse.fin,if_pos HZ.out,← HV.out,if_neg hv]⟩
         clear hv
         go_wp2
         obtain rfl:=HR.out
         exact bodyPost_ret (v:=.tuple #[.agg #[.int .u64 0,.int .u64 0,.int .u64 0,.slice none 0 0,.slice none 0 0],.int .i64 cv]) (by simp [results,Tryd.results18,go_sem,d0,d1,d2,d3,d4]) rfl ⟨_,_,rfl,Kd.R_nil _ _ _ _ _,Kd.R_nil _ _ _ _ _,below_set5 _ _ _ _ _ bel'.out (Nat.le_refl _)⟩
       ·have hz1:(z == 0) = false:=by simpa using hz
        have hz2:(z != 0) = true:=by simpa using hz
        have HR:Hush (R = (0,0,0,[],[],z)):=⟨by rw [← HA.out,edit_Parse.fin,if_neg hz]⟩
        clear hz
        have d0:W30.cell? ⟨w.heap.size,0,none⟩ = some (.int .u64 0):=blk_cell U.h2 0
        have f0:=blk_frozen U.h2 0
        have d1:W30.cell? ⟨w.heap.size,1,none⟩ = some (.int .u64 0):=blk_cell U.h2 1
        have f1:=blk_frozen U.h2 1
        have d2:W30.cell? ⟨w.heap.size,2,none⟩ = some (.int .u64 0):=blk_cell U.h2 2
        have f2:=blk_frozen U.h2 2
        have d3:W30.cell? ⟨w.heap.size,3,none⟩ = some (.slice none 0 0):=blk_cell U.h2 3
        have f3:=blk_frozen U.h2 3
        have d4:W30.cell? ⟨w.heap.size,4,none⟩ = some (.slice none 0 0):=blk_cell U.h2 4
        have f4:=blk_frozen U.h2 4
        have HU:=Hush.mk U
        clear U
        go_wp2
        obtain rfl:=HR.out
        exact bodyPost_ret (v:=.tuple #[.agg #[.int .u64 0,.int .u64 0,.int .u64 0,.slice none 0 0,.slice none 0 0],.int .i64 z]) (by simp [results,Tryd.results18,go_sem,d0,d1,d2,d3,d4]) rfl ⟨_,_,rfl,Kd.R_nil _ _ _ _ _,Kd.R_nil _ _ _ _ _,below_set5 _ _ _ _ _ HU.out.bel (Nat.le_refl _)⟩
theorem edit_Parse.calls (a0:ByteArray) (r1:Int) (r2:Int) (r3:Int) (r4:List (S107)) (r5:List (S111)) (r6:Int) (w:World) (h:edit_Parse.f a0 = some (r1,r2,r3,r4,r5,r6)) :
  Calls Tryd.prog 18 #[.string a0] w fun e w'=>∃ v3_ v4_:Value,e = .returned (.tuple #[.agg #[.int .u64 r1,.int .u64 r2,.int .u64 r3,v3_,v4_],.int .i64 r6]) ∧ Kd.R k107 107 w' w.heap.size (fun _=>True) v3_ r4 ∧ Kd.R k111 111 w' w.heap.size (fun _=>True) v4_ r5 ∧ Below w.heap.size w w':=edit_Parse.walk a0 _ w h
end Go.Proofs.YteilnbnnhocciaaDoor.KV

/-! KV45 -/
namespace Go.Proofs.YteilnbnnhocciaaDoor.KV
open Go.RowKit Go.Proofs.YteilnbnnhocciaaDoorW.PrintWords Go.Proofs.YteilnbnnhocciaaDoorW.PrintLast Go.Proofs.YteilnbnnhocciaaDoorW.PrintMore Go.Proofs.YteilnbnnhocciaaDoorM
attribute [local go_sem] max2_int min2_int max_two min_two max_three min_three max_four min_four
def bourselaw12_awake.f:Option Bool:=some true
theorem bourselaw12_awake.bytes:edit_Edit_Bytes.f 20 0 0 0 [] [] = some (⟨#[0,0,0,0,0]⟩,0):=by decide +kernel
theorem bourselaw12_awake.parse:edit_Parse.f ⟨#[0,0,0,0,0]⟩ = some (0,0,0,[],[],0):=by kernel_rfl
set_option maxHeartbeats 2000000 in
set_option maxRecDepth 100000 in
theorem bourselaw12_awake.walk (w:World):Calls Tryd.prog 13 #[] w fun e w'=>e = .returned (.bool true) ∧ Below w.heap.size w w':=by
 have H1:=Hush.mk bourselaw12_awake.bytes
 have H2:=Hush.mk bourselaw12_awake.parse
 go_enter Tryd.func13,Tryd.ntmps13
 go_wp2_with fail
 refine (edit_Edit_Bytes.calls 20 0 0 0 none 0 [] none 0 [] _ _ _ (Kd.C_nil _ _) (Nat.le_refl _) (Kd.C_nil _ _) (Nat.le_refl _) H1.out).mono ?_
 rintro e w1 ⟨rfl,hb1⟩
 go_wp2_with fail
 refine (edit_Parse.calls _ _ _ _ _ _ _ _ H2.out).mono ?_
 rintro e w2 ⟨v3,v4,rfl,hR3,hR4,hb2⟩
 obtain ⟨A3,c3,rfl⟩:=Kd.R_slice hR3
 obtain ⟨A4,c4,rfl⟩:=Kd.R_slice hR4
 clear hR3 hR4
 have hb:Below w.heap.size w w2:=hb1.trans (hb2.mono hb1.size)
 go_wp2_with fail
 refine (name_t7 _).mono ?_
 rintro e w3 ⟨rfl,rfl⟩
 go_wp2
 go_ret
 exact ⟨rfl,hb.alloc hb.size _⟩
theorem bourselaw12_awake.calls (r:Bool) (w:World) (h:bourselaw12_awake.f = some r) :
  Calls Tryd.prog 13 #[] w fun e w'=>e = .returned (.bool r) ∧ Below w.heap.size w w':=by
 obtain rfl:=Option.some.inj h
 exact bourselaw12_awake.walk w
end Go.Proofs.YteilnbnnhocciaaDoor.KV

/-! KV46 -/
namespace Go.Proofs.YteilnbnnhocciaaDoor.KV
open Go.RowKit Go.Proofs.YteilnbnnhocciaaDoorW.PrintWords Go.Proofs.YteilnbnnhocciaaDoorW.PrintLast Go.Proofs.YteilnbnnhocciaaDoorW.PrintMore Go.Proofs.YteilnbnnhocciaaDoorM
attribute [local go_sem] max2_int min2_int max_two min_two max_three min_three max_four min_four
def bourselaw12_Awake.f  : Option (Bool):=(bourselaw12_awake.f).bind fun t183=>(some t183)
set_option maxHeartbeats 8000000 in
set_option maxRecDepth 100000 in
theorem bourselaw12_Awake.calls  (r:Bool) (w:World) (h:bourselaw12_Awake.f  = some r) :
  Calls Tryd.prog 88 #[] w fun e w'=>e = .returned (.bool r) ∧ Below w.heap.size w w':=by
 have HB:=Aside0.mk (Below.refl w.heap.size w)
 have H:((bourselaw12_awake.f).bind fun t183=>(some t183)) = some r:=h
 clear h
 replace H:=Option.bind_eq_some_iff.mp H
 obtain ⟨t183,A10,H⟩:=H
 replace H:(some t183) = some r:=H
 have A1:=Aside0.mk A10
 clear A10
 obtain rfl:=Option.some.inj H
 go_enter Tryd.func88,Tryd.ntmps88
 go_wp2_with (first | ((with_reducible refine gate_callee (f:=13) rfl ?_);refine goesL_ (some 1) rfl rfl Tryd.func13 (by kernel_rfl) rfl #[] rfl (by (try simp only [List.map_toArray,List.map_cons,List.map_nil]);first | done | rfl | (simp only [List.length_drop,List.length_take];rfl)) ?_;(with_reducible refine (bourselaw12_awake.calls  t183 _ A1.out).mono ?_);rintro e w2 ⟨rfl,hb⟩;refine ⟨_,rfl,?_⟩;have n0_:=Aside0.mk (below_step (by repeat (first | (with_reducible first | exact HB.out | apply below_alloc | apply pw_below_drewN | apply below_drew1) | exact HB.out)) hb);clear HB;have HB:=n0_;clear n0_;(try clear hb);(try clear hb2);(try clear hk);(try clear hi)))
 go_ret
 exact ⟨by first | rfl | (simp [errW_none,errW_some] <;> rfl) | (simp [*,errW_none,errW_some] <;> rfl),by repeat (first | (with_reducible first | exact HB.out | apply below_alloc | apply pw_below_drewN | apply below_drew1) | exact HB.out)⟩
end Go.Proofs.YteilnbnnhocciaaDoor.KV

/-! V18 -/
namespace Go.Proofs.YteilnbnnhocciaaDoor.V
open Go.Proofs Go.RowKit Go.BigFrame Go.Proofs.YteilnbnnhocciaaDoorM Go.Proofs.YteilnbnnhocciaaDoorW.PrintWords Go.Proofs.YteilnbnnhocciaaDoorW.PrintLast Go.Proofs.YteilnbnnhocciaaDoorW.PrintMore Go.Proofs.YteilnbnnhocciaaDoor.KV
set_option maxHeartbeats 4000000 in
set_option maxRecDepth 100000 in
theorem pick_nil (w:World):Calls Tryd.prog 40 #[.agg #[.slice none 0 0,.slice none 0 0,.slice none 0 0,.slice none 0 0],.int .i64 0,.int .i64 0] w fun e w'=>e = .returned (.tuple #[.agg #[.int .i64 0,.slice none 0 0,.slice none 0 0],.bool false]) ∧ Below w.heap.size w w':=by
 have z1:=size_alloc w (.cells #[.slice none 0 0,.slice none 0 0,.slice none 0 0,.slice none 0 0] 79)
 have HB:=Hush.mk (((Below.refl w.heap.size w).alloc (Nat.le_refl _) (.cells #[.slice none 0 0,.slice none 0 0,.slice none 0 0,.slice none 0 0] 79)).alloc (by omega) (.cells #[.int .i64 0,.slice none 0 0,.slice none 0 0] 87))
 clear z1
 go_enter Tryd.func40,Tryd.ntmps40
 go_wp2
 refine wp_scope_jumps 0 (fun _ _=>False) (fun _ _=>0) rfl ?_ (fun a w h=>h.elim)
 go_wp2
 refine (?_:bodyPost Tryd.prog Tryd.f40 (fun e w'=>e = .returned (.tuple #[.agg #[.int .i64 0,.slice none 0 0,.slice none 0 0],.bool false]) ∧ Below w.heap.size w w') .ret _ _)
 exact bodyPost_ret (v:=.tuple #[.agg #[.int .i64 0,.slice none 0 0,.slice none 0 0],.bool false]) (by simp [results,Tryd.results40,go_sem]) rfl ⟨rfl,HB.out⟩
theorem clone_nil (w:World):Calls Tryd.prog 130 #[.slice none 0 0] w fun e w'=>e = .returned (.slice none 0 0) ∧ w' = w:=AnyE.slices_Clone_nil Tryd.clone130 0 0 w
set_option maxHeartbeats 4000000 in
set_option maxRecDepth 100000 in
theorem twin_nil (w:World):Calls Tryd.prog 99 #[.agg #[.slice none 0 0,.slice none 0 0,.slice none 0 0,.slice none 0 0]] w fun e w'=>e = .returned (.agg #[.slice none 0 0,.slice none 0 0,.slice none 0 0,.slice none 0 0]) ∧ Below w.heap.size w w':=by
 obtain ⟨w1,hw1⟩:∃ w1,w1 = (w.alloc (.cells #[.slice none 0 0,.slice none 0 0,.slice none 0 0,.slice none 0 0] 79)).alloc (.cells #[.slice none 0 0,.slice none 0 0,.slice none 0 0,.slice none 0 0] 79):=⟨_,rfl⟩
 have hix:∀ (j:Nat),j < 4 → ∀ wr,(Instr.index 77 (.agg #[.slice none 0 0,.slice none 0 0,.slice none 0 0,.slice none 0 0]) (.int .i64 (j:Int))).run Tryd.prog wr = .ok (.slice none 0 0) wr:=fun j hj wr=>by
  have:j = 0 ∨ j = 1 ∨ j = 2 ∨ j = 3:=by omega
  rcases this with rfl | rfl | rfl | rfl
  ·exact index77_0 _ _ _ _ wr
  ·exact index77_1 _ _ _ _ wr
  ·exact index77_2 _ _ _ _ wr
  ·exact index77_3 _ _ _ _ wr
 have HIX:=Hush.mk hix
 have HF:Hush (Four w1 w.heap.size (fun _=>nilS) ∧ Four w1 (w.heap.size + 1) (fun _=>nilS) ∧ Below w.heap.size w w1):=⟨by
  have z1:=size_alloc w (.cells #[.slice none 0 0,.slice none 0 0,.slice none 0 0,.slice none 0 0] 79)
  have e1:=World.alloc_heap_new w (.cells #[.slice none 0 0,.slice none 0 0,.slice none 0 0,.slice none 0 0] 79)
  have e2:=World.alloc_heap_new (w.alloc (.cells #[.slice none 0 0,.slice none 0 0,.slice none 0 0,.slice none 0 0] 79)) (.cells #[.slice none 0 0,.slice none 0 0,.slice none 0 0,.slice none 0 0] 79)
  rw [z1] at e2
  have f1:Four (w.alloc (.cells #[.slice none 0 0,.slice none 0 0,.slice none 0 0,.slice none 0 0] 79)) w.heap.size (fun _=>nilS):=⟨79,e1⟩
  rw [hw1]
  exact ⟨f1.below ((Below.refl _ _).alloc (Nat.le_refl _) _),⟨79,e2⟩,((Below.refl _ _).alloc (Nat.le_refl _) _).alloc (by omega) _⟩⟩
 clear hix
 go_enter Tryd.func99,Tryd.ntmps99
 go_wp2
 rw [← hw1]
 go_loopw [7] (fun iv wr=>∃ j:Nat,iv = .int .i64 j ∧ j ≤ 4 ∧ Hush (Four wr w.heap.size (fun _=>nilS) ∧ Four wr (w.heap.size + 1) (fun _=>nilS) ∧ Below w.heap.size w wr)) (fun iv _=>4 - (intOf iv).toNat)
 case atStart=>exact ⟨0,by go_num,by omega,HF⟩
 case round=>
  obtain ⟨j,rfl,hj4,HJ⟩:=hrel
  by_cases hlt:j < 4
  ·have hltz:(j:Int) < 4:=by omega
   have hj:=HIX.out j hlt wr
   have hc:=HJ.out.1.cell j hlt
   have hfr:=HJ.out.1.frozen j
   have hc2:=HJ.out.2.1.cell j hlt
   have HN:Hush (Four (wr.setCell ⟨w.heap.size,j,none⟩ nilS) w.heap.size (fun _=>nilS) ∧ Four (wr.setCell ⟨w.heap.size,j,none⟩ nilS) (w.heap.size + 1) (fun _=>nilS) ∧ Below w.heap.size w (wr.setCell ⟨w.heap.size,j,none⟩ nilS)):=⟨by
    have h1:=HJ.out.1.set j hlt nilS
    have e:(fun x=>if x = j then nilS else nilS) = fun _:Nat=>nilS:=by funext x;split <;> rfl
    rw [e] at h1
    exact ⟨h1,HJ.out.2.1.far (by omega) _,HJ.out.2.2.setCell (p:=⟨w.heap.size,j,none⟩) (Nat.le_refl _) _⟩⟩
   unfold nilS at hc hc2
   clear HJ
   go_wp2_with (go_at_call 130;refine (clone_nil _).mono ?_;rintro e w3 ⟨rfl,rfl⟩)
   go_roundw
   case rel=>exact ⟨j + 1,by go_num,by omega,HN⟩
   case measure=>simp [intOf];omega
  ·obtain rfl:j = 4:=by omega
   have c0:=HJ.out.1.cell 0 (by omega)
   have c1:=HJ.out.1.cell 1 (by omega)
   have c2:=HJ.out.1.cell 2 (by omega)
   have c3:=HJ.out.1.cell 3 (by omega)
   have d0:=HJ.out.2.1.cell 0 (by omega)
   have d1:=HJ.out.2.1.cell 1 (by omega)
   have d2:=HJ.out.2.1.cell 2 (by omega)
   have d3:=HJ.out.2.1.cell 3 (by omega)
   have g0:=HJ.out.2.1.frozen 0
   have g1:=HJ.out.2.1.frozen 1
   have g2:=HJ.out.2.1.frozen 2
   have g3:=HJ.out.2.1.frozen 3
   have HFF:Hush (Four ((((wr.setCell ⟨w.heap.size + 1,0,none⟩ nilS).setCell ⟨w.heap.size + 1,1,none⟩ nilS).setCell ⟨w.heap.size + 1,2,none⟩ nilS).setCell ⟨w.heap.size + 1,3,none⟩ nilS) (w.heap.size + 1) (fun _=>nilS) ∧ Below w.heap.size w ((((wr.setCell ⟨w.heap.size + 1,0,none⟩ nilS).setCell ⟨w.heap.size + 1,1,none⟩ nilS).setCell ⟨w.heap.size + 1,2,none⟩ nilS).setCell ⟨w.heap.size + 1,3,none⟩ nilS)):=⟨by
    have e:∀ j,(fun x=>if x = j then nilS else nilS) = fun _:Nat=>nilS:=fun j=>by funext x;split <;> rfl
    have h1:=HJ.out.2.1.set 0 (by omega) nilS
    rw [e] at h1
    have h2:=h1.set 1 (by omega) nilS
    rw [e] at h2
    have h3:=h2.set 2 (by omega) nilS
    rw [e] at h3
    have h4:=h3.set 3 (by omega) nilS
    rw [e] at h4
    exact ⟨h4,(((HJ.out.2.2.setCell (p:=⟨w.heap.size + 1,0,none⟩) (Nat.le_succ _) _).setCell (p:=⟨w.heap.size + 1,1,none⟩) (Nat.le_succ _) _).setCell (p:=⟨w.heap.size + 1,2,none⟩) (Nat.le_succ _) _).setCell (p:=⟨w.heap.size + 1,3,none⟩) (Nat.le_succ _) _⟩⟩
   unfold nilS at c0 c1 c2 c3 d0 d1 d2 d3
   go_wp2
   have k0:=HFF.out.1.cell 0 (by omega)
   have k1:=HFF.out.1.cell 1 (by omega)
   have k2:=HFF.out.1.cell 2 (by omega)
   have k3:=HFF.out.1.cell 3 (by omega)
   unfold nilS at k0 k1 k2 k3 HFF
   generalize ((((wr.setCell ⟨w.heap.size + 1,0,none⟩ (.slice none 0 0)).setCell ⟨w.heap.size + 1,1,none⟩ (.slice none 0 0)).setCell ⟨w.heap.size + 1,2,none⟩ (.slice none 0 0)).setCell ⟨w.heap.size + 1,3,none⟩ (.slice none 0 0)) = wF at HFF k0 k1 k2 k3 ⊢
   exact bodyPost_ret (v:=.agg #[.slice none 0 0,.slice none 0 0,.slice none 0 0,.slice none 0 0]) (by simp [results,Tryd.results99,go_sem,k0,k1,k2,k3]) rfl ⟨rfl,HFF.out.2⟩
end Go.Proofs.YteilnbnnhocciaaDoor.V

/-! V19 -/
namespace Go.Proofs.YteilnbnnhocciaaDoor.V
open Go.Proofs Go.RowKit Go.BigFrame Go.Proofs.YteilnbnnhocciaaDoorM Go.Proofs.YteilnbnnhocciaaDoorW.PrintWords Go.Proofs.YteilnbnnhocciaaDoorW.PrintLast Go.Proofs.YteilnbnnhocciaaDoorW.PrintMore Go.Proofs.YteilnbnnhocciaaDoor.KV
set_option maxRecDepth 100000 in
theorem ins_nil (fv:Value) (w:World):Calls Tryd.prog 161 #[.slice none 0 0,.int .i64 0,.int .i64 0,fv] w fun e w'=>e = .returned (.tuple #[]) ∧ w' = w:=by
 go_enter Tryd.func161,Tryd.ntmps161
 go_wp2
 go_loopw [8] (fun iv wr=>iv = .int .i64 1 ∧ Hush (wr = w)) (fun _ _=>0)
 case atStart=>exact ⟨rfl,⟨rfl⟩⟩
 case round=>
  obtain ⟨rfl,HW⟩:=hrel
  obtain rfl:=HW.out
  go_wp2
  go_end0
  exact ⟨rfl,rfl⟩
set_option maxHeartbeats 4000000 in
set_option maxRecDepth 100000 in
theorem stable_nil (fv:Value) (w:World):Calls Tryd.prog 134 #[.slice none 0 0,.int .i64 0,fv] w fun e w'=>e = .returned (.tuple #[]) ∧ w' = w:=by
 go_enter Tryd.func134,Tryd.ntmps134
 go_wp2
 go_loopw [7,8] (fun av bv wr=>av = .int .i64 0 ∧ bv = .int .i64 20 ∧ Hush (wr = w)) (fun _ _ _=>0)
 case atStart=>exact ⟨rfl,rfl,⟨rfl⟩⟩
 case round=>
  obtain ⟨rfl,rfl,HW⟩:=hrel
  obtain rfl:=HW.out
  go_wp2_with (go_at_call 161;refine (ins_nil _ _).mono ?_;rintro e w1 ⟨rfl,rfl⟩)
  go_loopw [6] (fun sv wx=>sv = .int .i64 20 ∧ Hush (wx = w1)) (fun _ _=>0)
  case atStart=>exact ⟨rfl,⟨rfl⟩⟩
  case round=>
   obtain ⟨rfl,HX⟩:=hrel
   obtain rfl:=HX.out
   go_wp2
   go_end0
   exact ⟨rfl,by first | rfl | trivial⟩
theorem sort_nil (fv:Value) (w:World):Calls Tryd.prog 101 #[.slice none 0 0,fv] w fun e w'=>e = .returned (.tuple #[]) ∧ w' = w:=by
 go_enter Tryd.func101,Tryd.ntmps101
 go_wp2_with fail
 refine (stable_nil _ _).mono ?_
 rintro e w1 ⟨rfl,rfl⟩
 go_wp2
 go_end0
 exact ⟨rfl,rfl⟩
end Go.Proofs.YteilnbnnhocciaaDoor.V

/-! V20 -/
namespace Go.Proofs.YteilnbnnhocciaaDoor.V
open Go.Proofs Go.Sort Go.Lib Go.RowKit Go.BigFrame Go.Proofs.YteilnbnnhocciaaDoorM Go.Proofs.YteilnbnnhocciaaDoorW.PrintWords Go.Proofs.YteilnbnnhocciaaDoorW.PrintLast Go.Proofs.YteilnbnnhocciaaDoorW.PrintMore Go.Proofs.YteilnbnnhocciaaDoor.KV
def fileA:FileV:=⟨3,0,0,⟨#[97]⟩,⟨#[98]⟩⟩
theorem wrongA:edit_wrong.val 1 3 ⟨#[97]⟩ ⟨#[98]⟩ = 0:=by decide +kernel
theorem rightA:rightB [[],[fileA],[],[]] = true:=by decide +kernel
theorem rightN:rightB [[],[],[],[]] = true:=by decide +kernel
theorem info97':(Tryd.prog.info? 97).map (fun i=>(i.zero,i.size,i.bytes)) = some (some (.agg #[.int .u64 0,.int .u64 0,.int .u64 0,.string ⟨#[]⟩,.string ⟨#[]⟩]),5,56):=by kernel_rfl
theorem sort_one (lv:Nat) (blk cap:Nat) (f:FileV) (w:World) (hH:HoldsK encF 5 w blk 0 #[f]) (hblk:blk < w.heap.size) :
  Calls Tryd.prog 101 #[.slice (some ⟨blk,0,none⟩) 1 cap,.func (.func (fnL lv)) #[] #[]] w fun e w'=>e = .returned (.tuple #[]) ∧ Grown w w':=by
 refine (sort_on lv blk 0 cap #[f] w hH hblk (by simp)).mono fun e w' ⟨he,d,⟨m,os,hw⟩,hp,_⟩=>⟨he,m,os,?_⟩
 have hd:d = #[f]:=by
  obtain ⟨h1,_,h3⟩:=hp
  have e1:d.extract 0 (#[f]:Array FileV).size = d:=by rw [← h1];exact Array.extract_size
  rw [e1,Array.extract_size] at h3
  have:=List.perm_singleton.1 h3
  exact Array.toList_inj.1 this
 subst hd
 have hs:=putRowK_self encF 5 w blk 0 #[f] hH
 rw [hw]
 unfold Go.Proofs.sortWorldK
 have e2:Go.Sort.putRowK encF 5 (Go.Sort.ahead w m) blk 0 #[f] = w.drewN m:=by
  show { Go.Sort.putRowK encF 5 w blk 0 #[f] with drawn:=w.drawn + m } = _
  rw [hs]
  rfl
 rw [e2]
theorem five_new (W:World) (f:FileV) (t:TypeId):∀ j u,(encF f)[j]? = some u → ((W.alloc (.cells #[.int .u64 f.num,.int .u64 f.size,.int .u64 f.count,.string f.least,.string f.most] t)).drew).cell? ((⟨W.heap.size,0,none⟩:Addr).add j) = some u:=by
 intro j u hu
 have e:=World.alloc_heap_new W (.cells #[.int .u64 f.num,.int .u64 f.size,.int .u64 f.count,.string f.least,.string f.most] t)
 have e':((W.alloc (.cells #[.int .u64 f.num,.int .u64 f.size,.int .u64 f.count,.string f.least,.string f.most] t)).drew).heap[W.heap.size]? = _:=e
 match j,hu with
 | 0,hu=>
  obtain rfl:=Option.some.inj hu
  show ((W.alloc _).drew).cell? ⟨W.heap.size,0,none⟩ = _
  simp only [World.cell?,e']
  rfl
 | 1,hu=>
  obtain rfl:=Option.some.inj hu
  show ((W.alloc _).drew).cell? ⟨W.heap.size,1,none⟩ = _
  simp only [World.cell?,e']
  rfl
 | 2,hu=>
  obtain rfl:=Option.some.inj hu
  show ((W.alloc _).drew).cell? ⟨W.heap.size,2,none⟩ = _
  simp only [World.cell?,e']
  rfl
 | 3,hu=>
  obtain rfl:=Option.some.inj hu
  show ((W.alloc _).drew).cell? ⟨W.heap.size,3,none⟩ = _
  simp only [World.cell?,e']
  rfl
 | 4,hu=>
  obtain rfl:=Option.some.inj hu
  show ((W.alloc _).drew).cell? ⟨W.heap.size,4,none⟩ = _
  simp only [World.cell?,e']
  rfl
theorem holds_one {W:World} {base g cap:Nat} {f:FileV} (h:W.ownsRow base 97 5 (.slice (some ⟨g,0,none⟩) 1 cap) 1 (encF f)):HoldsK encF 5 W g 0 #[f] ∧ base ≤ g ∧ g < W.heap.size:=by
 rcases h.2 with ⟨h1,_⟩ | ⟨g',cap',cur,h1,h2,h3,h4,h5,h6,h7⟩
 ·cases h1
 ·injection h1 with h1 _ _
  injection h1 with h1
  injection h1 with h1 _ _
  subst h1
  refine ⟨fun j hj=>?_,h2,(Array.getElem?_eq_some_iff.1 h3).1⟩
  have hj5:j < 5:=by simpa [size_flatK] using hj
  have e:(encF f)[j]? = some ((flatK encF 5 #[f])[j]!):=by
   rw [get_flatK encF 5 #[f] j (by simpa using hj5)]
   have:j = 0 ∨ j = 1 ∨ j = 2 ∨ j = 3 ∨ j = 4:=by omega
   rcases this with rfl | rfl | rfl | rfl | rfl <;> rfl
  rw [← h7,List.getElem?_take_of_lt (by omega)] at e
  refine ⟨?_,by simp [World.frozen?,h3]⟩
  simp only [World.cell?,h3,Nat.zero_add]
  simpa using e
theorem holdsK_keep {W W':World} {g:Nat} {f:FileV} (h:HoldsK encF 5 W g 0 #[f]) (hb:W'.heap[g]? = W.heap[g]?):HoldsK encF 5 W' g 0 #[f]:=fun j hj=>
 ⟨(World.cell?_of_block (a:=⟨g,0 + j,none⟩) hb).trans (h j hj).1,(World.frozen?_of_block (a:=⟨g,0 + j,none⟩) hb).trans (h j hj).2⟩
theorem filesAt_holds {W:World} {g:Nat} {f:FileV} (h:HoldsK encF 5 W g 0 #[f]):FilesAt W (some ⟨g,0,none⟩) [f]:=fun _=>by
 refine ⟨⟨g,0,none⟩,rfl,fun i x hx=>?_⟩
 match i,hx with
 | 0,hx=>
  obtain rfl:=Option.some.inj hx
  have c:∀ j,j < 5 → W.cell? ⟨g,0 + j,none⟩ = some ((encF f)[j]!):=fun j hj=>by
   have h1:=(h j (by simpa [size_flatK] using hj)).1
   rw [get_flatK encF 5 #[f] j (by simpa using hj)] at h1
   have:j = 0 ∨ j = 1 ∨ j = 2 ∨ j = 3 ∨ j = 4:=by omega
   rcases this with rfl | rfl | rfl | rfl | rfl <;> exact h1
  exact ⟨c 0 (by omega),c 1 (by omega),c 2 (by omega),c 3 (by omega),c 4 (by omega)⟩
 | i + 1,hx=>simp at hx
def lvl1 (g c:Nat):Nat → Value:=fun i=>if i = 1 then .slice (some ⟨g,0,none⟩) 1 c else nilS
structure OneSt (w:World) (b:Nat) (f:Nat → Value) (W:World):Prop where
 v:Four W w.heap.size f
 r:Four W (w.heap.size + 1 + 1) (fun _=>nilS)
 come:W.cell? ⟨w.heap.size + 1,3,none⟩ = some (.slice (some ⟨b,0,none⟩) 1 1)
 below:RowKit.Below w.heap.size w W
 c0:W.cell? ⟨b,0,none⟩ = some (.int .i64 1)
 c1:W.cell? ⟨b,1,none⟩ = some (.int .u64 3)
 c2:W.cell? ⟨b,2,none⟩ = some (.int .u64 0)
 c3:W.cell? ⟨b,3,none⟩ = some (.int .u64 0)
 c4:W.cell? ⟨b,4,none⟩ = some (.string ⟨#[97]⟩)
 c5:W.cell? ⟨b,5,none⟩ = some (.string ⟨#[98]⟩)
theorem OneSt.step {w:World} {b:Nat} {f:Nat → Value} {W W':World} (h:OneSt w b f W) (hb:RowKit.Below W.heap.size W W'):OneSt w b f W':=
 have up:∀ p v,W.cell? p = some v → W'.cell? p = some v:=fun p v e=>(hb.cell (World.block_lt_of_cell? W p e)).trans e
 ⟨h.v.below hb,h.r.below hb,up _ _ h.come,h.below.trans (hb.mono h.below.size),up _ _ h.c0,up _ _ h.c1,up _ _ h.c2,up _ _ h.c3,up _ _ h.c4,up _ _ h.c5⟩
theorem OneSt.come1 {w:World} {b:Nat} {W:World} (h:OneSt w b (fun _=>nilS) W) (hb:b < w.heap.size) {g c:Nat} (hg:HoldsK encF 5 W g 0 #[fileA]) (hg1:w.heap.size ≤ g) (hg2:g < W.heap.size) (hne:g ≠ w.heap.size) :
  OneSt w b (lvl1 g c) (W.setCell ⟨w.heap.size,1,none⟩ (.slice (some ⟨g,0,none⟩) 1 c)) ∧ HoldsK encF 5 (W.setCell ⟨w.heap.size,1,none⟩ (.slice (some ⟨g,0,none⟩) 1 c)) g 0 #[fileA] ∧ w.heap.size ≤ g ∧ g < (W.setCell ⟨w.heap.size,1,none⟩ (.slice (some ⟨g,0,none⟩) 1 c)).heap.size:=by
 have far:∀ k j,k ≠ w.heap.size → (W.setCell ⟨w.heap.size,1,none⟩ (.slice (some ⟨g,0,none⟩) 1 c)).cell? ⟨k,j,none⟩ = W.cell? ⟨k,j,none⟩:=fun k j hk=>World.cell?_of_block (Below.heap_setCell W ⟨w.heap.size,1,none⟩ _ k hk)
 have hbb:b ≠ w.heap.size:=by omega
 have hv:=h.v.set 1 (by omega) (.slice (some ⟨g,0,none⟩) 1 c)
 refine ⟨⟨hv,h.r.far (by omega) _,by rw [far _ _ (by omega)];exact h.come,h.below.setCell (p:=⟨w.heap.size,1,none⟩) (Nat.le_refl _) _,by rw [far _ _ hbb];exact h.c0,by rw [far _ _ hbb];exact h.c1,by rw [far _ _ hbb];exact h.c2,by rw [far _ _ hbb];exact h.c3,by rw [far _ _ hbb];exact h.c4,by rw [far _ _ hbb];exact h.c5⟩,holdsK_keep hg (Below.heap_setCell W ⟨w.heap.size,1,none⟩ _ g hne),hg1,by rw [World.size_setCell];exact hg2⟩
set_option maxHeartbeats 8000000 in
set_option maxRecDepth 100000 in
theorem apply_one (b:Nat) (w:World) (h0:w.cell? ⟨b,0,none⟩ = some (.int .i64 1)) (h1:w.cell? ⟨b,1,none⟩ = some (.int .u64 3)) (h2:w.cell? ⟨b,2,none⟩ = some (.int .u64 0)) (h3:w.cell? ⟨b,3,none⟩ = some (.int .u64 0)) (h4:w.cell? ⟨b,4,none⟩ = some (.string ⟨#[97]⟩)) (h5:w.cell? ⟨b,5,none⟩ = some (.string ⟨#[98]⟩)) :
  Calls Tryd.prog 47 #[.agg #[.slice none 0 0,.slice none 0 0,.slice none 0 0,.slice none 0 0],.agg #[.int .u64 0,.int .u64 0,.int .u64 0,.slice (some ⟨b,0,none⟩) 1 1,.slice none 0 0]] w fun e w'=>
   (∃ A c,e = .returned (.tuple #[.agg #[.slice none 0 0,.slice A 1 c,.slice none 0 0,.slice none 0 0],.int .i64 0]) ∧ FilesAt w' A [fileA]) ∧ Below w.heap.size w w':=by
 obtain ⟨i0,hi,hz0,hz1,hz2⟩:=info_parts info97'
 have HBB:Hush (b < w.heap.size):=⟨World.block_lt_of_cell? w ⟨b,0,none⟩ h0⟩
 have mixed:Tryd.prog.follows .mixedOrders = true:=by kernel_rfl
 have H6:=Hush.mk (And.intro h0 (And.intro h1 (And.intro h2 (And.intro h3 (And.intro h4 h5)))))
 clear h0 h1 h2 h3 h4 h5
 obtain ⟨w1,hw1⟩:∃ w1,w1 = ((w.alloc (.cells #[.slice none 0 0,.slice none 0 0,.slice none 0 0,.slice none 0 0] 79)).alloc (.cells #[.int .u64 0,.int .u64 0,.int .u64 0,.slice (some ⟨b,0,none⟩) 1 1,.slice none 0 0] 26)).alloc (.cells #[.slice none 0 0,.slice none 0 0,.slice none 0 0,.slice none 0 0] 79):=⟨_,rfl⟩
 have HW1:Hush (Four w1 w.heap.size (fun _=>nilS) ∧ Four w1 (w.heap.size + 1 + 1) (fun _=>nilS) ∧ (w1.cell? ⟨w.heap.size + 1,0,none⟩ = some (.int .u64 0) ∧ w1.cell? ⟨w.heap.size + 1,1,none⟩ = some (.int .u64 0) ∧ w1.cell? ⟨w.heap.size + 1,2,none⟩ = some (.int .u64 0) ∧ w1.cell? ⟨w.heap.size + 1,3,none⟩ = some (.slice (some ⟨b,0,none⟩) 1 1) ∧ w1.cell? ⟨w.heap.size + 1,4,none⟩ = some (.slice none 0 0)) ∧ Below w.heap.size w w1 ∧ w1.heap.size = w.heap.size + 3):=⟨by
  have z1:=size_alloc w (.cells #[.slice none 0 0,.slice none 0 0,.slice none 0 0,.slice none 0 0] 79)
  have z2:=size_alloc (w.alloc (.cells #[.slice none 0 0,.slice none 0 0,.slice none 0 0,.slice none 0 0] 79)) (.cells #[.int .u64 0,.int .u64 0,.int .u64 0,.slice (some ⟨b,0,none⟩) 1 1,.slice none 0 0] 26)
  have z3:=size_alloc ((w.alloc (.cells #[.slice none 0 0,.slice none 0 0,.slice none 0 0,.slice none 0 0] 79)).alloc (.cells #[.int .u64 0,.int .u64 0,.int .u64 0,.slice (some ⟨b,0,none⟩) 1 1,.slice none 0 0] 26)) (.cells #[.slice none 0 0,.slice none 0 0,.slice none 0 0,.slice none 0 0] 79)
  have e1:=World.alloc_heap_new w (.cells #[.slice none 0 0,.slice none 0 0,.slice none 0 0,.slice none 0 0] 79)
  have e2:=World.alloc_heap_new (w.alloc (.cells #[.slice none 0 0,.slice none 0 0,.slice none 0 0,.slice none 0 0] 79)) (.cells #[.int .u64 0,.int .u64 0,.int .u64 0,.slice (some ⟨b,0,none⟩) 1 1,.slice none 0 0] 26)
  have e3:=World.alloc_heap_new ((w.alloc (.cells #[.slice none 0 0,.slice none 0 0,.slice none 0 0,.slice none 0 0] 79)).alloc (.cells #[.int .u64 0,.int .u64 0,.int .u64 0,.slice (some ⟨b,0,none⟩) 1 1,.slice none 0 0] 26)) (.cells #[.slice none 0 0,.slice none 0 0,.slice none 0 0,.slice none 0 0] 79)
  rw [z1] at e2
  rw [z2,z1] at e3
  have f1:Four (w.alloc (.cells #[.slice none 0 0,.slice none 0 0,.slice none 0 0,.slice none 0 0] 79)) w.heap.size (fun _=>nilS):=⟨79,e1⟩
  have b2:=(Below.refl (w.alloc (.cells #[.slice none 0 0,.slice none 0 0,.slice none 0 0,.slice none 0 0] 79)).heap.size (w.alloc (.cells #[.slice none 0 0,.slice none 0 0,.slice none 0 0,.slice none 0 0] 79))).alloc (Nat.le_refl _) (.cells #[.int .u64 0,.int .u64 0,.int .u64 0,.slice (some ⟨b,0,none⟩) 1 1,.slice none 0 0] 26)
  have b3:=(Below.refl ((w.alloc (.cells #[.slice none 0 0,.slice none 0 0,.slice none 0 0,.slice none 0 0] 79)).alloc (.cells #[.int .u64 0,.int .u64 0,.int .u64 0,.slice (some ⟨b,0,none⟩) 1 1,.slice none 0 0] 26)).heap.size _).alloc (Nat.le_refl _) (.cells #[.slice none 0 0,.slice none 0 0,.slice none 0 0,.slice none 0 0] 79)
  have up:∀ i v,(#[Value.int .u64 0,.int .u64 0,.int .u64 0,.slice (some ⟨b,0,none⟩) 1 1,.slice none 0 0]:Array Value)[i]? = some v → w1.cell? ⟨w.heap.size + 1,i,none⟩ = some v:=fun i v h=>by
   have e:((w.alloc (.cells #[.slice none 0 0,.slice none 0 0,.slice none 0 0,.slice none 0 0] 79)).alloc (.cells #[.int .u64 0,.int .u64 0,.int .u64 0,.slice (some ⟨b,0,none⟩) 1 1,.slice none 0 0] 26)).cell? ⟨w.heap.size + 1,i,none⟩ = some v:=by
    simp only [World.cell?,e2]
    exact h
   rw [hw1]
   exact (b3.cell (World.block_lt_of_cell? _ _ e)).trans e
  refine ⟨by rw [hw1];exact (f1.below b2).below b3,by rw [hw1];exact ⟨79,e3⟩,⟨up 0 _ rfl,up 1 _ rfl,up 2 _ rfl,up 3 _ rfl,up 4 _ rfl⟩,by rw [hw1];exact (((Below.refl _ _).alloc (Nat.le_refl _) _).alloc (by omega) _).alloc (by omega) _,by rw [hw1];omega⟩⟩
 have HC:Hush (Calls Tryd.prog 20 #[.agg #[.int .u64 0,.int .u64 0,.int .u64 0,.slice (some ⟨b,0,none⟩) 1 1,.slice none 0 0]] w1 fun e w'=>e = .returned (.int .i64 0) ∧ Below w1.heap.size w1 w'):=⟨by
  obtain ⟨h0,h1,h2,h3,h4,h5⟩:=H6.out
  have up:∀ p v,w.cell? p = some v → w1.cell? p = some v:=fun p v e=>(HW1.out.2.2.2.1.cell (World.block_lt_of_cell? w p e)).trans e
  have:=check_one ⟨1,⟨3,0,0,⟨#[97]⟩,⟨#[98]⟩⟩⟩ b w1 (up _ _ h0) (up _ _ h1) (up _ _ h2) (up _ _ h3) (up _ _ h4) (up _ _ h5)
  rwa [show edit_wrong.val (S107.mk 1 ⟨3,0,0,⟨#[97]⟩,⟨#[98]⟩⟩).f0 (S107.mk 1 ⟨3,0,0,⟨#[97]⟩,⟨#[98]⟩⟩).f1.f0 (S107.mk 1 ⟨3,0,0,⟨#[97]⟩,⟨#[98]⟩⟩).f1.f3 (S107.mk 1 ⟨3,0,0,⟨#[97]⟩,⟨#[98]⟩⟩).f1.f4 = 0 from wrongA] at this⟩
 have HS:Hush (∀ W,RowKit.Below w1.heap.size w1 W → Four W w.heap.size (fun _=>nilS) ∧ Four W (w.heap.size + 1 + 1) (fun _=>nilS) ∧ W.cell? ⟨w.heap.size + 1,3,none⟩ = some (.slice (some ⟨b,0,none⟩) 1 1) ∧ W.cell? ⟨w.heap.size + 1,4,none⟩ = some (.slice none 0 0) ∧ RowKit.Below w.heap.size w W ∧ (W.cell? ⟨b,0,none⟩ = some (.int .i64 1) ∧ W.cell? ⟨b,1,none⟩ = some (.int .u64 3) ∧ W.cell? ⟨b,2,none⟩ = some (.int .u64 0) ∧ W.cell? ⟨b,3,none⟩ = some (.int .u64 0) ∧ W.cell? ⟨b,4,none⟩ = some (.string ⟨#[97]⟩) ∧ W.cell? ⟨b,5,none⟩ = some (.string ⟨#[98]⟩))):=⟨fun W hW=>by
  obtain ⟨f1,f2,⟨c0,c1,c2,c3,c4⟩,hb,hz⟩:=HW1.out
  obtain ⟨h0,h1,h2,h3,h4,h5⟩:=H6.out
  have hbw:RowKit.Below w.heap.size w W:=hb.trans (hW.mono hb.size)
  have up:∀ p v,w.cell? p = some v → W.cell? p = some v:=fun p v e=>(hbw.cell (World.block_lt_of_cell? w p e)).trans e
  have up1:∀ p v,w1.cell? p = some v → W.cell? p = some v:=fun p v e=>(hW.cell (World.block_lt_of_cell? w1 p e)).trans e
  exact ⟨f1.below hW,f2.below hW,up1 _ _ c3,up1 _ _ c4,hbw,up _ _ h0,up _ _ h1,up _ _ h2,up _ _ h3,up _ _ h4,up _ _ h5⟩⟩
 go_enter Tryd.func47,Tryd.ntmps47
 go_wp2_with (first
  | (go_at_call 20;rw [← hw1];refine HC.out.mono ?_;rintro e w2 ⟨rfl,hb2⟩;have HB2:=Hush.mk hb2;obtain ⟨f1,_⟩:=HS.out w2 hb2;have a0:=f1.cell 0 (by omega);have a1:=f1.cell 1 (by omega);have a2:=f1.cell 2 (by omega);have a3:=f1.cell 3 (by omega);unfold nilS at a0 a1 a2 a3;clear hb2 f1)
  | (go_at_call 99;refine (twin_nil _).mono ?_;rintro e w3 ⟨rfl,hb3⟩;have HB3:=Hush.mk (HB2.out.trans (hb3.mono HB2.out.size));obtain ⟨f1,_⟩:=HS.out w3 HB3.out;have a0:=f1.cell 0 (by omega);have a1:=f1.cell 1 (by omega);have a2:=f1.cell 2 (by omega);have a3:=f1.cell 3 (by omega);have a4:=f1.frozen 0;have a5:=f1.frozen 1;have a6:=f1.frozen 2;have a7:=f1.frozen 3;have p4:=(HS.out w3 HB3.out).2.2.2.1;have p3:=(HS.out w3 HB3.out).2.2.1;unfold nilS at a0 a1 a2 a3;clear hb3 f1))
 have H4:Hush (OneSt w b (fun _=>nilS) ((((w3.setCell ⟨w.heap.size,0,none⟩ (.slice none 0 0)).setCell ⟨w.heap.size,1,none⟩ (.slice none 0 0)).setCell ⟨w.heap.size,2,none⟩ (.slice none 0 0)).setCell ⟨w.heap.size,3,none⟩ (.slice none 0 0))):=⟨by
  obtain ⟨f1,f2,g3,g4,hb,e0,e1,e2,e3,e4,e5⟩:=HS.out w3 HB3.out
  have e:∀ j,(fun x=>if x = j then nilS else nilS) = fun _:Nat=>nilS:=fun j=>by funext x;split <;> rfl
  have h1:=f1.set 0 (by omega) nilS
  rw [e] at h1
  have h2:=h1.set 1 (by omega) nilS
  rw [e] at h2
  have h3:=h2.set 2 (by omega) nilS
  rw [e] at h3
  have h4:=h3.set 3 (by omega) nilS
  rw [e] at h4
  have bb:=World.block_lt_of_cell? w ⟨b,0,none⟩ H6.out.1
  have far:∀ (W:World) (k i j:Nat) (u:Value),k ≠ w.heap.size → (W.setCell ⟨w.heap.size,i,none⟩ u).cell? ⟨k,j,none⟩ = W.cell? ⟨k,j,none⟩:=fun W k i j u hk=>World.cell?_of_block (Below.heap_setCell W ⟨w.heap.size,i,none⟩ u k hk)
  have far4:∀ k j,k ≠ w.heap.size → ((((w3.setCell ⟨w.heap.size,0,none⟩ (.slice none 0 0)).setCell ⟨w.heap.size,1,none⟩ (.slice none 0 0)).setCell ⟨w.heap.size,2,none⟩ (.slice none 0 0)).setCell ⟨w.heap.size,3,none⟩ (.slice none 0 0)).cell? ⟨k,j,none⟩ = w3.cell? ⟨k,j,none⟩:=fun k j hk=>by
   rw [far _ _ _ _ _ hk,far _ _ _ _ _ hk,far _ _ _ _ _ hk,far _ _ _ _ _ hk]
  have hbb:b ≠ w.heap.size:=by have:b < w.heap.size:=bb;omega
  refine ⟨h4,(((f2.far (by omega) _).far (by omega) _).far (by omega) _).far (by omega) _,by rw [far4 _ _ (by omega)];exact g3,(((hb.setCell (p:=⟨w.heap.size,0,none⟩) (Nat.le_refl _) _).setCell (p:=⟨w.heap.size,1,none⟩) (Nat.le_refl _) _).setCell (p:=⟨w.heap.size,2,none⟩) (Nat.le_refl _) _).setCell (p:=⟨w.heap.size,3,none⟩) (Nat.le_refl _) _,
   by rw [far4 _ _ hbb];exact e0,by rw [far4 _ _ hbb];exact e1,by rw [far4 _ _ hbb];exact e2,by rw [far4 _ _ hbb];exact e3,by rw [far4 _ _ hbb];exact e4,by rw [far4 _ _ hbb];exact e5⟩⟩
 generalize ((((w3.setCell ⟨w.heap.size,0,none⟩ (.slice none 0 0)).setCell ⟨w.heap.size,1,none⟩ (.slice none 0 0)).setCell ⟨w.heap.size,2,none⟩ (.slice none 0 0)).setCell ⟨w.heap.size,3,none⟩ (.slice none 0 0)) = w4 at H4 ⊢
 clear a0 a1 a2 a3 a4 a5 a6 a7 p3 p4
 go_loopw [23] (fun iv wr=>iv = .int .i64 0 ∧ Hush (wr = w4)) (fun _ _=>0)
 case atStart=>exact ⟨rfl,⟨rfl⟩⟩
 case round=>
  obtain ⟨rfl,HX⟩:=hrel
  obtain rfl:=HX.out
  have cc:=H4.out.come
  go_wp2
  clear cc
  go_loopw [35] (fun iv wx=>(iv = .int .i64 0 ∧ Hush (OneSt w b (fun _=>nilS) wx)) ∨ (iv = .int .i64 1 ∧ Hush (∃ g c,OneSt w b (lvl1 g c) wx ∧ HoldsK encF 5 wx g 0 #[fileA] ∧ w.heap.size ≤ g ∧ g < wx.heap.size))) (fun iv _=>1 - (intOf iv).toNat)
  case atStart=>exact .inl ⟨rfl,H4⟩
  case round=>
   rcases hrel with ⟨rfl,HO⟩ | ⟨rfl,HO⟩
   ·have c0:=HO.out.c0
    have c1:=HO.out.c1
    have c2:=HO.out.c2
    have c3:=HO.out.c3
    have c4:=HO.out.c4
    have c5:=HO.out.c5
    have v1:=HO.out.v.cell 1 (by omega)
    have v2:=HO.out.v.frozen 1
    unfold nilS at v1
    go_wp2_with fail
    have HW5:Hush (∀ W,RowKit.Below wr.heap.size (wr.alloc (.cells #[.int .i64 1,.int .u64 3,.int .u64 0,.int .u64 0,.string ⟨#[97]⟩,.string ⟨#[98]⟩] 107)) W → OneSt w b (fun _=>nilS) W):=⟨fun W hW=>HO.out.step (((RowKit.Below.refl _ _).alloc (Nat.le_refl _) _).trans hW)⟩
    obtain ⟨ab,hab⟩:∃ ab,ab = wr.heap.size:=⟨_,rfl⟩
    obtain ⟨w5,hw5⟩:∃ w5,w5 = wr.alloc (.cells #[.int .i64 1,.int .u64 3,.int .u64 0,.int .u64 0,.string ⟨#[97]⟩,.string ⟨#[98]⟩] 107):=⟨_,rfl⟩
    have HA5:Hush (∀ W,RowKit.Below w5.heap.size w5 W → W.cell? ⟨ab,0,none⟩ = some (.int .i64 1) ∧ (W.cell? ⟨ab,1,none⟩ = some (.int .u64 3) ∧ W.cell? ⟨ab,2,none⟩ = some (.int .u64 0) ∧ W.cell? ⟨ab,3,none⟩ = some (.int .u64 0) ∧ W.cell? ⟨ab,4,none⟩ = some (.string ⟨#[97]⟩) ∧ W.cell? ⟨ab,5,none⟩ = some (.string ⟨#[98]⟩)) ∧ W.cell? ⟨w.heap.size,1,none⟩ = some (.slice none 0 0) ∧ W.frozen? ⟨w.heap.size,1,none⟩ = false):=⟨fun W hW=>by
     have six:∀ i v,(#[Value.int .i64 1,.int .u64 3,.int .u64 0,.int .u64 0,.string ⟨#[97]⟩,.string ⟨#[98]⟩]:Array Value)[i]? = some v → W.cell? ⟨ab,i,none⟩ = some v:=fun i v h=>by
      have e:=six_at wr _ _ _ _ _ _ 107 ab hab i v h
      rw [← hw5] at e
      exact (hW.cell (World.block_lt_of_cell? _ _ e)).trans e
     have hv:=(HW5.out W (by rw [← hw5];exact hW.mono (by rw [hw5,size_alloc];omega))).v
     exact ⟨six 0 _ rfl,⟨six 1 _ rfl,six 2 _ rfl,six 3 _ rfl,six 4 _ rfl,six 5 _ rfl⟩,hv.cell 1 (by omega),hv.frozen 1⟩⟩
    have HZ5:Hush (w.heap.size < w5.heap.size ∧ ab < w5.heap.size):=⟨by rw [hw5,size_alloc,hab];have:=HO.out.v.lt;omega⟩
    rw [← hw5,← hab]
    have HW5':Hush (∀ W,RowKit.Below w5.heap.size w5 W → OneSt w b (fun _=>nilS) W):=⟨fun W hW=>HW5.out W (by rw [← hw5];exact hW.mono (by rw [hw5,size_alloc];omega))⟩
    clear c0 c1 c2 c3 c4 c5 v1 v2 HW5 hw5 hab HO
    obtain ⟨y0,⟨y1,y2,y3,y4,y5⟩,y6,y7⟩:=HA5.out w5.drew (RowKit.Below.refl _ _).drew
    have z0:=fun o=>(HA5.out (w5.alloc o) ((RowKit.Below.refl _ _).alloc (Nat.le_refl _) o)).1
    have z6:=fun o=>(HA5.out (w5.alloc o) ((RowKit.Below.refl _ _).alloc (Nat.le_refl _) o)).2.2.1
    have z1:=fun o=>(HA5.out (w5.alloc o) ((RowKit.Below.refl _ _).alloc (Nat.le_refl _) o)).2.1.1
    have z2:=fun o=>(HA5.out (w5.alloc o) ((RowKit.Below.refl _ _).alloc (Nat.le_refl _) o)).2.1.2.1
    have z3:=fun o=>(HA5.out (w5.alloc o) ((RowKit.Below.refl _ _).alloc (Nat.le_refl _) o)).2.1.2.2.1
    have z4:=fun o=>(HA5.out (w5.alloc o) ((RowKit.Below.refl _ _).alloc (Nat.le_refl _) o)).2.1.2.2.2.1
    have z5:=fun o=>(HA5.out (w5.alloc o) ((RowKit.Below.refl _ _).alloc (Nat.le_refl _) o)).2.1.2.2.2.2
    go_region_law (first
     | (refine step_append_lies (w:=_) rfl _ _ 76 rfl w.heap.size 97 i0 (.agg #[.int .u64 0,.int .u64 0,.int .u64 0,.string ⟨#[]⟩,.string ⟨#[]⟩]) 5 56 Tryd.underlying76 hi hz0 hz1 hz2 rfl (by decide) (.slice none 0 0) 0 [] rfl ⟨rfl,.inl ⟨rfl,rfl⟩⟩ ⟨_,0,none⟩ 1 1 (encF fileA) rfl rfl (five_new w5 fileA 97) (encF_one fileA) (by decide) (by unfold maxLen;omega) (by omega) (by show w.heap.size ≤ (w5.alloc _).heap.size;rw [size_alloc];have:=HZ5.out.1;omega) _ rfl ?_;intro g cap w9 hown hg9 hat hlt9;have hb9:RowKit.Below w5.heap.size w5 w9:=(((RowKit.Below.refl _ _).alloc (Nat.le_refl _) _).drew).grown hg9 (by show w5.heap.size ≤ (w5.alloc _).heap.size;rw [size_alloc];omega) (fun k hk=>by cases hk);have HOWN:=Hush.mk (holds_one hown);have H9:=Hush.mk (HW5'.out w9 hb9);obtain ⟨x0,_,x6,x7⟩:=HA5.out w9 hb9;have HGN:Hush (g ≠ w.heap.size):=⟨by rcases hat with h | h;(cases h);(have h':(w5.alloc _).heap.size = g:=h.symm;rw [size_alloc] at h';have:=HZ5.out.1;omega)⟩;clear hown hb9 hg9 hat hlt9))
    all_goals
     have HNX:=Hush.mk (H9.out.come1 (c:=cap) HBB.out HOWN.out.1 HOWN.out.2.1 HOWN.out.2.2 HGN.out)
     go_wp2
     go_roundw
     case rel=>exact .inr ⟨by go_num,⟨g,cap,HNX.out⟩⟩
     case measure=>simp [intOf]
   ·obtain ⟨g,c,hst,hh,hg1,hg2⟩:=HO.out
    have H8:Hush (OneSt w b (lvl1 g c) wr ∧ HoldsK encF 5 wr g 0 #[fileA] ∧ w.heap.size ≤ g ∧ g < wr.heap.size):=⟨⟨hst,hh,hg1,hg2⟩⟩
    clear HO hst hh hg1 hg2
    go_wp2
    go_loopw [53] (fun iv wx=>∃ j:Nat,iv = .int .i64 j ∧ j ≤ 4 ∧ Hush (OneSt w b (lvl1 g c) wx ∧ HoldsK encF 5 wx g 0 #[fileA] ∧ w.heap.size ≤ g ∧ g < wx.heap.size)) (fun iv _=>4 - (intOf iv).toNat)
    case atStart=>exact ⟨0,by go_num,by omega,H8⟩
    case round=>
     obtain ⟨j,rfl,hj4,HJ⟩:=hrel
     have HST:Hush (∀ w',RowKit.Below wr.heap.size wr w' → OneSt w b (lvl1 g c) w' ∧ HoldsK encF 5 w' g 0 #[fileA] ∧ w.heap.size ≤ g ∧ g < w'.heap.size):=⟨fun w' hb=>by
      obtain ⟨k1,k2,k3,k4⟩:=HJ.out
      exact ⟨k1.step hb,holdsK_keep k2 (hb.block g k4),k3,Nat.lt_of_lt_of_le k4 hb.size⟩⟩
     by_cases hlt:j < 4
     ·have hltz:(j:Int) < 4:=by omega
      have HOR:Hush (∀ W,Calls Tryd.prog 102 #[.int .i64 j] W fun e w'=>e = .returned (.func (.func (fnL j)) #[] #[]) ∧ w' = W):=⟨fun W=>by
       have:=order_on j W
       rwa [show (if ((j:Nat):Int) = 0 then 135 else 137) = fnL j from by unfold fnL;by_cases h:j = 0 <;> simp [h]] at this⟩
      obtain ⟨sv,hsv⟩:∃ sv,sv = lvl1 g c j:=⟨_,rfl⟩
      have v1:=HJ.out.1.v.cell j hlt
      rw [← hsv] at v1
      have HSO:Hush (∀ W,RowKit.Below wr.heap.size wr W → Calls Tryd.prog 101 #[sv,.func (.func (fnL j)) #[] #[]] W fun e w'=>e = .returned (.tuple #[]) ∧ RowKit.Below W.heap.size W w'):=⟨fun W hW=>by
       rw [hsv]
       unfold lvl1
       split
       ·exact (sort_one j g c fileA W (HST.out W hW).2.1 (HST.out W hW).2.2.2).mono fun e w' ⟨h1,h2⟩=>⟨h1,h2.below⟩
       ·exact (sort_nil _ W).mono fun e w' ⟨h1,h2⟩=>⟨h1,by rw [h2];exact RowKit.Below.refl _ _⟩⟩
      have HSL:Hush (sv = lvl1 g c j):=⟨hsv⟩
      clear hsv HJ
      have v2:=below_cell v1
      clear v1
      go_wp2_with fail
      refine wp_region_quiet_below mixed (by kernel_rfl) ?_
      repeat (go_big_quiet_step (first | (go_at_call 102;exact Calls.below_of ((HOR.out _).mono fun e w' ⟨h1,h2⟩=>⟨h1,by rw [h2];exact RowKit.Below.refl _ _⟩)) | (go_at_call 101;exact Calls.below_of (HSO.out _ (BelowBy.h _)))))
      refine wpQuiet_nil ?_
      intro _ hw'
      obtain ⟨p,hw''⟩:=hw'
      subst hw''
      have H10:=Hush.mk (HST.out p.wr p.h)
      clear v2 HST
      go_wp2
      go_roundw
      case rel=>exact ⟨j + 1,by go_num,by omega,H10⟩
      case measure=>simp [intOf];omega
     ·obtain rfl:j = 4:=by omega
      have v0:=HJ.out.1.v.cell 0 (by omega)
      have v1:=HJ.out.1.v.cell 1 (by omega)
      have v2:=HJ.out.1.v.cell 2 (by omega)
      have v3:=HJ.out.1.v.cell 3 (by omega)
      rw [lvl1,if_neg (by omega)] at v0 v2 v3
      rw [lvl1,if_pos rfl] at v1
      unfold nilS at v0 v2 v3
      have HR:Hush (Calls Tryd.prog 44 #[.agg #[.slice none 0 0,.slice (some ⟨g,0,none⟩) 1 c,.slice none 0 0,.slice none 0 0]] wr fun e w'=>e = .returned (.bool true) ∧ RowKit.Below wr.heap.size wr w'):=⟨by
       have nl:LevelIn wr none []:=⟨fun h=>by simp at h,by simp,by simp⟩
       have:=right_on none (some ⟨g,0,none⟩) none none [] [fileA] [] [] 0 c 0 0 wr nl ⟨filesAt_holds HJ.out.2.1,by simp,fun f hf=>by simp at hf;subst hf;rfl⟩ nl nl
       rwa [rightA] at this⟩
      go_wp2_with (go_at_call 44;refine HR.out.mono ?_;rintro e w11 ⟨rfl,hb11⟩;obtain ⟨u1,u2,u3,u4⟩:=HST.out w11 hb11;have t0:=u1.v.cell 0 (by omega);have t1:=u1.v.cell 1 (by omega);have t2:=u1.v.cell 2 (by omega);have t3:=u1.v.cell 3 (by omega);rw [lvl1,if_neg (by omega)] at t0 t2 t3;rw [lvl1,if_pos rfl] at t1;unfold nilS at t0 t2 t3;have r0:=u1.r.cell 0 (by omega);have r1:=u1.r.cell 1 (by omega);have r2:=u1.r.cell 2 (by omega);have r3:=u1.r.cell 3 (by omega);have f0:=u1.r.frozen 0;have f1:=u1.r.frozen 1;have f2:=u1.r.frozen 2;have f3:=u1.r.frozen 3;unfold nilS at r0 r1 r2 r3;have HU:=Hush.mk (And.intro u1 (And.intro u2 (And.intro u3 u4)));clear u1 u2 u3 u4 hb11)
      have HFF:Hush (∀ wF,wF = ((((w11.setCell ⟨w.heap.size + 1 + 1,0,none⟩ nilS).setCell ⟨w.heap.size + 1 + 1,1,none⟩ (.slice (some ⟨g,0,none⟩) 1 c)).setCell ⟨w.heap.size + 1 + 1,2,none⟩ nilS).setCell ⟨w.heap.size + 1 + 1,3,none⟩ nilS) → (wF.cell? ⟨w.heap.size + 1 + 1,0,none⟩ = some (.slice none 0 0) ∧ wF.cell? ⟨w.heap.size + 1 + 1,1,none⟩ = some (.slice (some ⟨g,0,none⟩) 1 c) ∧ wF.cell? ⟨w.heap.size + 1 + 1,2,none⟩ = some (.slice none 0 0) ∧ wF.cell? ⟨w.heap.size + 1 + 1,3,none⟩ = some (.slice none 0 0)) ∧ FilesAt wF (some ⟨g,0,none⟩) [fileA] ∧ RowKit.Below w.heap.size w wF):=⟨fun wF hF=>by
       obtain ⟨u1,u2,u3,u4⟩:=HU.out
       have q0:=u1.r
       have q1:=q0.set 0 (by omega) nilS
       have q2:=q1.set 1 (by omega) (.slice (some ⟨g,0,none⟩) 1 c)
       have q3:=q2.set 2 (by omega) nilS
       have q4:=q3.set 3 (by omega) nilS
       have sl:∀ (v:Value) (f:Nat → Value) (k:Nat),(∃ A n c,v = Value.slice A n c) → (∀ i,i < 4 → ∃ A n c,f i = Value.slice A n c) → ∀ i,i < 4 → ∃ A n c,(if i = k then v else f i) = Value.slice A n c:=fun v f k hv hf i hi=>by
        split
        ·exact hv
        ·exact hf i hi
       have s0:∀ i,i < 4 → ∃ A n c,(fun _:Nat=>nilS) i = Value.slice A n c:=fun i _=>⟨none,0,0,rfl⟩
       have nl:∃ A n c,nilS = Value.slice A n c:=⟨none,0,0,rfl⟩
       have s1:=sl nilS _ 0 nl s0
       have s2:=sl (.slice (some ⟨g,0,none⟩) 1 c) _ 1 ⟨_,_,_,rfl⟩ s1
       have s3:=sl nilS _ 2 nl s2
       have f0:=filesAt_holds u2
       have f1:=filesAt_far f0 (a:=⟨w.heap.size + 1 + 1,0,none⟩) rfl q0 s0 nilS
       have f2:=filesAt_far f1 (a:=⟨w.heap.size + 1 + 1,1,none⟩) rfl q1 s1 (.slice (some ⟨g,0,none⟩) 1 c)
       have f3:=filesAt_far f2 (a:=⟨w.heap.size + 1 + 1,2,none⟩) rfl q2 s2 nilS
       have f4:=filesAt_far f3 (a:=⟨w.heap.size + 1 + 1,3,none⟩) rfl q3 s3 nilS
       rw [hF]
       exact ⟨⟨q4.cell 0 (by omega),q4.cell 1 (by omega),q4.cell 2 (by omega),q4.cell 3 (by omega)⟩,f4,(((u1.below.setCell (p:=⟨w.heap.size + 1 + 1,0,none⟩) (by show _ ≤ _ + 1 + 1;omega) _).setCell (p:=⟨w.heap.size + 1 + 1,1,none⟩) (by show _ ≤ _ + 1 + 1;omega) _).setCell (p:=⟨w.heap.size + 1 + 1,2,none⟩) (by show _ ≤ _ + 1 + 1;omega) _).setCell (p:=⟨w.heap.size + 1 + 1,3,none⟩) (by show _ ≤ _ + 1 + 1;omega) _⟩⟩
      unfold nilS at HFF
      obtain ⟨wF,hwF⟩:∃ wF,wF = ((((w11.setCell ⟨w.heap.size + 1 + 1,0,none⟩ (.slice none 0 0)).setCell ⟨w.heap.size + 1 + 1,1,none⟩ (.slice (some ⟨g,0,none⟩) 1 c)).setCell ⟨w.heap.size + 1 + 1,2,none⟩ (.slice none 0 0)).setCell ⟨w.heap.size + 1 + 1,3,none⟩ (.slice none 0 0)):=⟨_,rfl⟩
      obtain ⟨⟨k0,k1,k2,k3⟩,hff,hbf⟩:=HFF.out wF hwF
      rw [← hwF]
      exact bodyPost_ret (v:=.tuple #[.agg #[.slice none 0 0,.slice (some ⟨g,0,none⟩) 1 c,.slice none 0 0,.slice none 0 0],.int .i64 0]) (by simp [results,Tryd.results47,go_sem,k0,k1,k2,k3]) rfl ⟨⟨_,_,rfl,hff⟩,hbf⟩
end Go.Proofs.YteilnbnnhocciaaDoor.V

/-! V21 -/
namespace Go.Proofs.YteilnbnnhocciaaDoor.V
open Go.Proofs Go.RowKit Go.BigFrame Go.Proofs.YteilnbnnhocciaaDoorM Go.Proofs.YteilnbnnhocciaaDoorW.PrintWords Go.Proofs.YteilnbnnhocciaaDoorW.PrintLast Go.Proofs.YteilnbnnhocciaaDoorW.PrintMore Go.Proofs.YteilnbnnhocciaaDoor.KV
theorem info107':(Tryd.prog.info? 107).map (fun i=>(i.zero,i.size,i.bytes)) = some (some (.agg #[.int .i64 0,.int .u64 0,.int .u64 0,.int .u64 0,.string ⟨#[]⟩,.string ⟨#[]⟩]),6,64):=by kernel_rfl
def Five (w:World) (b:Nat) (v:Value):Prop:=∃ t,w.heap[b]? = some (.cells #[.int .u64 0,.int .u64 0,.int .u64 0,v,.slice none 0 0] t)
theorem Five.keep {w w':World} {b:Nat} {v:Value} (h:Five w b v) (hb:w'.heap[b]? = w.heap[b]?):Five w' b v:=by
 obtain ⟨t,h⟩:=h
 exact ⟨t,hb.trans h⟩
theorem Five.lt {w:World} {b:Nat} {v:Value} (h:Five w b v):b < w.heap.size:=by
 obtain ⟨t,h⟩:=h
 exact (Array.getElem?_eq_some_iff.1 h).1
theorem Five.below {w w':World} {b:Nat} {v:Value} (h:Five w b v) (hb:Below w.heap.size w w'):Five w' b v:=h.keep (hb.block b h.lt)
theorem Five.cells {w:World} {b:Nat} {v:Value} (h:Five w b v):w.cell? ⟨b,0,none⟩ = some (.int .u64 0) ∧ w.cell? ⟨b,1,none⟩ = some (.int .u64 0) ∧ w.cell? ⟨b,2,none⟩ = some (.int .u64 0) ∧ w.cell? ⟨b,3,none⟩ = some v ∧ w.cell? ⟨b,4,none⟩ = some (.slice none 0 0) ∧ ∀ i,w.frozen? ⟨b,i,none⟩ = false:=by
 obtain ⟨t,h⟩:=h
 simp only [World.cell?,World.frozen?,h]
 exact ⟨rfl,rfl,rfl,rfl,rfl,fun _=>rfl⟩
theorem Five.set3 {w:World} {b:Nat} {v:Value} (h:Five w b v) (v':Value):Five (w.setCell ⟨b,3,none⟩ v') b v':=by
 obtain ⟨t,h⟩:=h
 refine ⟨t,?_⟩
 obtain ⟨hlt,hk⟩:=Array.getElem?_eq_some_iff.1 h
 show (w.heap.modify b _)[b]? = _
 rw [Array.getElem?_eq_getElem (by rw [Array.size_modify];exact hlt),Array.getElem_modify_self,hk]
 rfl
theorem set_cells {w:World} {b:Nat} {c:Array Value} {t:TypeId} (h:w.heap[b]? = some (.cells c t)) (i:Nat) (v:Value):(w.setCell ⟨b,i,none⟩ v).heap[b]? = some (.cells (c.setIfInBounds i v) t):=by
 obtain ⟨hlt,hk⟩:=Array.getElem?_eq_some_iff.1 h
 show (w.heap.modify b _)[b]? = _
 rw [Array.getElem?_eq_getElem (by rw [Array.size_modify];exact hlt),Array.getElem_modify_self,hk]
 simp
theorem Five.sets {w:World} {b:Nat} {v0:Value} (h:Five w b v0) (v:Value):Five (((((w.setCell ⟨b,0,none⟩ (.int .u64 0)).setCell ⟨b,1,none⟩ (.int .u64 0)).setCell ⟨b,2,none⟩ (.int .u64 0)).setCell ⟨b,3,none⟩ v).setCell ⟨b,4,none⟩ (.slice none 0 0)) b v:=by
 obtain ⟨t,h⟩:=h
 exact ⟨t,set_cells (set_cells (set_cells (set_cells (set_cells h 0 _) 1 _) 2 _) 3 _) 4 _⟩
theorem index77_at (f:Nat → Value) (j:Nat) (hj:j < 4) (wr:World):(Instr.index 77 (.agg #[f 0,f 1,f 2,f 3]) (.int .i64 (j:Int))).run Tryd.prog wr = .ok (f j) wr:=by
 have:j = 0 ∨ j = 1 ∨ j = 2 ∨ j = 3:=by omega
 rcases this with rfl | rfl | rfl | rfl
 ·exact index77_0 _ _ _ _ wr
 ·exact index77_1 _ _ _ _ wr
 ·exact index77_2 _ _ _ _ wr
 ·exact index77_3 _ _ _ _ wr
def comeCells (lv:Nat) (f:FileV):List Value:=[.int .i64 lv,.int .u64 f.num,.int .u64 f.size,.int .u64 f.count,.string f.least,.string f.most]
def levelCells (lv:Nat) (L:List FileV):List Value:=L.flatMap (comeCells lv)
def allCells (Lf:Nat → List FileV):Nat → List Value
 | 0=>[]
 | j + 1=>allCells Lf j ++ levelCells j (Lf j)
def allLen (Lf:Nat → List FileV):Nat → Nat
 | 0=>0
 | j + 1=>allLen Lf j + (Lf j).length
theorem levelCells_snoc (lv:Nat) (L:List FileV) (f:FileV):levelCells lv (L ++ [f]) = levelCells lv L ++ comeCells lv f:=by
 unfold levelCells
 rw [List.flatMap_append]
 simp
theorem comeCells_one (lv:Nat) (f:FileV):∀ u ∈ comeCells lv f,u.oneCell' = true:=by
 intro v hv
 simp only [comeCells,List.mem_cons,List.not_mem_nil,or_false] at hv
 rcases hv with rfl | rfl | rfl | rfl | rfl | rfl <;> rfl
structure FSt (w:World) (v:Value) (n:Nat) (xs:List Value) (wr:World):Prop where
 below:Below w.heap.size w wr
 e:Five wr (w.heap.size + 1 + 1) v
 r:Five wr (w.heap.size + 1) (.slice none 0 0)
 own:wr.ownsRow (w.heap.size + 3) 107 6 v n xs
theorem own_slice {w:World} {base e size n:Nat} {v:Value} {xs:List Value} (h:w.ownsRow base e size v n xs):∃ A c,v = .slice A n c:=by
 rcases h.2 with ⟨rfl,rfl⟩ | ⟨g,cap,cur,rfl,_⟩
 ·exact ⟨_,_,rfl⟩
 ·exact ⟨_,_,rfl⟩
theorem FSt.kept {w wr w':World} {v:Value} {n:Nat} {xs:List Value} {o o2:Obj} (h:FSt w v n xs wr) (hg:((wr.alloc o).alloc o2).grownBy w' v.ownBlock):w'.cell? ⟨w.heap.size + 1 + 1,3,none⟩ = some v ∧ w'.frozen? ⟨w.heap.size + 1 + 1,3,none⟩ = false:=by
 have z1:=size_alloc wr o
 have z2:=size_alloc (wr.alloc o) o2
 have vb:∀ k,v.ownBlock = some k → w.heap.size + 3 ≤ k:=fun k hk=>by
  rcases h.own.2 with ⟨h1,_⟩ | ⟨g,cap,cur,h1,h2,_⟩
  ·rw [h1] at hk;cases hk
  ·rw [h1] at hk;cases hk;exact h2
 have ba:=((Below.refl wr.heap.size wr).alloc (Nat.le_refl _) o).alloc (by omega) o2
 have e1:=h.e.keep ((hg.block _ (by have:=h.e.lt;omega) (fun e=>by have:=vb _ e.symm;omega)).trans (ba.block _ h.e.lt))
 exact ⟨e1.cells.2.2.2.1,e1.cells.2.2.2.2.2 3⟩
theorem FSt.next {w wr w':World} {v v':Value} {n:Nat} {xs news:List Value} {o o2:Obj} (h:FSt w v n xs wr) (hown:w'.ownsRow (w.heap.size + 3) 107 6 v' (n + 1) (xs ++ news)) (hg:((wr.alloc o).alloc o2).grownBy w' v.ownBlock) :
  FSt w v' (n + 1) (xs ++ news) (w'.setCell ⟨w.heap.size + 1 + 1,3,none⟩ v'):=by
 have z1:=size_alloc wr o
 have z2:=size_alloc (wr.alloc o) o2
 have vb:∀ k,v.ownBlock = some k → w.heap.size + 3 ≤ k:=fun k hk=>by
  rcases h.own.2 with ⟨h1,_⟩ | ⟨g,cap,cur,h1,h2,_⟩
  ·rw [h1] at hk;cases hk
  ·rw [h1] at hk;cases hk;exact h2
 have ba:=((Below.refl wr.heap.size wr).alloc (Nat.le_refl _) o).alloc (by omega) o2
 have kp:∀ k,k < w.heap.size + 3 → k < wr.heap.size → w'.heap[k]? = wr.heap[k]?:=fun k h1 h2=>(hg.block k (by omega) (fun e=>by have:=vb k e.symm;omega)).trans (ba.block k h2)
 have e1:=h.e.keep (kp _ (by omega) h.e.lt)
 have r1:=h.r.keep (kp _ (by omega) h.r.lt)
 have b1:Below w.heap.size w w':=(h.below.trans (ba.mono h.below.size)).grown hg (by have:=h.below.size;omega) (fun k hk=>by have:=vb k hk;omega)
 refine ⟨b1.setCell (p:=⟨w.heap.size + 1 + 1,3,none⟩) (by show _ ≤ _ + 1 + 1;omega) _,e1.set3 v',r1.keep (Below.heap_setCell _ _ _ _ (by show w.heap.size + 1 ≠ w.heap.size + 1 + 1;omega)),hown.1,hown.2.imp id ?_⟩
 rintro ⟨g,cap,cur,h1,h2,h3,h4⟩
 exact ⟨g,cap,cur,h1,h2,(Below.heap_setCell w' ⟨w.heap.size + 1 + 1,3,none⟩ v' g (by show g ≠ w.heap.size + 1 + 1;omega)).trans h3,h4⟩
theorem six_new (W:World) (lv:Nat) (f:FileV) (t:TypeId) (b:Nat) (hb:b = W.heap.size):∀ j u,(comeCells lv f)[j]? = some u → (W.alloc (.cells #[.int .i64 lv,.int .u64 f.num,.int .u64 f.size,.int .u64 f.count,.string f.least,.string f.most] t)).cell? ((⟨b,0,none⟩:Addr).add j) = some u:=by
 intro j u hu
 have e:=six_at W (.int .i64 lv) (.int .u64 f.num) (.int .u64 f.size) (.int .u64 f.count) (.string f.least) (.string f.most) t b hb
 match j,hu with
 | 0,hu=>obtain rfl:=Option.some.inj hu;exact e 0 _ rfl
 | 1,hu=>obtain rfl:=Option.some.inj hu;exact e 1 _ rfl
 | 2,hu=>obtain rfl:=Option.some.inj hu;exact e 2 _ rfl
 | 3,hu=>obtain rfl:=Option.some.inj hu;exact e 3 _ rfl
 | 4,hu=>obtain rfl:=Option.some.inj hu;exact e 4 _ rfl
 | 5,hu=>obtain rfl:=Option.some.inj hu;exact e 5 _ rfl
set_option maxHeartbeats 8000000 in
set_option maxRecDepth 100000 in
theorem filesEdit_on (Lf:Nat → List FileV) (Af:Nat → Option Addr) (cf:Nat → Nat) (w:World) (hin:∀ i,i < 4 → FilesAt w (Af i) (Lf i) ∧ (Lf i).length ≤ 1000000) :
  Calls Tryd.prog 46 #[.agg #[.slice (Af 0) (Lf 0).length (cf 0),.slice (Af 1) (Lf 1).length (cf 1),.slice (Af 2) (Lf 2).length (cf 2),.slice (Af 3) (Lf 3).length (cf 3)]] w fun e w'=>
   (∃ v,e = .returned (.agg #[.int .u64 0,.int .u64 0,.int .u64 0,v,.slice none 0 0]) ∧ w'.ownsRow (w.heap.size + 3) 107 6 v (allLen Lf 4) (allCells Lf 4)) ∧ Below w.heap.size w w':=by
 have HIN:=Hush.mk hin
 clear hin
 obtain ⟨i0,hi,hz0,hz1,hz2⟩:=info_parts info107'
 obtain ⟨w1,hw1⟩:∃ w1,w1 = ((w.alloc (.cells #[.slice (Af 0) (Lf 0).length (cf 0),.slice (Af 1) (Lf 1).length (cf 1),.slice (Af 2) (Lf 2).length (cf 2),.slice (Af 3) (Lf 3).length (cf 3)] 79)).alloc (.cells #[.int .u64 0,.int .u64 0,.int .u64 0,.slice none 0 0,.slice none 0 0] 26)).alloc (.cells #[.int .u64 0,.int .u64 0,.int .u64 0,.slice none 0 0,.slice none 0 0] 26):=⟨_,rfl⟩
 have H1:Hush (FSt w (.slice none 0 0) 0 [] w1):=⟨by
  have z1:=size_alloc w (.cells #[.slice (Af 0) (Lf 0).length (cf 0),.slice (Af 1) (Lf 1).length (cf 1),.slice (Af 2) (Lf 2).length (cf 2),.slice (Af 3) (Lf 3).length (cf 3)] 79)
  have z2:=size_alloc (w.alloc (.cells #[.slice (Af 0) (Lf 0).length (cf 0),.slice (Af 1) (Lf 1).length (cf 1),.slice (Af 2) (Lf 2).length (cf 2),.slice (Af 3) (Lf 3).length (cf 3)] 79)) (.cells #[.int .u64 0,.int .u64 0,.int .u64 0,.slice none 0 0,.slice none 0 0] 26)
  have e2:=World.alloc_heap_new (w.alloc (.cells #[.slice (Af 0) (Lf 0).length (cf 0),.slice (Af 1) (Lf 1).length (cf 1),.slice (Af 2) (Lf 2).length (cf 2),.slice (Af 3) (Lf 3).length (cf 3)] 79)) (.cells #[.int .u64 0,.int .u64 0,.int .u64 0,.slice none 0 0,.slice none 0 0] 26)
  have e3:=World.alloc_heap_new ((w.alloc (.cells #[.slice (Af 0) (Lf 0).length (cf 0),.slice (Af 1) (Lf 1).length (cf 1),.slice (Af 2) (Lf 2).length (cf 2),.slice (Af 3) (Lf 3).length (cf 3)] 79)).alloc (.cells #[.int .u64 0,.int .u64 0,.int .u64 0,.slice none 0 0,.slice none 0 0] 26)) (.cells #[.int .u64 0,.int .u64 0,.int .u64 0,.slice none 0 0,.slice none 0 0] 26)
  rw [z1] at e2
  rw [z2,z1] at e3
  have f2:Five ((w.alloc (.cells #[.slice (Af 0) (Lf 0).length (cf 0),.slice (Af 1) (Lf 1).length (cf 1),.slice (Af 2) (Lf 2).length (cf 2),.slice (Af 3) (Lf 3).length (cf 3)] 79)).alloc (.cells #[.int .u64 0,.int .u64 0,.int .u64 0,.slice none 0 0,.slice none 0 0] 26)) (w.heap.size + 1) (.slice none 0 0):=⟨26,e2⟩
  rw [hw1]
  exact ⟨(((Below.refl _ _).alloc (Nat.le_refl _) _).alloc (by omega) _).alloc (by omega) _,⟨26,e3⟩,f2.below ((Below.refl _ _).alloc (Nat.le_refl _) _),⟨rfl,.inl ⟨rfl,rfl⟩⟩⟩⟩
 have hz:w1.heap.size = w.heap.size + 3:=by rw [hw1,size_alloc,size_alloc,size_alloc]
 have HZ:=Hush.mk hz
 clear hz
 obtain ⟨n,hn⟩:∃ n,n = allLen Lf 4:=⟨_,rfl⟩
 obtain ⟨xs,hx⟩:∃ xs,xs = allCells Lf 4:=⟨_,rfl⟩
 rw [← hn,← hx]
 have HN4:=Hush.mk (And.intro hn hx)
 clear hn hx
 go_enter Tryd.func46,Tryd.ntmps46
 go_wp2
 rw [← hw1]
 clear hw1
 go_loopw [10] (fun iv wr=>∃ j:Nat,iv = .int .i64 j ∧ j ≤ 4 ∧ Hush (w.heap.size + 3 ≤ wr.heap.size ∧ ∃ A c,FSt w (.slice A (allLen Lf j) c) (allLen Lf j) (allCells Lf j) wr)) (fun iv _=>4 - (intOf iv).toNat)
 case atStart=>exact ⟨0,by go_num,by omega,⟨by rw [HZ.out];exact Nat.le_refl _,_,_,H1.out⟩⟩
 case round=>
  obtain ⟨j,rfl,hj4,HJ⟩:=hrel
  by_cases hlt:j < 4
  ·have hltz:(j:Int) < 4:=by omega
   have hix:=index77_at (fun i=>.slice (Af i) (Lf i).length (cf i)) j hlt
   obtain ⟨L,hL⟩:∃ L,L = Lf j:=⟨_,rfl⟩
   obtain ⟨AL,hAL⟩:∃ A,A = Af j:=⟨_,rfl⟩
   obtain ⟨cL,hcL⟩:∃ c,c = cf j:=⟨_,rfl⟩
   have hf:=HIN.out j hlt
   rw [← hL,← hAL,← hcL] at hix
   rw [← hL,← hAL] at hf
   have HF:=Hush.mk hf
   have HL:=Hush.mk hL
   have hll:=hf.2
   have HLL:Hush (allLen Lf j ≤ 4000000):=⟨by
    have a0:=(HIN.out 0 (by omega)).2
    have a1:=(HIN.out 1 (by omega)).2
    have a2:=(HIN.out 2 (by omega)).2
    have:j = 0 ∨ j = 1 ∨ j = 2 ∨ j = 3:=by omega
    rcases this with rfl | rfl | rfl | rfl <;> simp only [allLen] <;> omega⟩
   clear hL hAL hcL hf
   go_wp2
   go_loopw [16] (fun iv wx=>∃ k:Nat,iv = .int .i64 k ∧ k ≤ L.length ∧ Hush (w.heap.size + 3 ≤ wx.heap.size ∧ ∃ A c,FSt w (.slice A (allLen Lf j + k) c) (allLen Lf j + k) (allCells Lf j ++ levelCells j (L.take k)) wx)) (fun iv _=>L.length - (intOf iv).toNat)
   case atStart=>exact ⟨0,by go_num,by omega,⟨HJ.out.1,by
    obtain ⟨A,c,hv⟩:=HJ.out.2
    exact ⟨A,c,by simpa [levelCells] using hv⟩⟩⟩
   case round=>
    obtain ⟨k,rfl,hk,HK⟩:=hrel
    by_cases hlt2:k < L.length
    ·have hlt2z:(k:Int) < (L.length:Int):=by omega
     obtain ⟨kb,hkb⟩:∃ kb:Int,kb = 1000000:=⟨_,rfl⟩
     have hkz:(k:Int) < kb:=by omega
     have hkb2:kb ≤ 9000000:=by omega
     clear hkb
     obtain ⟨hsz,A,c,hst⟩:=HK.out
     obtain ⟨n,hn⟩:∃ n,n = allLen Lf j + k:=⟨_,rfl⟩
     have hnz:n ≤ 5000000:=by have:=HLL.out;omega
     rw [← hn] at hst
     have HNN:=Hush.mk hn
     clear hn
     obtain ⟨f,hf⟩:∃ f,L[k]? = some f:=⟨_,List.getElem?_eq_getElem hlt2⟩
     obtain ⟨ad,rfl,hat⟩:=HF.out.1 (by omega)
     have hA:=(hat k f hf).below hst.below
     have HSN:Hush (levelCells j (L.take (k + 1)) = levelCells j (L.take k) ++ comeCells j f):=⟨by
      obtain ⟨q1,q2⟩:=List.getElem?_eq_some_iff.1 hf
      rw [List.take_succ_eq_append_getElem q1,q2,levelCells_snoc]⟩
     have HST:=Hush.mk hst
     have HSZ:=Hush.mk hsz
     have hc3:∀ o,(wr.alloc o).cell? ⟨w.heap.size + 1 + 1,3,none⟩ = some (.slice A n c):=fun o=>(hst.e.below ((Below.refl _ _).alloc (Nat.le_refl _) o)).cells.2.2.2.1
     clear hat hf hst HK hsz
     obtain ⟨f0,f1,f2,f3,f4⟩:=f
     simp only [FileAt] at hA
     obtain ⟨x0,x1,x2,x3,x4⟩:=hA
     have HB2:Hush (w.heap.size + 3 ≤ ((wr.alloc (.cells #[.int .u64 f0,.int .u64 f1,.int .u64 f2,.string f3,.string f4] 97)).alloc (.cells #[.int .i64 j,.int .u64 f0,.int .u64 f1,.int .u64 f2,.string f3,.string f4] 107)).heap.size):=⟨by rw [size_alloc,size_alloc];have:=HSZ.out;omega⟩
     have HOW:Hush (((wr.alloc (.cells #[.int .u64 f0,.int .u64 f1,.int .u64 f2,.string f3,.string f4] 97)).alloc (.cells #[.int .i64 j,.int .u64 f0,.int .u64 f1,.int .u64 f2,.string f3,.string f4] 107)).ownsRow (w.heap.size + 3) 107 6 (.slice A n c) n (allCells Lf j ++ levelCells j (L.take k))):=⟨ownsRow_keep (ownsRow_keep HST.out.own ((Below.refl _ _).alloc (Nat.le_refl _) _)) ((Below.refl _ _).alloc (Nat.le_refl _) _)⟩
     go_wp2_with (at_builtin;refine wpList_append_own_at _ rfl _ _ 23 rfl (w.heap.size + 3) 107 i0 (.agg #[.int .i64 0,.int .u64 0,.int .u64 0,.int .u64 0,.string ⟨#[]⟩,.string ⟨#[]⟩]) 6 64 Tryd.underlying23 hi hz0 hz1 hz2 rfl (by decide) (.slice A n c) _ _ rfl HOW.out ⟨_,0,none⟩ 1 1 (comeCells j ⟨f0,f1,f2,f3,f4⟩) rfl rfl (six_new _ j ⟨f0,f1,f2,f3,f4⟩ 107 _ (by simp)) (comeCells_one j _) (by unfold maxLen;omega) (by omega) HB2.out ?_;intro v' w5 hown' hg' hnil hloc;obtain ⟨A5,c5,rfl⟩:=own_slice hown';have HNX:=Hush.mk (HST.out.next hown' hg');have HGS:Hush (wr.heap.size ≤ w5.heap.size):=⟨Nat.le_trans (by rw [size_alloc,size_alloc];omega) hg'.size⟩;have HFV:=Hush.mk (HST.out.kept hg');obtain ⟨k3,k4⟩:=HFV.out)
     go_roundw
     case rel=>exact ⟨k + 1,by go_num,by omega,⟨Nat.le_trans HSZ.out (by rw [World.size_setCell];have h1:=HNX.out.own;have h2:=HGS.out;omega),A5,c5,by
      have e:allLen Lf j + (k + 1) = n + 1:=by rw [HNN.out];omega
      rw [e,HSN.out,← List.append_assoc]
      exact HNX.out⟩⟩
     case measure=>simp [intOf];omega
    ·obtain rfl:k = L.length:=by omega
     have HK2:Hush (w.heap.size + 3 ≤ wr.heap.size ∧ ∃ A c,FSt w (.slice A (allLen Lf (j + 1)) c) (allLen Lf (j + 1)) (allCells Lf (j + 1)) wr):=⟨by
      obtain ⟨h1,A,c,h2⟩:=HK.out
      rw [List.take_of_length_le (Nat.le_refl _),HL.out] at h2
      exact ⟨h1,A,c,h2⟩⟩
     clear HK
     go_wp2
     go_roundw
     case rel=>exact ⟨j + 1,by go_num,by omega,HK2⟩
     case measure=>simp [intOf];omega
  ·obtain rfl:j = 4:=by omega
   obtain ⟨hsz,A,c,hst⟩:=HJ.out
   rw [← HN4.out.1,← HN4.out.2] at hst
   have HST:=Hush.mk hst
   obtain ⟨g0,g1,g2,g3,g4,g5⟩:=hst.e.cells
   obtain ⟨r0,r1,r2,r3,r4,r5⟩:=hst.r.cells
   have r50:=r5 0
   have r51:=r5 1
   have r52:=r5 2
   have r53:=r5 3
   have r54:=r5 4
   clear hst HJ HIN r5 g5
   have HFF:Hush (∀ wF,wF = (((((wr.setCell ⟨w.heap.size + 1,0,none⟩ (.int .u64 0)).setCell ⟨w.heap.size + 1,1,none⟩ (.int .u64 0)).setCell ⟨w.heap.size + 1,2,none⟩ (.int .u64 0)).setCell ⟨w.heap.size + 1,3,none⟩ (.slice A n c)).setCell ⟨w.heap.size + 1,4,none⟩ (.slice none 0 0)) → Five wF (w.heap.size + 1) (.slice A n c) ∧ wF.ownsRow (w.heap.size + 3) 107 6 (.slice A n c) n xs ∧ Below w.heap.size w wF):=⟨fun wF hF=>by
    have far:∀ (W:World) (i:Nat) (u:Value),W.ownsRow (w.heap.size + 3) 107 6 (.slice A n c) n xs → (W.setCell ⟨w.heap.size + 1,i,none⟩ u).ownsRow (w.heap.size + 3) 107 6 (.slice A n c) n xs:=fun W i u h=>by
     refine ⟨h.1,h.2.imp id ?_⟩
     rintro ⟨g,cap,cur,h1,h2,h3,h4⟩
     exact ⟨g,cap,cur,h1,h2,(Below.heap_setCell W ⟨w.heap.size + 1,i,none⟩ u g (by show g ≠ w.heap.size + 1;omega)).trans h3,h4⟩
    have bs:∀ (W:World) (i:Nat) (u:Value),Below w.heap.size w W → Below w.heap.size w (W.setCell ⟨w.heap.size + 1,i,none⟩ u):=fun W i u h=>h.setCell (p:=⟨w.heap.size + 1,i,none⟩) (by show _ ≤ _ + 1;omega) _
    rw [hF]
    exact ⟨HST.out.r.sets _,far _ _ _ (far _ _ _ (far _ _ _ (far _ _ _ (far _ _ _ HST.out.own)))),bs _ _ _ (bs _ _ _ (bs _ _ _ (bs _ _ _ (bs _ _ _ HST.out.below))))⟩⟩
   go_wp2
   obtain ⟨wF,hwF⟩:∃ wF,wF = (((((wr.setCell ⟨w.heap.size + 1,0,none⟩ (.int .u64 0)).setCell ⟨w.heap.size + 1,1,none⟩ (.int .u64 0)).setCell ⟨w.heap.size + 1,2,none⟩ (.int .u64 0)).setCell ⟨w.heap.size + 1,3,none⟩ (.slice A n c)).setCell ⟨w.heap.size + 1,4,none⟩ (.slice none 0 0)):=⟨_,rfl⟩
   obtain ⟨h5,ho,hb⟩:=HFF.out wF hwF
   obtain ⟨k0,k1,k2,k3,k4,_⟩:=h5.cells
   rw [← hwF]
   exact bodyPost_ret (v:=.agg #[.int .u64 0,.int .u64 0,.int .u64 0,.slice A n c,.slice none 0 0]) (by simp [results,Tryd.results46,go_sem,k0,k1,k2,k3,k4]) rfl ⟨⟨_,rfl,ho⟩,hb⟩
theorem field26 (a b c:Int) (v u:Value) (W:World):(Instr.field 26 (.agg #[.int .u64 a,.int .u64 b,.int .u64 c,v,u]) 3).run Tryd.prog W = .ok v W:=by kernel_rfl
set_option maxHeartbeats 4000000 in
set_option maxRecDepth 100000 in
theorem count_on (Lf:Nat → List FileV) (Af:Nat → Option Addr) (cf:Nat → Nat) (w:World) (hin:∀ i,i < 4 → FilesAt w (Af i) (Lf i) ∧ (Lf i).length ≤ 1000000) :
  Calls Tryd.prog 48 #[.agg #[.slice (Af 0) (Lf 0).length (cf 0),.slice (Af 1) (Lf 1).length (cf 1),.slice (Af 2) (Lf 2).length (cf 2),.slice (Af 3) (Lf 3).length (cf 3)]] w fun e w'=>e = .returned (.int .i64 (allLen Lf 4)) ∧ Below w.heap.size w w':=by
 have HC:Hush (∀ W,Below w.heap.size w W → Calls Tryd.prog 46 #[.agg #[.slice (Af 0) (Lf 0).length (cf 0),.slice (Af 1) (Lf 1).length (cf 1),.slice (Af 2) (Lf 2).length (cf 2),.slice (Af 3) (Lf 3).length (cf 3)]] W fun e w'=>(∃ A c,e = .returned (.agg #[.int .u64 0,.int .u64 0,.int .u64 0,.slice A (allLen Lf 4) c,.slice none 0 0])) ∧ Below w.heap.size w w'):=⟨fun W hW=>
  (filesEdit_on Lf Af cf W (fun i hi=>⟨(hin i hi).1.below hW,(hin i hi).2⟩)).mono fun e w' ⟨⟨v,h1,h2⟩,h3⟩=>⟨by
   obtain ⟨A,c,rfl⟩:=own_slice h2
   exact ⟨A,c,h1⟩,hW.trans (h3.mono hW.size)⟩⟩
 clear hin
 obtain ⟨n,hn⟩:∃ n,n = allLen Lf 4:=⟨_,rfl⟩
 rw [← hn] at HC ⊢
 clear hn
 have hf:=fun A c=>field26 0 0 0 (.slice A n c) (.slice none 0 0)
 go_enter Tryd.func48,Tryd.ntmps48
 go_wp2_with (go_at_call 46;refine (HC.out _ ((Below.refl _ _).alloc (Nat.le_refl _) _)).mono ?_;rintro e w1 ⟨⟨A,c,rfl⟩,hb1⟩;have HB1:=Hush.mk hb1;clear hb1)
 go_ret
 exact ⟨rfl,HB1.out⟩
end Go.Proofs.YteilnbnnhocciaaDoor.V

/-! V22 -/
namespace Go.Proofs.YteilnbnnhocciaaDoor.V
open Go.Proofs Go.RowKit Go.BigFrame Go.Proofs.YteilnbnnhocciaaDoorM Go.Proofs.YteilnbnnhocciaaDoorW.PrintWords Go.Proofs.YteilnbnnhocciaaDoorW.PrintLast Go.Proofs.YteilnbnnhocciaaDoorW.PrintMore Go.Proofs.YteilnbnnhocciaaDoor.KV
theorem right_nil (w:World):Calls Tryd.prog 44 #[.agg #[.slice none 0 0,.slice none 0 0,.slice none 0 0,.slice none 0 0]] w fun e w'=>e = .returned (.bool true) ∧ Below w.heap.size w w':=by
 have nl:LevelIn w none []:=⟨fun h=>by simp at h,by simp,by simp⟩
 have:=right_on none none none none [] [] [] [] 0 0 0 0 w nl nl nl nl
 rwa [rightN] at this
theorem count_one (A:Option Addr) (c:Nat) (w:World) (h:FilesAt w A [fileA]):Calls Tryd.prog 48 #[.agg #[.slice none 0 0,.slice A 1 c,.slice none 0 0,.slice none 0 0]] w fun e w'=>e = .returned (.int .i64 1) ∧ Below w.heap.size w w':=
 count_on (fun i=>if i = 1 then [fileA] else []) (fun i=>if i = 1 then A else none) (fun i=>if i = 1 then c else 0) w (fun i hi=>by
  have:i = 0 ∨ i = 1 ∨ i = 2 ∨ i = 3:=by omega
  rcases this with rfl | rfl | rfl | rfl
  ·exact ⟨fun h=>by simp at h,by simp⟩
  ·exact ⟨h,by simp⟩
  ·exact ⟨fun h=>by simp at h,by simp⟩
  ·exact ⟨fun h=>by simp at h,by simp⟩)
theorem law12_awake_on (w:World):Calls Tryd.prog 88 #[] w fun e w'=>e = .returned (.bool true) ∧ Below w.heap.size w w':=bourselaw12_Awake.calls true w rfl
theorem four_new (W:World) (a b c d:Value) (t:TypeId) (k:Nat) (hk:k = W.heap.size) {W':World} (hb:Below (W.alloc (.cells #[a,b,c,d] t)).heap.size (W.alloc (.cells #[a,b,c,d] t)) W'):W'.cell? ⟨k,0,none⟩ = some a ∧ W'.cell? ⟨k,1,none⟩ = some b ∧ W'.cell? ⟨k,2,none⟩ = some c ∧ W'.cell? ⟨k,3,none⟩ = some d:=by
 subst hk
 have e:=World.alloc_heap_new W (.cells #[a,b,c,d] t)
 have e':W'.heap[W.heap.size]? = some (.cells #[a,b,c,d] t):=(hb.block _ (by rw [size_alloc];omega)).trans e
 simp only [World.cell?,e']
 exact ⟨rfl,rfl,rfl,rfl⟩
set_option maxHeartbeats 8000000 in
set_option maxRecDepth 100000 in
theorem awake_on (w:World):Calls Tryd.prog 37 #[] w fun e w'=>e = .returned (.bool true) ∧ Below w.heap.size w w':=by
 obtain ⟨w1,hw1⟩:∃ w1,w1 = w.alloc (.cells #[.slice none 0 0,.slice none 0 0,.slice none 0 0,.slice none 0 0] 79):=⟨_,rfl⟩
 have HB1:Hush (Below w.heap.size w w1 ∧ ∀ W,Below w1.heap.size w1 W → W.cell? ⟨w.heap.size,0,none⟩ = some (.slice none 0 0) ∧ W.cell? ⟨w.heap.size,1,none⟩ = some (.slice none 0 0) ∧ W.cell? ⟨w.heap.size,2,none⟩ = some (.slice none 0 0) ∧ W.cell? ⟨w.heap.size,3,none⟩ = some (.slice none 0 0)):=⟨by
  rw [hw1]
  exact ⟨(Below.refl _ _).alloc (Nat.le_refl _) _,fun W hW=>four_new w _ _ _ _ 79 _ rfl hW⟩⟩
 obtain ⟨a0,a1,a2,a3⟩:=HB1.out.2 w1 (Below.refl _ _)
 go_enter Tryd.func37,Tryd.ntmps37
 go_wp2_with (first
  | (go_at_call 40;rw [← hw1];refine (pick_nil _).mono ?_;rintro e w2 ⟨rfl,hb2⟩;have HB2:=Hush.mk hb2;obtain ⟨c0,c1,c2,c3⟩:=HB1.out.2 (w2.alloc (.cells #[.int .i64 0,.slice none 0 0,.slice none 0 0] 87)) (hb2.alloc hb2.size _);clear hb2)
  | (go_at_call 47;refine (apply_one _ _ (six_at _ _ _ _ _ _ _ _ _ (by simp) 0 _ rfl) (six_at _ _ _ _ _ _ _ _ _ (by simp) 1 _ rfl) (six_at _ _ _ _ _ _ _ _ _ (by simp) 2 _ rfl) (six_at _ _ _ _ _ _ _ _ _ (by simp) 3 _ rfl) (six_at _ _ _ _ _ _ _ _ _ (by simp) 4 _ rfl) (six_at _ _ _ _ _ _ _ _ _ (by simp) 5 _ rfl)).mono ?_;rintro e w3 ⟨⟨A,c,rfl,hf⟩,hb3⟩;have HB3:Hush (Below w1.heap.size w1 w3):=⟨((HB2.out.alloc HB2.out.size _).alloc (by rw [size_alloc];have:=HB2.out.size;omega) _).trans (hb3.mono (by rw [size_alloc,size_alloc];have:=HB2.out.size;omega))⟩;have HF:=Hush.mk hf;have d0:=fun o=>(HB1.out.2 (w3.alloc o) (HB3.out.alloc HB3.out.size _)).1;have d1:=fun o=>(HB1.out.2 (w3.alloc o) (HB3.out.alloc HB3.out.size _)).2.1;have d2:=fun o=>(HB1.out.2 (w3.alloc o) (HB3.out.alloc HB3.out.size _)).2.2.1;have d3:=fun o=>(HB1.out.2 (w3.alloc o) (HB3.out.alloc HB3.out.size _)).2.2.2;clear hb3 hf)
  | (go_at_call 44;refine (right_nil _).mono ?_;rintro e w4 ⟨rfl,hb4⟩;obtain ⟨p0,p1,p2,p3⟩:=four_new w3 _ _ _ _ 79 _ rfl hb4;have HB4:Hush (Below w3.heap.size w3 w4):=⟨((Below.refl _ _).alloc (Nat.le_refl _) _).trans (hb4.mono (by rw [size_alloc];omega))⟩;have HF4:=Hush.mk (HF.out.below HB4.out);clear hb4)
  | (go_at_call 48;refine (count_one _ _ _ HF4.out).mono ?_;rintro e w5 ⟨rfl,hb5⟩;have HB5:=Hush.mk hb5;clear hb5)
  | (go_at_call 88;refine (law12_awake_on _).mono ?_;rintro e w6 ⟨rfl,hb6⟩;have HB6:=Hush.mk hb6;clear hb6))
 go_ret
 exact ⟨rfl,by
  have b3:Below w.heap.size w w3:=HB1.out.1.trans (HB3.out.mono HB1.out.1.size)
  have b4:=b3.trans (HB4.out.mono b3.size)
  have b5:=b4.trans (HB5.out.mono b4.size)
  exact b5.trans (HB6.out.mono b5.size)⟩
end Go.Proofs.YteilnbnnhocciaaDoor.V

/-! M3 -/
namespace Go.Proofs.YteilnbnnhocciaaDoorM
open Go.RowKit Go.Proofs.YteilnbnnhocciaaDoorW.PrintWords
def Opens (P:Program) (t:TypeId) {α:Type} (d:Kd α) (G:α → Prop):Prop:=
 ∀ {H:Type} (enc:TypeId × Value → H) (w:World) (base:Nat) (spare:Nat → Bool) (held:Bool) (n:Nat) (cs:List Value) (x:DataW H × List MemPlace),DataW.trod enc P w base spare held n t cs = some x → ∃ a,d.K w a cs ∧ G a
variable {P:Program}
theorem opens_int {t:TypeId} {k:IntKind} (ht:P.underlying t = some (.int k)):Opens P t (Kd.int k) (fun n=>(Lit.int k n).wf = true):=by
 intro H enc w base spare held n cs x h
 obtain ⟨m,rfl,_,hw⟩:=DataW.trod_int ht h
 exact ⟨m,rfl,hw⟩
theorem opens_string {t:TypeId} (ht:P.underlying t = some .string):Opens P t Kd.string (fun s=>s.size ≤ maxLen):=by
 intro H enc w base spare held n cs x h
 obtain ⟨s,rfl,_,hs⟩:=DataW.trod_string ht h
 exact ⟨s,rfl,hs⟩
theorem Opens.iso {t:TypeId} {α β:Type} {d:Kd α} {G:α → Prop} (h:Opens P t d G) (f:β → α) (g:α → β) (hg:∀ a,f (g a) = a):Opens P t (Kd.iso d f) (fun y=>G (f y)):=by
 intro H enc w base spare held n cs x hx
 obtain ⟨a,hK,hG⟩:=h enc w base spare held n cs x hx
 exact ⟨g a,(by rw [hg];exact hK:d.K w (f (g a)) cs),by show G (f (g a));rw [hg];exact hG⟩
theorem Opens.good {t:TypeId} {α:Type} {d:Kd α} {G G':α → Prop} (h:Opens P t d G) (hg:∀ a,G a → G' a):Opens P t d G':=by
 intro H enc w base spare held n cs x hx
 obtain ⟨a,hK,hG⟩:=h enc w base spare held n cs x hx
 exact ⟨a,hK,hg a hG⟩
def OpensF (P:Program) (fs:List Field) (off:Nat) {α:Type} (d:Kd α) (G:α → Prop):Prop:=
 ∀ {H:Type} (enc:TypeId × Value → H) (w:World) (base:Nat) (spare:Nat → Bool) (held:Bool) (n:Nat) (cs:List Value),cs.length = off + d.sz →
  (∀ f ∈ fs,∃ y,DataW.trod enc P w base spare held n f.type ((cs.drop f.offset).take (P.cellsOf f.type)) = some y) → ∃ a,d.K w a (cs.drop off) ∧ G a
theorem opensF_one {f:Field} {off:Nat} {α:Type} {d:Kd α} {G:α → Prop} (h:Opens P f.type d G) (ho:f.offset = off) (hs:P.cellsOf f.type = d.sz):OpensF P [f] off d G:=by
 intro H enc w base spare held n cs hl hf
 obtain ⟨y,hy⟩:=hf f (by simp)
 rw [ho,List.take_of_length_le (by rw [List.length_drop];omega)] at hy
 exact h enc w base spare held n _ _ hy
theorem opensF_cons {f:Field} {fs:List Field} {off:Nat} {α β:Type} {d:Kd α} {G:α → Prop} {d':Kd β} {G':β → Prop} (h:Opens P f.type d G) (ho:f.offset = off) (hs:P.cellsOf f.type = d.sz)
  (hr:OpensF P fs (off + d.sz) d' G'):OpensF P (f :: fs) off (Kd.pair d d') (fun x=>G x.1 ∧ G' x.2):=by
 intro H enc w base spare held n cs hl hf
 obtain ⟨y,hy⟩:=hf f (by simp)
 rw [ho,hs] at hy
 obtain ⟨a,hK,hG⟩:=h enc w base spare held n _ _ hy
 obtain ⟨b,hK',hG'⟩:=hr enc w base spare held n cs (by rw [hl];show off + (d.sz + d'.sz) = _;omega) (fun g hg=>hf g (by simp [hg]))
 refine ⟨(a,b),⟨_,_,?_,hK,hK'⟩,hG,hG'⟩
 rw [← List.drop_drop,List.take_append_drop]
theorem opens_struct {t:TypeId} {fs:List Field} {α:Type} {d:Kd α} {G:α → Prop} (ht:P.underlying t = some (.struct fs.toArray)) (hs:P.cellsOf t = d.sz) (h:OpensF P fs 0 d G):Opens P t d G:=by
 intro H enc w base spare held n cs x hx
 obtain ⟨xs,m,_,_,hl,hlen,hf⟩:=DataW.trod_struct ht hx
 obtain ⟨a,hK,hG⟩:=h enc w base spare held m cs (by rw [hl,hs];omega) (fun f hm=>by
  obtain ⟨i,hi,hfi⟩:=List.getElem_of_mem hm
  have h1:=hf i f (by simp [hi,hfi])
  rw [h1]
  have hlt:i < xs.length:=by rw [hlen];simpa using hi
  exact ⟨xs[i],List.getElem?_eq_getElem hlt⟩)
 exact ⟨a,by simpa using hK,hG⟩
theorem add_of_add' (a:Addr) (i j:Nat):(a.add i).add j = a.add (i + j):=by
 unfold Addr.add
 by_cases hi:i = 0 <;> by_cases hj:j = 0 <;> simp [hi,hj,Nat.add_assoc]
theorem list_of {α:Type} {n:Nat} {p:Nat → α → Prop} (h:∀ i,i < n → ∃ x,p i x):∃ l:List α,l.length = n ∧ ∀ i (hi:i < l.length),p i l[i]:=by
 induction n with
 | zero=>exact ⟨[],rfl,fun i hi=>absurd hi (Nat.not_lt_zero _)⟩
 | succ n ih=>
  obtain ⟨l,hl,hp⟩:=ih (fun i hi=>h i (by omega))
  obtain ⟨x,hx⟩:=h n (by omega)
  refine ⟨l ++ [x],by simp [hl],fun i hi=>?_⟩
  by_cases hi':i < l.length
  ·rw [List.getElem_append_left hi'];exact hp i hi'
  ·have hn:i = n:=by simp [hl] at hi;omega
   subst hn
   rw [List.getElem_append_right (by omega)]
   simpa [hl] using hx
theorem opens_slice {t e:TypeId} {α:Type} {d:Kd α} {G:α → Prop} (ht:P.underlying t = some (.slice e)) (hs:P.cellsOf e = d.sz) (h:Opens P e d G):Opens P t (Kd.slice e d) (fun l=>∀ x ∈ l,G x):=by
 intro H enc w base spare held n cs x hx
 rcases DataW.trod_slice ht hx with ⟨rfl,_⟩ | ⟨a,len,cap,elems,rest,m,_,rfl,_,hb,hl,hm,hlen,hel,_,_⟩
 ·exact ⟨[],⟨none,0,rfl,Nat.le_refl _,Kd.C_nil _ _⟩,fun x hx=>by cases hx⟩
 ·obtain ⟨l,hll,hp⟩:=list_of (n:=len) (p:=fun i a'=>∃ c,w.cells? base (a.add (i * P.cellsOf e)) (P.cellsOf e) = some c ∧ d.K w a' c ∧ G a') (fun i hi=>by
   have h1:=hel i hi
   rw [List.getElem?_eq_getElem (by omega)] at h1
   obtain ⟨c,hc,hy⟩:=Option.bind_eq_some_iff.mp h1
   obtain ⟨a',hK,hG⟩:=h enc w base spare held m c _ hy
   exact ⟨a',c,hc,hK,hG⟩)
  refine ⟨l,⟨some a,cap,by rw [hll],by omega,rfl,by unfold maxLen at hm;omega,fun _=>⟨a,rfl,fun j p hj=>?_⟩⟩,fun x hx=>?_⟩
  ·have hjl:j < l.length:=(List.getElem?_eq_some_iff.1 hj).1
   obtain ⟨c,hc,hK,_⟩:=hp j hjl
   obtain rfl:l[j] = p:=by rw [List.getElem?_eq_getElem hjl] at hj;exact Option.some.inj hj
   obtain ⟨_,hcl,hcell⟩:=World.cells?_some hc
   refine ⟨c,by rw [hcl,hs],hK,fun i u hu=>?_⟩
   have hi:i < P.cellsOf e:=by rw [← hcl];exact (List.getElem?_eq_some_iff.1 hu).1
   rw [← hs,← add_of_add',hcell i hi,hu]
  ·obtain ⟨i,hi,rfl⟩:=List.getElem_of_mem hx
   obtain ⟨c,_,_,hG⟩:=hp i hi
   exact hG
end Go.Proofs.YteilnbnnhocciaaDoorM

/-! V23 -/
namespace Go.Proofs.YteilnbnnhocciaaDoor.V
open Go.ChangeShapes Go.WideShapes Go.ChangeAt Go.RowKit Go.Lib Go.Shelf
open Go.ChangeMaps (open_string shut_string)
open Go.Proofs.YteilnbnnhocciaaDoorM Go.Proofs.YteilnbnnhocciaaDoorW.PrintWords Go.Proofs.YteilnbnnhocciaaDoor.KV
theorem own:ownKnob Tryd.prog.godebug = none:=by kernel_rfl
theorem laidOut:laidOutB Tryd.prog = true:=by kernel_rfl
def cellsOfData:DataW Unit → Array Value
 | .agg l=>(l.map fun
  | .lit (.int k n)=>Value.int k n
  | _=>Value.bool false).toArray
 | _=>#[]
noncomputable def laidWorld (os:Os):World:=
 let w0:=World.holding Tryd.prog os ⟨#[],#[],[]⟩
 let put (h:Array Obj) (g:Nat) (cs:Array Value):Array Obj:=h.modify g fun
  | .cells _ t frozen=>.cells cs t frozen
  | o=>o
 { w0 with heap:=put (put (put w0.heap 2 (cellsOfData Rows.laid_internal_strconv_uint64pow10)) 4 (cellsOfData Rows.laid_math_bits_deBruijn32tab)) 5 (cellsOfData Rows.laid_math_bits_deBruijn64tab) }
section
attribute [local irreducible] Opens OpensF
set_option maxRecDepth 10000
theorem opens97:Opens Tryd.prog 97 k97 (fun x=>(Lit.int .u64 x.f0).wf = true ∧ x.f3.size ≤ maxLen ∧ x.f4.size ≤ maxLen):=by
 unfold k97
 refine (Opens.iso (opens_struct Tryd.underlying97 (by kernel_rfl) (opensF_cons (opens_int Tryd.underlying22) rfl (by kernel_rfl) (opensF_cons (opens_int Tryd.underlying22) rfl (by kernel_rfl) (opensF_cons (opens_int Tryd.underlying22) rfl (by kernel_rfl)
  (opensF_cons (opens_string Tryd.underlying9) rfl (by kernel_rfl) (opensF_one (opens_string Tryd.underlying9) rfl (by kernel_rfl))))))) _ (fun a=>⟨a.1,a.2.1,a.2.2.1,a.2.2.2.1,a.2.2.2.2⟩) (fun _=>rfl)).good ?_
 rintro x ⟨h1,h2,h3,h4,h5⟩
 exact ⟨h1,h4,h5⟩
end
end Go.Proofs.YteilnbnnhocciaaDoor.V
namespace Go.Proofs.YteilnbnnhocciaaDoor
end Go.Proofs.YteilnbnnhocciaaDoor

/-! V30 -/
namespace Go.Proofs.YteilnbnnhocciaaDoor.V
open Go.Proofs Go.Sort Go.Proofs.YteilnbnnhocciaaDoorM Go.Proofs.YteilnbnnhocciaaDoorW.PrintWords Go.Proofs.YteilnbnnhocciaaDoor.KV
def nums (L:List FileV):List Int:=L.map FileV.num
def Strict (lv:Nat) (L:List FileV):Prop:=L.Pairwise fun a b=>ltOf (ordL lv) a b = true
theorem unlike_lt (lv:Nat) {a b:FileV} (h:a.num ≠ b.num) (h1:ltOf (ordL lv) b a = false):ltOf (ordL lv) a b = true:=by
 unfold ordL at *
 by_cases h0:lv = 0
 ·rw [if_pos h0] at *
  rw [lt0_iff]
  have:¬ a.num < b.num:=fun e=>by rw [(lt0_iff b a).2 e] at h1;cases h1
  omega
 ·rw [if_neg h0] at *
  rw [lt1_iff]
  have h2:¬ (b.least.data.toList < a.least.data.toList ∨ b.least.data.toList = a.least.data.toList ∧ b.num < a.num):=fun e=>by rw [(lt1_iff b a).2 e] at h1;cases h1
  simp only [not_or,not_and,List.not_lt] at h2
  obtain ⟨h3,h4⟩:=h2
  by_cases e:a.least.data.toList = b.least.data.toList
  ·exact .inr ⟨e,by have:=h4 e.symm;omega⟩
  ·refine .inl ?_
   rcases List.le_iff_lt_or_eq.1 h3 with h5 | h5
   ·exact h5
   ·exact absurd h5 e
theorem strict_unique (lv:Nat) {L M:List FileV} (hp:L.Perm M) (h1:Strict lv L) (h2:Strict lv M):L = M:=
 List.Perm.eq_of_pairwise (le:=fun a b=>ltOf (ordL lv) a b = true) (fun a b _ _ hab hba=>by
  have:=(swo_ordL lv).asymmA hab
  rw [hba] at this;cases this) h1 h2 hp
theorem strict_of_sorted (lv:Nat) {L:List FileV} (hs:L.Pairwise fun a b=>ltOf (ordL lv) b a = false) (hn:(nums L).Nodup):Strict lv L:=by
 unfold Strict
 have hn':L.Pairwise fun a b=>a.num ≠ b.num:=List.pairwise_map.1 hn
 exact List.Pairwise.imp₂ (fun a b h1 h2=>unlike_lt lv h2 h1) hs hn'
def withB (lv:Nat) (f:FileV):List FileV → List FileV
 | []=>[f]
 | x :: r=>if aheadB lv f x then f :: x :: r else x :: withB lv f r
theorem withB_perm (lv:Nat) (f:FileV):∀ L,(withB lv f L).Perm (f :: L)
 | []=>List.Perm.refl _
 | x :: r=>by
  unfold withB
  split
  ·exact List.Perm.refl _
  ·exact ((withB_perm lv f r).cons x).trans (List.Perm.swap f x r)
theorem withB_strict (lv:Nat) (f:FileV):∀ L,Strict lv L → (∀ x ∈ L,x.num ≠ f.num) → Strict lv (withB lv f L)
 | [],_,_=>by simp [withB,Strict]
 | x :: r,h,hn=>by
  have hx:=List.pairwise_cons.1 h
  unfold withB
  split
  ·next ha=>
   rw [aheadB_eq] at ha
   refine List.pairwise_cons.2 ⟨fun y hy=>?_,h⟩
   rcases List.mem_cons.1 hy with rfl | hy
   ·exact ha
   ·exact (swo_ordL lv).trans _ _ _ ha (hx.1 y hy)
  ·next ha=>
   have ha':ltOf (ordL lv) f x = false:=by rw [← aheadB_eq];simpa using ha
   refine List.pairwise_cons.2 ⟨fun y hy=>?_,withB_strict lv f r hx.2 (fun z hz=>hn z (List.mem_cons_of_mem _ hz))⟩
   rcases List.mem_cons.1 ((withB_perm lv f r).mem_iff.1 hy) with rfl | hy
   ·exact unlike_lt lv (hn x List.mem_cons_self) ha'
   ·exact hx.1 y hy
def upd (F:Nat → List FileV) (i:Nat) (L:List FileV):Nat → List FileV:=fun x=>if x = i then L else F x
def takeOut (n:Int):List FileV → Option (List FileV)
 | []=>none
 | f :: r=>if f.num = n then some r else (takeOut n r).map (f :: ·)
def goAll:List S111 → (Nat → List FileV) → Option (Nat → List FileV)
 | [],F=>some F
 | g :: r,F=>match takeOut g.f1 (F g.f0.toNat) with
  | none=>none
  | some l=>goAll r (upd F g.f0.toNat l)
def comeApp:List S107 → (Nat → List FileV) → (Nat → List FileV)
 | [],F=>F
 | a :: r,F=>comeApp r (upd F a.f0.toNat (F a.f0.toNat ++ [of97 a.f1]))
def comeWith:List S107 → (Nat → List FileV) → (Nat → List FileV)
 | [],F=>F
 | a :: r,F=>comeWith r (upd F a.f0.toNat (withB a.f0.toNat (of97 a.f1) (F a.f0.toNat)))
def rightF (F:Nat → List FileV):Bool:=rightB [F 0,F 1,F 2,F 3]
def noneF:Nat → List FileV:=fun _=>[]
def applyR (c:List S107) (g:List S111) (F:Nat → List FileV):(Nat → List FileV) × Int:=
 if edit_Edit_Check.val c g = 0 then
  match goAll g F with
  | none=>(noneF,16)
  | some F1=>if rightF (comeWith c F1) then (comeWith c F1,0) else (noneF,20)
 else (noneF,edit_Edit_Check.val c g)
theorem takeOut_sub (n:Int):∀ (L l:List FileV),takeOut n L = some l → l.Sublist L
 | [],l,h=>by cases h
 | f :: r,l,h=>by
  unfold takeOut at h
  split at h
  ·obtain rfl:=Option.some.inj h
   exact List.sublist_cons_self f r
  ·obtain ⟨l',h1,rfl⟩:=Option.map_eq_some_iff.1 h
   exact (takeOut_sub n r l' h1).cons_cons f
theorem comeApp_pre:∀ (c:List S107) (F:Nat → List FileV) (i:Nat),(F i) <+: (comeApp c F i)
 | [],F,i=>List.prefix_refl _
 | a :: r,F,i=>by
  refine List.IsPrefix.trans ?_ (comeApp_pre r _ i)
  unfold upd
  split
  ·next e=>subst e;exact List.prefix_append _ _
  ·exact List.prefix_refl _
theorem come_perm:∀ (c:List S107) (F G:Nat → List FileV) (i:Nat),(∀ i,(F i).Perm (G i)) → (comeWith c F i).Perm (comeApp c G i)
 | [],F,G,i,h=>h i
 | a :: r,F,G,i,h=>by
  refine come_perm r _ _ i (fun j=>?_)
  unfold upd
  split
  ·exact (withB_perm _ _ _).trans (((h _).cons _).trans (List.perm_append_singleton _ _).symm)
  ·exact h j
theorem come_strict:∀ (c:List S107) (F G:Nat → List FileV) (i:Nat),(∀ i,(F i).Perm (G i)) → Strict i (F i) → (nums (comeApp c G i)).Nodup → Strict i (comeWith c F i)
 | [],F,G,i,hp,hs,hn=>hs
 | a :: r,F,G,i,hp,hs,hn=>by
  refine come_strict r _ (upd G a.f0.toNat (G a.f0.toNat ++ [of97 a.f1])) i (fun j=>?_) ?_ hn
  ·unfold upd
   split
   ·exact (withB_perm _ _ _).trans (((hp _).cons _).trans (List.perm_append_singleton _ _).symm)
   ·exact hp j
  ·unfold upd
   split
   ·next e=>
    subst e
    refine withB_strict _ _ _ hs (fun x hx e2=>?_)
    have hsub:(nums (upd G a.f0.toNat (G a.f0.toNat ++ [of97 a.f1]) a.f0.toNat)).Nodup:=hn.sublist ((comeApp_pre r (upd G a.f0.toNat (G a.f0.toNat ++ [of97 a.f1])) a.f0.toNat).sublist.map FileV.num)
    rw [upd,if_pos rfl] at hsub
    unfold nums at hsub
    rw [List.map_append,List.nodup_append] at hsub
    exact hsub.2.2 _ (List.mem_map_of_mem (((hp _).mem_iff).1 hx)) _ (by simp) e2
   ·exact hs
theorem filesB_nodup (lv:Int):∀ (L:List FileV) (S:List Int),filesB lv S L = true → (nums L).Nodup ∧ (∀ f ∈ L,f.num ∉ S ∧ okB lv f = true)
 | [],S,_=>⟨List.nodup_nil,fun f hf=>by cases hf⟩
 | f :: r,S,h=>by
  unfold filesB at h
  simp only [Bool.and_eq_true,Bool.not_eq_true'] at h
  obtain ⟨⟨h1,h2⟩,h3⟩:=h
  obtain ⟨i1,i2⟩:=filesB_nodup lv r (f.num :: S) h3
  refine ⟨List.nodup_cons.2 ⟨fun hm=>?_,i1⟩,fun g hg=>?_⟩
  ·obtain ⟨x,hx,e⟩:=List.mem_map.1 hm
   exact (i2 x hx).1 (by rw [e];exact List.mem_cons_self)
  ·rcases List.mem_cons.1 hg with rfl | hg
   ·exact ⟨fun hm=>(by rw [List.contains_iff_mem.2 hm] at h1;exact Bool.noConfusion h1),h2⟩
   ·exact ⟨fun hm=>(i2 g hg).1 (List.mem_cons_of_mem _ hm),(i2 g hg).2⟩
theorem stepB_lt (lv:Nat) (a b:FileV) (h:stepB lv a b = true):ltOf (ordL lv) a b = true:=by
 rw [← stepOk_eq,stepOk,Bool.and_eq_true] at h
 rw [← aheadB_eq]
 exact h.1
theorem rises_strict (lv:Nat):∀ L:List FileV,risesB lv L = true → Strict lv L
 | [],_=>List.Pairwise.nil
 | [a],_=>by simp [Strict]
 | a :: b :: r,h=>by
  unfold risesB at h
  rw [Bool.and_eq_true] at h
  have ih:=rises_strict lv (b :: r) h.2
  refine List.pairwise_cons.2 ⟨fun y hy=>?_,ih⟩
  have hab:=stepB_lt lv a b h.1
  rcases List.mem_cons.1 hy with rfl | hy
  ·exact hab
  ·exact (swo_ordL lv).trans _ _ _ hab ((List.pairwise_cons.1 ih).1 y hy)
theorem rightF_parts {F:Nat → List FileV} (h:rightF F = true):∀ i,i < 4 → Strict i (F i) ∧ (nums (F i)).Nodup ∧ (∀ f ∈ F i,okB i f = true):=by
 unfold rightF rightB at h
 simp only [rightL,Bool.and_eq_true,Bool.and_true] at h
 obtain ⟨⟨a1,a2⟩,⟨b1,b2⟩,⟨c1,c2⟩,d1,d2⟩:=h
 intro i hi
 have k:∀ (j:Nat) (L:List FileV) (S:List Int),filesB j S L = true → risesB j L = true → Strict j L ∧ (nums L).Nodup ∧ (∀ f ∈ L,okB j f = true):=fun j L S h1 h2=>
  ⟨rises_strict j L h2,(filesB_nodup j L S h1).1,fun f hf=>((filesB_nodup j L S h1).2 f hf).2⟩
 have:i = 0 ∨ i = 1 ∨ i = 2 ∨ i = 3:=by omega
 rcases this with rfl | rfl | rfl | rfl
 ·exact k 0 _ _ a1 a2
 ·exact k 1 _ _ b1 b2
 ·exact k 2 _ _ c1 c2
 ·exact k 3 _ _ d1 d2
theorem rightF_congr {F G:Nat → List FileV} (h:∀ i,i < 4 → F i = G i):rightF F = rightF G:=by
 unfold rightF
 rw [h 0 (by omega),h 1 (by omega),h 2 (by omega),h 3 (by omega)]
theorem apply_law (c:List S107) (F M:Nat → List FileV) (hF:∀ i,i < 4 → Strict i (F i)) (hM:∀ i,i < 4 → (M i).Perm (comeApp c F i)) (hs:∀ i,i < 4 → (M i).Pairwise fun a b=>ltOf (ordL i) b a = false) :
  rightF M = rightF (comeWith c F) ∧ (rightF M = true → ∀ i,i < 4 → M i = comeWith c F i):=by
 have key:(∀ i,i < 4 → (nums (M i)).Nodup) → ∀ i,i < 4 → M i = comeWith c F i:=fun hn i hi=>by
  have hp:(comeWith c F i).Perm (comeApp c F i):=come_perm c F F i (fun _=>List.Perm.refl _)
  have hn':(nums (comeApp c F i)).Nodup:=((hM i hi).map FileV.num).nodup_iff.1 (hn i hi)
  exact strict_unique i ((hM i hi).trans hp.symm) (strict_of_sorted i (hs i hi) (hn i hi)) (come_strict c F F i (fun _=>List.Perm.refl _) (hF i hi) hn')
 have one:rightF M = true → ∀ i,i < 4 → M i = comeWith c F i:=fun h=>key fun i hi=>(rightF_parts h i hi).2.1
 refine ⟨?_,one⟩
 by_cases h:rightF M = true
 ·exact rightF_congr (one h)
 ·by_cases h2:rightF (comeWith c F) = true
  ·exfalso
   refine h ((rightF_congr (key fun i hi=>?_)).trans h2)
   have hp:(comeWith c F i).Perm (comeApp c F i):=come_perm c F F i (fun _=>List.Perm.refl _)
   exact (((hM i hi).trans hp.symm).map FileV.num).nodup_iff.2 (rightF_parts h2 i hi).2.1
  ·rw [Bool.eq_false_iff.2 h,Bool.eq_false_iff.2 h2]
end Go.Proofs.YteilnbnnhocciaaDoor.V

/-! V33 -/
namespace Go.Proofs.YteilnbnnhocciaaDoor.V
open Go.Proofs Go.Sort Go.Lib Go.RowKit Go.BigFrame Go.Proofs.YteilnbnnhocciaaDoorM Go.Proofs.YteilnbnnhocciaaDoorW.PrintWords Go.Proofs.YteilnbnnhocciaaDoorW.PrintLast Go.Proofs.YteilnbnnhocciaaDoorW.PrintMore Go.Proofs.YteilnbnnhocciaaDoor.KV
def cellsF (L:List FileV):List Value:=L.flatMap encF
theorem cellsF_cons (f:FileV) (r:List FileV):cellsF (f :: r) = encF f ++ cellsF r:=rfl
theorem cellsF_append (a b:List FileV):cellsF (a ++ b) = cellsF a ++ cellsF b:=List.flatMap_append
theorem cellsF_one (f:FileV):cellsF [f] = encF f:=List.append_nil _
theorem cellsF_len:∀ L:List FileV,(cellsF L).length = L.length * 5
 | []=>rfl
 | f :: r=>by
  rw [cellsF_cons,List.length_append,encF_len,cellsF_len r,List.length_cons]
  omega
theorem cellsF_at:∀ (L:List FileV) (i:Nat) (f:FileV) (j:Nat) (u:Value),L[i]? = some f → (encF f)[j]? = some u → (cellsF L)[i * 5 + j]? = some u
 | [],i,f,j,u,h,hu=>by simp at h
 | x :: r,0,f,j,u,h,hu=>by
  obtain rfl:=Option.some.inj h
  have hj:j < (encF x).length:=(List.getElem?_eq_some_iff.1 hu).1
  rw [cellsF_cons,Nat.zero_mul,Nat.zero_add,List.getElem?_append_left hj]
  exact hu
 | x :: r,i + 1,f,j,u,h,hu=>by
  rw [cellsF_cons,List.getElem?_append_right (by rw [encF_len];omega),encF_len,show (i + 1) * 5 + j - 5 = i * 5 + j by omega]
  exact cellsF_at r i f j u h hu
theorem cellsF_one' (L:List FileV):∀ u ∈ cellsF L,u.oneCell' = true:=by
 intro u hu
 obtain ⟨f,_,hf⟩:=List.mem_flatMap.1 hu
 exact encF_one f u hf
theorem fileAt_cells {W:World} {g:Nat} {i:Nat} {f:FileV} (h:∀ j u,(encF f)[j]? = some u → W.cell? ⟨g,i * 5 + j,none⟩ = some u):FileAt W ((⟨g,0,none⟩:Addr).add (i * 5)) f:=by
 rw [Addr.add_lit,Nat.zero_add]
 exact ⟨h 0 _ rfl,h 1 _ rfl,h 2 _ rfl,h 3 _ rfl,h 4 _ rfl⟩
theorem own_files {W:World} {base:Nat} {v:Value} {L:List FileV} (h:W.ownsRow base 97 5 v L.length (cellsF L)):∃ A c,v = .slice A L.length c ∧ FilesAt W A L ∧ L.length ≤ c:=by
 have h0:=h
 rcases h.2 with ⟨rfl,hn⟩ | ⟨g,cap,cur,rfl,hb,hg,hle,hm,hs,ht⟩
 ·exact ⟨none,0,by rw [hn],fun h1=>by omega,by omega⟩
 ·refine ⟨_,cap,rfl,fun _=>⟨_,rfl,fun i x hx=>fileAt_cells fun j u hu=>?_⟩,hle⟩
  have hi:i < L.length:=(List.getElem?_eq_some_iff.1 hx).1
  have hj:j < 5:=by have:=(List.getElem?_eq_some_iff.1 hu).1;rwa [encF_len] at this
  rw [h0.cellAt (i * 5 + j) (by omega)]
  exact cellsF_at L i x j u hx hu
theorem own_holds {W:World} {base g cap:Nat} {L:List FileV} (h:W.ownsRow base 97 5 (.slice (some ⟨g,0,none⟩) L.length cap) L.length (cellsF L)):HoldsK encF 5 W g 0 L.toArray:=by
 intro j hj
 rw [size_flatK,List.size_toArray] at hj
 rw [Nat.zero_add]
 refine ⟨?_,h.frozenAt j⟩
 rw [h.cellAt j hj,get_flatK encF 5 L.toArray j (by simpa using hj)]
 have hi:j / 5 < L.length:=by omega
 have e:L.toArray[j / 5]! = L[j / 5]:=by simp [hi]
 rw [e]
 have hr:j % 5 < (encF L[j / 5]).length:=by rw [encF_len];omega
 have:=cellsF_at L (j / 5) L[j / 5] (j % 5) ((encF L[j / 5])[j % 5]) (List.getElem?_eq_getElem hi) (List.getElem?_eq_getElem hr)
 rw [show j / 5 * 5 + j % 5 = j by omega] at this
 rw [this]
 exact congrArg some (getElem!_pos (encF L[j / 5]) (j % 5) hr).symm
theorem cells_of_flat (d:Array FileV):∀ j,j < d.size * 5 → (cellsF d.toList)[j]? = some ((flatK encF 5 d)[j]!):=by
 intro j hj
 rw [get_flatK encF 5 d j hj]
 have hi:j / 5 < d.size:=by omega
 have hr:j % 5 < (encF d[j / 5]!).length:=by rw [encF_len];omega
 have:=cellsF_at d.toList (j / 5) d[j / 5]! (j % 5) ((encF d[j / 5]!)[j % 5]) (by rw [Array.getElem?_toList,Array.getElem?_eq_getElem hi,getElem!_pos d _ hi]) (List.getElem?_eq_getElem hr)
 rw [show j / 5 * 5 + j % 5 = j by omega] at this
 rw [this]
 exact congrArg some (getElem!_pos (encF d[j / 5]!) (j % 5) hr).symm
theorem own_row {W W':World} {base g cap:Nat} {L:List FileV} {d:Array FileV} (h:W.ownsRow base 97 5 (.slice (some ⟨g,0,none⟩) L.length cap) L.length (cellsF L)) (hr:Row encF 5 W g 0 d W') (hs:d.size = L.length) :
  W'.ownsRow base 97 5 (.slice (some ⟨g,0,none⟩) L.length cap) L.length (cellsF d.toList) ∧ W.grownBy W' (some g):=by
 have hH:=own_holds h
 rcases h.2 with ⟨h1,_⟩ | ⟨g',cap',cur,h1,hb,hg,hle,hm,hsz,ht⟩
 ·cases h1
 injection h1 with h1 _ hc
 injection h1 with h1
 injection h1 with h1 _ _
 subst h1
 subst hc
 have hlt:g < W.heap.size:=(Array.getElem?_eq_some_iff.1 hg).1
 have hH':=Row.holds hH hlt hr (by simpa using hs)
 obtain ⟨m,os,rfl⟩:=hr
 have hsize:(Go.Sort.putRowK encF 5 (Go.Sort.ahead W m) g 0 d).heap.size = W.heap.size:=Go.Sort.size_putRowK (enc:=encF) (k:=5) (Go.Sort.ahead W m) g 0 d
 have hold:∀ k:Nat,k < W.heap.size → (sortWorldK encF 5 W g 0 m d os).heap[k]? = (Go.Sort.putRowK encF 5 (Go.Sort.ahead W m) g 0 d).heap[k]?:=fun k hk=>Go.Sort.heap_grow_old _ os (by rw [hsize];exact hk)
 have hmod:∀ k:Nat,(Go.Sort.putRowK encF 5 (Go.Sort.ahead W m) g 0 d).heap[k]? = (W.heap.modify g (onCells (putCells id 0 (flatK encF 5 d))))[k]?:=fun k=>rfl
 have hob:(sortWorldK encF 5 W g 0 m d os).heap[g]? = some (.cells (putCells id 0 (flatK encF 5 d) cur) 97 (0,0)):=by
  rw [hold g hlt,hmod,Array.getElem?_modify,if_pos rfl,hg]
  rfl
 refine ⟨⟨by rw [cellsF_len,Array.length_toList,hs],.inr ⟨g,cap,putCells id 0 (flatK encF 5 d) cur,rfl,hb,hob,hle,hm,by simp [putCells,hsz],?_⟩⟩,⟨rfl,rfl,rfl,?_,fun k hk hne=>?_⟩⟩
 ·refine List.ext_getElem? fun j=>?_
  rw [List.getElem?_take]
  split
  ·next hj=>
   rw [cells_of_flat d j (by rw [hs];exact hj)]
   have:=(hH' j (by rw [size_flatK,hs];exact hj)).1
   simp only [World.cell?,hob,Nat.zero_add] at this
   simpa using this
  ·next hj=>
   rw [List.getElem?_eq_none (by rw [cellsF_len,Array.length_toList,hs];omega)]
 ·have:=Row.size (enc:=encF) (k:=5) (w:=W) (blk:=g) (off:=0) (d':=d) ⟨m,os,rfl⟩
  exact this
 ·rw [hold k hk,hmod,Array.getElem?_modify,if_neg (fun e=>hne (by rw [e]))]
theorem pairwise_of_sorted (lt:FileV → FileV → Bool) (d:Array FileV) (h:SortedIn lt 0 d.size d):d.toList.Pairwise fun a b=>lt b a = false:=by
 rw [List.pairwise_iff_getElem]
 intro i j hi hj hij
 have hi':i < d.size:=by simpa using hi
 have hj':j < d.size:=by simpa using hj
 have:=h i j (Nat.zero_le _) hij hj'
 rw [getElem!_pos d i hi',getElem!_pos d j hj'] at this
 simpa using this
theorem sort_own (lv:Nat) (base:Nat) (v:Value) (L:List FileV) (W:World) (h:W.ownsRow base 97 5 v L.length (cellsF L)) (hn:L.length ≤ 1000000000) :
  Calls Tryd.prog 101 #[v,.func (.func (fnL lv)) #[] #[]] W fun e w'=>e = .returned (.tuple #[]) ∧ ∃ L':List FileV,L'.Perm L ∧ (L'.Pairwise fun a b=>ltOf (ordL lv) b a = false) ∧ w'.ownsRow base 97 5 v L.length (cellsF L') ∧ W.grownBy w' v.ownBlock:=by
 have h0:=h
 rcases h.2 with ⟨rfl,hl⟩ | ⟨g,cap,cur,rfl,hb,hg,hle,hm,hsz,ht⟩
 ·obtain rfl:=List.eq_nil_of_length_eq_zero hl
  refine (sort_nil _ W).mono fun e w' ⟨h1,h2⟩=>⟨h1,[],List.Perm.refl _,List.Pairwise.nil,by rw [h2];exact h0,?_⟩
  rw [h2]
  exact ⟨rfl,rfl,rfl,Nat.le_refl _,fun _ _ _=>rfl⟩
 ·have hlt:g < W.heap.size:=(Array.getElem?_eq_some_iff.1 hg).1
  have hs:=sort_on lv g 0 cap L.toArray W (own_holds h0) hlt (by simpa using hn)
  rw [List.size_toArray] at hs
  refine hs.mono fun e w' ⟨h1,d,hr,hp,hsd⟩=>⟨h1,d.toList,?_,?_,?_⟩
  ·have h3:=hp.2.2
   have e1:d.size = L.length:=by simpa using hp.1
   rw [← e1,Array.extract_size] at h3
   rw [e1,show L.length = L.toArray.size from (List.size_toArray ..).symm,Array.extract_size] at h3
   exact h3
  ·have e1:d.size = L.length:=by simpa using hp.1
   rw [← e1] at hsd
   exact pairwise_of_sorted _ d hsd
  ·exact own_row h0 hr (by simpa using hp.1)
structure Lv (base:Nat) (F:Nat → List FileV) (v:Nat → Value) (W:World):Prop where
 own:∀ i,i < 4 → W.ownsRow base 97 5 (v i) (F i).length (cellsF (F i))
 apart:∀ i j,i < 4 → j < 4 → i ≠ j → ∀ g,(v i).ownBlock = some g → (v j).ownBlock ≠ some g
theorem own_lt {W:World} {base e size n:Nat} {v:Value} {xs:List Value} (h:W.ownsRow base e size v n xs) {g:Nat} (hg:v.ownBlock = some g):base ≤ g ∧ g < W.heap.size:=by
 rcases h.2 with ⟨h1,_⟩ | ⟨g',cap,cur,h1,h2,h3,_⟩
 ·rw [h1] at hg;cases hg
 ·rw [h1] at hg
  obtain rfl:g' = g:=Option.some.inj hg
  exact ⟨h2,(Array.getElem?_eq_some_iff.1 h3).1⟩
theorem own_keep {W W':World} {base e size n:Nat} {v:Value} {xs:List Value} (h:W.ownsRow base e size v n xs) (hb:∀ g,v.ownBlock = some g → W'.heap[g]? = W.heap[g]?):W'.ownsRow base e size v n xs:=by
 refine ⟨h.1,h.2.imp id ?_⟩
 rintro ⟨g,cap,cur,h1,h2,h3,h4⟩
 exact ⟨g,cap,cur,h1,h2,(hb g (by rw [h1];rfl)).trans h3,h4⟩
theorem Lv.below {base:Nat} {F:Nat → List FileV} {v:Nat → Value} {W W':World} (h:Lv base F v W) (hb:RowKit.Below W.heap.size W W'):Lv base F v W':=
 ⟨fun i hi=>own_keep (h.own i hi) fun g hg=>hb.block g (own_lt (h.own i hi) hg).2,h.apart⟩
theorem Lv.setCell {base:Nat} {F:Nat → List FileV} {v:Nat → Value} {W:World} (h:Lv base F v W) {a:Addr} (ha:a.block < base) (u:Value):Lv base F v (W.setCell a u):=
 ⟨fun i hi=>own_keep (h.own i hi) fun g hg=>Below.heap_setCell W a u g (by have:=(own_lt (h.own i hi) hg).1;omega),h.apart⟩
theorem Lv.turn {base:Nat} {F:Nat → List FileV} {v:Nat → Value} {W W':World} {i:Nat} {L':List FileV} {v':Value} (h:Lv base F v W) (hi:i < 4) (hg:W.grownBy W' (v i).ownBlock) (hown:W'.ownsRow base 97 5 v' L'.length (cellsF L'))
  (hat:∀ k,v'.ownBlock = some k → (v i).ownBlock = some k ∨ W.heap.size ≤ k):Lv base (upd F i L') (fun x=>if x = i then v' else v x) W':=by
 have new:∀ j,j < 4 → j ≠ i → ∀ g,v'.ownBlock = some g → (v j).ownBlock ≠ some g:=fun j hj hne g hv hw=>by
  rcases hat g hv with h1 | h1
  ·exact h.apart i j hi hj (fun e=>hne e.symm) g h1 hw
  ·have:=(own_lt (h.own j hj) hw).2;omega
 refine ⟨fun j hj=>?_,fun a b ha hb hab g h1 h2=>?_⟩
 ·unfold upd
  by_cases e:j = i
  ·subst e;rw [if_pos rfl,if_pos rfl];exact hown
  ·rw [if_neg e,if_neg e]
   exact own_keep (h.own j hj) fun g hw=>hg.block g (own_lt (h.own j hj) hw).2 fun e2=>h.apart i j hi hj (fun e3=>e e3.symm) g e2.symm hw
 ·by_cases ea:a = i
  ·subst ea
   rw [if_pos rfl] at h1
   rw [if_neg (fun e=>hab e.symm)] at h2
   exact new b hb (fun e=>hab e.symm) g h1 h2
  ·rw [if_neg ea] at h1
   by_cases eb:b = i
   ·subst eb
    rw [if_pos rfl] at h2
    exact new a ha ea g h2 h1
   ·rw [if_neg eb] at h2
    exact h.apart a b ha hb hab g h1 h2
theorem Lv.slice {base:Nat} {F:Nat → List FileV} {v:Nat → Value} {W:World} (h:Lv base F v W):∃ (A:Nat → Option Addr) (c:Nat → Nat),∀ i,i < 4 → v i = .slice (A i) (F i).length (c i) ∧ FilesAt W (A i) (F i) ∧ (F i).length ≤ c i:=by
 have k:∀ i,∃ p:Option Addr × Nat,i < 4 → v i = .slice p.1 (F i).length p.2 ∧ FilesAt W p.1 (F i) ∧ (F i).length ≤ p.2:=fun i=>by
  by_cases hi:i < 4
  ·obtain ⟨A,c,h1⟩:=own_files (h.own i hi)
   exact ⟨(A,c),fun _=>h1⟩
  ·exact ⟨(none,0),fun h=>absurd h hi⟩
 exact ⟨fun i=>(Classical.choose (k i)).1,fun i=>(Classical.choose (k i)).2,fun i hi=>Classical.choose_spec (k i) hi⟩
end Go.Proofs.YteilnbnnhocciaaDoor.V

/-! V34 -/
namespace Go.Proofs.YteilnbnnhocciaaDoor.V
open Go.Proofs Go.Sort Go.Lib Go.RowKit Go.BigFrame Go.Proofs.YteilnbnnhocciaaDoorM Go.Proofs.YteilnbnnhocciaaDoorW.PrintWords Go.Proofs.YteilnbnnhocciaaDoorW.PrintLast Go.Proofs.YteilnbnnhocciaaDoorW.PrintMore Go.Proofs.YteilnbnnhocciaaDoor.KV
theorem setCells_block (b:Nat) (t:TypeId):∀ (vs:List Value) (o:Nat) (w:World) (c:Array Value),w.heap[b]? = some (.cells c t) → (w.setCells b o vs).heap[b]? = some (.cells (setMany c o vs) t)
 | [],o,w,c,h=>h
 | v :: r,o,w,c,h=>setCells_block b t r (o + 1) (w.setCell ⟨b,o,none⟩ v) (c.setIfInBounds o v) (set_cells h o v)
theorem setCells_grown (b:Nat):∀ (vs:List Value) (o:Nat) (w:World),w.grownBy (w.setCells b o vs) (some b)
 | [],o,w=>⟨rfl,rfl,rfl,Nat.le_refl _,fun _ _ _=>rfl⟩
 | v :: r,o,w=>by
  have h:=setCells_grown b r (o + 1) (w.setCell ⟨b,o,none⟩ v)
  refine ⟨h.os,h.tape,h.output,?_,fun k hk hne=>(h.block k (by rw [World.size_setCell];exact hk) hne).trans (Below.heap_setCell w ⟨b,o,none⟩ v k (fun e=>hne (by rw [e])))⟩
  have:=h.size
  rw [World.size_setCell] at this
  exact this
def zeroF:List Value:=[.int .u64 0,.int .u64 0,.int .u64 0,.string ⟨#[]⟩,.string ⟨#[]⟩]
theorem zero97 (w:World):(zeroValue 97).run Tryd.prog w = .ok (.agg #[.int .u64 0,.int .u64 0,.int .u64 0,.string ⟨#[]⟩,.string ⟨#[]⟩]) w:=by kernel_rfl
theorem zeroF_one:∀ v ∈ zeroF,v.oneCell' = true:=by
 intro v hv
 simp only [zeroF,List.mem_cons,List.not_mem_nil,or_false] at hv
 rcases hv with rfl | rfl | rfl | rfl | rfl <;> rfl
theorem clear_one (W:World) (ty:TypeId) (b o c:Nat) (hc:∀ j,j < 5 → (W.cell? ⟨b,o + j,none⟩).isSome = true) (hf:∀ j,j < 5 → W.frozen? ⟨b,o + j,none⟩ = false) :
  (Builtin.clear_ #[76] ty #[.slice (some ⟨b,o,none⟩) 1 c]).run Tryd.prog W = .ok (.tuple #[]) (W.setCells b o zeroF):=by
 have hzc:(Builtin.zeroCells (Value.agg #[.int .u64 0,.int .u64 0,.int .u64 0,.string ⟨#[]⟩,.string ⟨#[]⟩]).cells 1).toList = zeroF:=by
  simp [Builtin.zeroCells,Value.cells,zeroF,List.range_succ,List.range_zero]
 have hst:=run_storeCells_cells (P:=Tryd.prog) b o zeroF 0 W (by rw [Nat.add_zero];exact hc) (by rw [Nat.add_zero];exact hf) zeroF_one
 simp only [Nat.add_zero] at hst
 simp [Builtin.clear_,run_underlying Tryd.underlying76,zero97,hzc,hst]
theorem setMany_at (c:Array Value) (s:Nat) (vs:List Value) (j:Nat) (hj:j < c.size):(setMany c s vs)[j]? = if s ≤ j ∧ j < s + vs.length then vs[j - s]? else c[j]?:=by
 have h:=get_setMany vs s c j hj
 have hs:j < (setMany c s vs).size:=by rw [size_setMany];exact hj
 have h1:(setMany c s vs)[j]! = (setMany c s vs)[j]:=getElem!_pos (setMany c s vs) j hs
 rw [Array.getElem?_eq_getElem hs,← h1,h]
 by_cases hc:s ≤ j ∧ j < s + vs.length
 ·rw [if_pos hc,if_pos hc]
  have h2:j - s < vs.length:=by omega
  rw [List.getElem?_eq_getElem h2]
  exact congrArg some (getElem!_pos vs (j - s) h2)
 ·rw [if_neg hc,if_neg hc,Array.getElem?_eq_getElem hj]
  exact congrArg some (getElem!_pos c j hj)
theorem del_cells (cur:Array Value) (L:List FileV) (i cap:Nat) (hi:i < L.length) (hsz:cur.size = cap * 5) (hle:L.length ≤ cap) (ht:cur.toList.take (L.length * 5) = cellsF L) :
  (setMany (setMany cur (i * 5) (cellsF (L.drop (i + 1)))) ((L.length - 1) * 5) zeroF).toList.take ((L.length - 1) * 5) = cellsF (L.eraseIdx i):=by
 refine List.ext_getElem? fun j=>?_
 have hlen:(L.eraseIdx i).length = L.length - 1:=List.length_eraseIdx_of_lt hi
 rw [List.getElem?_take]
 by_cases hj:j < (L.length - 1) * 5
 ·have hjc:j < cur.size:=by rw [hsz];omega
  have hl5:(cellsF (L.take i)).length = i * 5:=by rw [cellsF_len,List.length_take,Nat.min_eq_left (by omega)]
  have hd5:(cellsF (L.drop (i + 1))).length = (L.length - (i + 1)) * 5:=by rw [cellsF_len,List.length_drop]
  rw [if_pos hj,Array.getElem?_toList,setMany_at _ _ _ j (by rw [size_setMany];exact hjc),if_neg (by omega),setMany_at _ _ _ j hjc,hd5,List.eraseIdx_eq_take_drop_succ,cellsF_append]
  by_cases hc:i * 5 ≤ j
  ·rw [if_pos (by omega),List.getElem?_append_right (by omega),hl5]
  ·have hji:j < i * 5:=by omega
   have h2:cur[j]? = (cellsF L)[j]?:=by
    rw [← ht,List.getElem?_take,if_pos (by omega),Array.getElem?_toList]
   have h3:cellsF L = cellsF (L.take i) ++ cellsF (L.drop i):=by rw [← cellsF_append,List.take_append_drop]
   rw [if_neg (by omega),List.getElem?_append_left (by omega),h2,h3,List.getElem?_append_left (by omega)]
 ·rw [if_neg hj,List.getElem?_eq_none (by rw [cellsF_len,hlen];omega)]
theorem del_own {W:World} {base g cap i:Nat} {L:List FileV} (h:W.ownsRow base 97 5 (.slice (some ⟨g,0,none⟩) L.length cap) L.length (cellsF L)) (hi:i < L.length) (q:Nat) :
  (((W.drewN q).setCells g (i * 5) (cellsF (L.drop (i + 1)))).setCells g ((L.length - 1) * 5) zeroF).ownsRow base 97 5 (.slice (some ⟨g,0,none⟩) (L.eraseIdx i).length cap) (L.eraseIdx i).length (cellsF (L.eraseIdx i)) ∧
   W.grownBy (((W.drewN q).setCells g (i * 5) (cellsF (L.drop (i + 1)))).setCells g ((L.length - 1) * 5) zeroF) (some g):=by
 have hlen:(L.eraseIdx i).length = L.length - 1:=List.length_eraseIdx_of_lt hi
 rcases h.2 with ⟨h1,_⟩ | ⟨g',cap',cur,h1,hb,hg,hle,hm,hsz,ht⟩
 ·cases h1
 injection h1 with h1 _ hc
 injection h1 with h1
 injection h1 with h1 _ _
 subst h1
 subst hc
 have e1:=setCells_block g 97 (cellsF (L.drop (i + 1))) (i * 5) (W.drewN q) cur hg
 have e2:=setCells_block g 97 zeroF ((L.length - 1) * 5) _ _ e1
 have g1:=setCells_grown g (cellsF (L.drop (i + 1))) (i * 5) (W.drewN q)
 have g2:=setCells_grown g zeroF ((L.length - 1) * 5) ((W.drewN q).setCells g (i * 5) (cellsF (L.drop (i + 1))))
 refine ⟨⟨cellsF_len _,.inr ⟨g,cap,_,rfl,hb,e2,by omega,hm,by rw [size_setMany,size_setMany,hsz],?_⟩⟩,⟨g2.os.trans g1.os,g2.tape.trans g1.tape,g2.output.trans g1.output,Nat.le_trans g1.size g2.size,fun k hk hne=>(g2.block k (Nat.lt_of_lt_of_le hk g1.size) hne).trans (g1.block k hk hne)⟩⟩
 rw [hlen]
 exact del_cells cur L i cap hi hsz hle ht
set_option maxHeartbeats 8000000 in
set_option maxRecDepth 1000000 in
theorem delete_on (base g cap i:Nat) (L:List FileV) (w:World) (h:w.ownsRow base 97 5 (.slice (some ⟨g,0,none⟩) L.length cap) L.length (cellsF L)) (hi:i < L.length) (hbig:L.length ≤ 1000000) :
  Calls Tryd.prog 133 #[.slice (some ⟨g,0,none⟩) L.length cap,.int .i64 i,.int .i64 ((i:Int) + 1)] w fun e w'=>e = .returned (.slice (some ⟨g,0,none⟩) (L.length - 1) cap) ∧ w'.ownsRow base 97 5 (.slice (some ⟨g,0,none⟩) (L.eraseIdx i).length cap) (L.eraseIdx i).length (cellsF (L.eraseIdx i)) ∧ w.grownBy w' (some g):=by
 obtain ⟨i0,hi0,hz0,hz1,hz2⟩:=info_parts info97'
 have hcap:L.length ≤ cap ∧ cap ≤ 9223372036854775807:=by
  rcases h.2 with ⟨h1,_⟩ | ⟨g',cap',cur,h1,hb,hg,hle,hm,hsz,ht⟩
  ·cases h1
  ·injection h1 with h1 _ hc
   subst hc
   exact ⟨hle,hm⟩
 obtain ⟨n,hn⟩:∃ n,n = L.length:=⟨_,rfl⟩
 obtain ⟨news,hnews⟩:∃ news,news = cellsF (L.drop (i + 1)):=⟨_,rfl⟩
 obtain ⟨m,hm⟩:∃ m,m = n - (i + 1):=⟨_,rfl⟩
 have s1:Hush (news.length = m * 5):=⟨by rw [hnews,cellsF_len,List.length_drop,hm,hn]⟩
 have s2:Hush (∀ u ∈ news,u.oneCell' = true):=⟨by rw [hnews];exact cellsF_one' _⟩
 obtain ⟨A,hA,hsrc⟩:∃ A:Addr,(if cap = i + 1 then some (⟨g,0,none⟩:Addr) else some ⟨g,(i + 1) * 5,none⟩) = some A ∧ Hush (∀ t u,news[t]? = some u → w.drew.cell? (A.add t) = some u):=by
  by_cases hc:cap = i + 1
  ·refine ⟨⟨g,0,none⟩,by simp [hc],⟨fun t u hu=>?_⟩⟩
   have h0:news.length = 0:=by rw [s1.out,hm];omega
   rw [List.length_eq_zero_iff.1 h0] at hu
   simp at hu
  ·refine ⟨⟨g,(i + 1) * 5,none⟩,by simp [hc],⟨fun t u hu=>?_⟩⟩
   have ht:t < m * 5:=by
    have:=(List.getElem?_eq_some_iff.1 hu).1
    rwa [s1.out] at this
   rw [Addr.add_lit]
   show w.cell? _ = _
   rw [h.cellAt _ (by omega)]
   rw [hnews] at hu
   conv=>lhs;rw [← List.take_append_drop (i + 1) L,cellsF_append]
   have hl5:(cellsF (L.take (i + 1))).length = (i + 1) * 5:=by rw [cellsF_len,List.length_take];congr 1;omega
   rw [List.getElem?_append_right (by omega),hl5,show (i + 1) * 5 + t - (i + 1) * 5 = t by omega]
   exact hu
 have s3:Hush (∀ t,t < news.length → (w.drew.cell? ⟨g,0 + i * 5 + t,none⟩).isSome = true ∧ w.drew.frozen? ⟨g,0 + i * 5 + t,none⟩ = false):=⟨fun t ht=>by
  rw [s1.out] at ht
  refine ⟨?_,h.frozenAt _⟩
  show (w.cell? _).isSome = true
  rw [h.cellAt _ (by omega),List.getElem?_eq_getElem (by rw [cellsF_len];omega)]
  rfl⟩
 obtain ⟨W1,hW1⟩:∃ W1,W1 = w.drew.setCells g (0 + i * 5) news:=⟨_,rfl⟩
 have hcl:∀ ty c,(Builtin.clear_ #[76] ty #[.slice (some ⟨g,(i + m) * 5,none⟩) 1 c]).run Tryd.prog W1 = .ok (.tuple #[]) (W1.setCells g ((i + m) * 5) zeroF):=fun ty c=>by
  have hd:=del_own h hi 1
  refine clear_one W1 ty g ((i + m) * 5) c (fun j hj=>?_) (fun j hj=>?_)
  ·rcases h.2 with ⟨h1,_⟩ | ⟨g',cap',cur,h1,hb,hg,hle,hmm,hsz,ht⟩
   ·cases h1
   injection h1 with h1 _ hc
   injection h1 with h1
   injection h1 with h1 _ _
   subst h1
   have e1:=setCells_block g 97 news (0 + i * 5) w.drew cur hg
   rw [← hW1] at e1
   simp only [World.cell?,e1]
   rw [Array.getElem?_eq_getElem (by rw [size_setMany,hsz];omega)]
   rfl
  ·rw [hW1,World.frozen?_setCells]
   exact h.frozenAt _
 have HX:Hush ((W1.setCells g ((i + m) * 5) zeroF).ownsRow base 97 5 (.slice (some ⟨g,0,none⟩) (L.eraseIdx i).length cap) (L.eraseIdx i).length (cellsF (L.eraseIdx i)) ∧ w.grownBy (W1.setCells g ((i + m) * 5) zeroF) (some g)):=⟨by
  have:=del_own h hi 1
  rw [hW1,hnews,Nat.zero_add,show i + m = L.length - 1 by omega]
  exact this⟩
 have hlq:Hush ((L.eraseIdx i).length = n - 1):=⟨by rw [List.length_eraseIdx_of_lt hi,hn]⟩
 have hW:Hush (W1 = w.drew.setCells g (0 + i * 5) news):=⟨hW1⟩
 have hic:i ≤ cap:=by omega
 have hjc:i + 1 ≤ cap:=by omega
 have hin:i < n:=by omega
 have hnc:n ≤ cap:=by omega
 have hcm:cap ≤ 9223372036854775807:=hcap.2
 have hnb:n ≤ 1000000:=by omega
 have hmn:i + m + 1 = n:=by omega
 rw [← hn]
 clear h hcap hn hnews hW1 hi hbig
 subst hm
 have mixed:Tryd.prog.follows .mixedOrders = true:=by kernel_rfl
 have i1:(0:Int) ≤ (i:Int) + 1:=by omega
 have i2:(i:Int) + 1 ≤ (n:Int):=by omega
 have i3:((i:Int) + 1).toNat = i + 1:=by omega
 go_enter Tryd.func133,Tryd.ntmps133
 go_wp2_with fail
 go_region_law_o (refine step_append_room rfl (.tmp 22) (.tmp 25) 76 rfl 97 i0 5 Tryd.underlying76 hi0 hz1 g 0 i cap (by simp [Act.eval,Act.put]) A (n - (i + 1)) (cap - (i + 1)) news (by simp [Act.eval,Act.put]) s1.out hsrc.out s2.out (by omega) s3.out ?_;rw [← hW.out])
 clear s1 s2 s3 hsrc hW hA i1 i2 i3
 generalize hq:i + (n - (i + 1)) = q at hcl hmn HX ⊢
 have HL:Hush ((L.eraseIdx i).length = q):=⟨hlq.out.trans (by omega)⟩
 clear hq hin
 subst hmn
 have j1:(0:Int) ≤ (q:Int):=by omega
 have j2:(q:Int) ≤ (q:Int) + 1:=by omega
 have j3:((q:Int) + 1) ≤ (cap:Int):=by omega
 have j4:¬ cap = q:=by omega
 go_wp2
 go_ret
 exact ⟨by simp,HX.out.1,HX.out.2⟩
end Go.Proofs.YteilnbnnhocciaaDoor.V

/-! V35 -/
namespace Go.Proofs.YteilnbnnhocciaaDoor.V
open Go.Proofs Go.Sort Go.Lib Go.RowKit Go.BigFrame Go.Proofs.YteilnbnnhocciaaDoorM Go.Proofs.YteilnbnnhocciaaDoorW.PrintWords Go.Proofs.YteilnbnnhocciaaDoorW.PrintLast Go.Proofs.YteilnbnnhocciaaDoorW.PrintMore Go.Proofs.YteilnbnnhocciaaDoor.KV
def LAt (w:World) (A:Option Addr) (L:List FileV):Prop:=(A = none ∧ L = []) ∨ ∃ g,A = some ⟨g,0,none⟩ ∧ g < w.heap.size ∧ FilesAt w A L
theorem LAt.files {w:World} {A:Option Addr} {L:List FileV} (h:LAt w A L):FilesAt w A L:=by
 rcases h with ⟨_,rfl⟩ | ⟨g,_,_,h⟩
 ·exact fun h=>by simp at h
 ·exact h
theorem LAt.below {w w':World} {A:Option Addr} {L:List FileV} (h:LAt w A L) (hb:RowKit.Below w.heap.size w w'):LAt w' A L:=by
 rcases h with h | ⟨g,h1,h2,h3⟩
 ·exact .inl h
 ·exact .inr ⟨g,h1,Nat.lt_of_lt_of_le h2 hb.size,h3.below hb⟩
theorem own_at {W:World} {base:Nat} {v:Value} {L:List FileV} (h:W.ownsRow base 97 5 v L.length (cellsF L)):∃ A c,v = .slice A L.length c ∧ LAt W A L ∧ L.length ≤ c:=by
 obtain ⟨A,c,h1,h2,h3⟩:=own_files h
 refine ⟨A,c,h1,?_,h3⟩
 rcases h.2 with ⟨h4,h5⟩ | ⟨g,cap,cur,h4,_,h5,_⟩
 ·rw [h4] at h1
  injection h1 with h1 _ _
  exact .inl ⟨h1.symm,List.eq_nil_of_length_eq_zero h5⟩
 ·rw [h4] at h1
  injection h1 with h1 _ _
  exact .inr ⟨g,h1.symm,(Array.getElem?_eq_some_iff.1 h5).1,h2⟩
theorem files_cells {w:World} {g:Nat} {L:List FileV} (h:FilesAt w (some ⟨g,0,none⟩) L):∀ j u,(cellsF L)[j]? = some u → w.cell? ⟨g,j,none⟩ = some u:=by
 intro j u hu
 have hj:j < L.length * 5:=by have:=(List.getElem?_eq_some_iff.1 hu).1;rwa [cellsF_len] at this
 obtain ⟨i,x,hx5,rfl⟩:∃ i x,x < 5 ∧ j = i * 5 + x:=⟨j / 5,j % 5,by omega,by omega⟩
 have hi:i < L.length:=by omega
 obtain ⟨ad,e,hc⟩:=h (by omega)
 obtain rfl:=Option.some.inj e
 obtain ⟨f,hf⟩:∃ f,L[i]? = some f:=⟨_,List.getElem?_eq_getElem hi⟩
 have hc':=hc i f hf
 rw [Addr.add_lit,Nat.zero_add] at hc'
 obtain ⟨c0,c1,c2,c3,c4⟩:=hc'
 have:x = 0 ∨ x = 1 ∨ x = 2 ∨ x = 3 ∨ x = 4:=by omega
 rcases this with rfl | rfl | rfl | rfl | rfl
 ·rw [cellsF_at L i f 0 _ hf rfl] at hu;obtain rfl:=Option.some.inj hu;exact c0
 ·rw [cellsF_at L i f 1 _ hf rfl] at hu;obtain rfl:=Option.some.inj hu;exact c1
 ·rw [cellsF_at L i f 2 _ hf rfl] at hu;obtain rfl:=Option.some.inj hu;exact c2
 ·rw [cellsF_at L i f 3 _ hf rfl] at hu;obtain rfl:=Option.some.inj hu;exact c3
 ·rw [cellsF_at L i f 4 _ hf rfl] at hu;obtain rfl:=Option.some.inj hu;exact c4
theorem clone_on (A:Option Addr) (L:List FileV) (c:Nat) (w:World) (h:LAt w A L) (hl:L.length ≤ 1000000) :
  Calls Tryd.prog 130 #[.slice A L.length c] w fun e w'=>∃ v,e = .returned v ∧ w'.ownsRow w.heap.size 97 5 v L.length (cellsF L) ∧ RowKit.Below w.heap.size w w':=by
 rcases h with ⟨rfl,rfl⟩ | ⟨g,rfl,_,h⟩
 ·refine (AnyE.slices_Clone_nil Tryd.clone130 0 c w).mono fun e w' ⟨h1,h2⟩=>⟨_,h1,⟨rfl,.inl ⟨rfl,rfl⟩⟩,by rw [h2];exact RowKit.Below.refl _ _⟩
 ·obtain ⟨i0,hi,hz0,hz1,hz2⟩:=info_parts info97'
  exact (AnyE.slices_Clone Tryd.clone130 i0 (.agg #[.int .u64 0,.int .u64 0,.int .u64 0,.string ⟨#[]⟩,.string ⟨#[]⟩]) 5 56 hi hz0 hz1 hz2 rfl (by decide) Tryd.sizeOf97 g 0 L.length c (cellsF L) w (cellsF_len L) (by unfold maxLen;omega) (by omega)
   (fun j u hu=>by rw [Nat.zero_add];exact files_cells h j u hu) (cellsF_one' L)).mono fun e w' ⟨v,h1,h2,_,h3⟩=>⟨v,h1,h2,h3⟩
theorem own_weaken {W:World} {base base' e size n:Nat} {v:Value} {xs:List Value} (h:W.ownsRow base e size v n xs) (hb:base' ≤ base):W.ownsRow base' e size v n xs:=by
 refine ⟨h.1,h.2.imp id ?_⟩
 rintro ⟨g,cap,cur,h1,h2,h3⟩
 exact ⟨g,cap,cur,h1,Nat.le_trans hb h2,h3⟩
structure TwSt (w:World) (F:Nat → List FileV) (S:Nat → Value) (j:Nat) (v:Nat → Value) (wr:World):Prop where
 below:RowKit.Below w.heap.size w wr
 four:Four wr w.heap.size (fun i=>if i < j then v i else S i)
 r:Four wr (w.heap.size + 1) (fun _=>nilS)
 size:w.heap.size + 2 ≤ wr.heap.size
 own:∀ i,i < j → wr.ownsRow (w.heap.size + 2) 97 5 (v i) (F i).length (cellsF (F i))
 apart:∀ i i',i < j → i' < j → i ≠ i' → ∀ g,(v i).ownBlock = some g → (v i').ownBlock ≠ some g
theorem TwSt.next {w:World} {F:Nat → List FileV} {S:Nat → Value} {j:Nat} {v:Nat → Value} {wr w3:World} {v':Value} (h:TwSt w F S j v wr) (hj:j < 4) (hb:RowKit.Below wr.heap.size wr w3) (hown:w3.ownsRow wr.heap.size 97 5 v' (F j).length (cellsF (F j))) :
  TwSt w F S (j + 1) (fun i=>if i = j then v' else v i) (w3.setCell ⟨w.heap.size,j,none⟩ v'):=by
 have hs:=h.size
 have s3:=hb.size
 have own3:∀ i,i < j → w3.ownsRow (w.heap.size + 2) 97 5 (v i) (F i).length (cellsF (F i)):=fun i hi=>own_keep (h.own i hi) fun g hg=>hb.block g (own_lt (h.own i hi) hg).2
 have f3:=(h.four.below hb).set j hj v'
 have e:(fun x=>if x = j then v' else if x < j then v x else S x) = fun i=>if i < j + 1 then (if i = j then v' else v i) else S i:=by
  funext x
  by_cases h1:x = j
  ·subst h1;rw [if_pos rfl,if_pos (by omega),if_pos rfl]
  ·rw [if_neg h1,if_neg h1]
   by_cases h2:x < j
   ·rw [if_pos h2,if_pos (by omega)]
   ·rw [if_neg h2,if_neg (by omega)]
 rw [e] at f3
 have fresh:∀ i,i < j → ∀ g,v'.ownBlock = some g → (v i).ownBlock ≠ some g:=fun i hi g h1 h2=>by
  have a:=(own_lt hown h1).1
  have b:=(own_lt (h.own i hi) h2).2
  omega
 refine ⟨(h.below.trans (hb.mono h.below.size)).setCell (p:=⟨w.heap.size,j,none⟩) (Nat.le_refl _) _,f3,(h.r.below hb).far (by omega) _,by rw [World.size_setCell];omega,fun i hi=>?_,fun a b ha hb' hab g h1 h2=>?_⟩
 ·refine own_keep (?_:w3.ownsRow (w.heap.size + 2) 97 5 _ _ _) fun g hg=>Below.heap_setCell w3 ⟨w.heap.size,j,none⟩ v' g ?_
  ·by_cases e1:i = j
   ·subst e1;rw [if_pos rfl];exact own_weaken hown hs
   ·rw [if_neg e1];exact own3 i (by omega)
  ·show g ≠ w.heap.size
   by_cases e1:i = j
   ·subst e1
    rw [if_pos rfl] at hg
    have:=(own_lt hown hg).1;omega
   ·rw [if_neg e1] at hg
    have:=(own_lt (own3 i (by omega)) hg).1;omega
 ·by_cases ea:a = j
  ·subst ea
   rw [if_pos rfl] at h1
   rw [if_neg (fun e=>hab e.symm)] at h2
   exact fresh b (by omega) g h1 h2
  ·rw [if_neg ea] at h1
   by_cases eb:b = j
   ·subst eb
    rw [if_pos rfl] at h2
    exact fresh a (by omega) g h2 h1
   ·rw [if_neg eb] at h2
    exact h.apart a b (by omega) (by omega) hab g h1 h2
theorem four_sets {w:World} {b:Nat} {f:Nat → Value} (h:Four w b f) (x0 x1 x2 x3:Value):Four ((((w.setCell ⟨b,0,none⟩ x0).setCell ⟨b,1,none⟩ x1).setCell ⟨b,2,none⟩ x2).setCell ⟨b,3,none⟩ x3) b (fun i=>if i = 0 then x0 else if i = 1 then x1 else if i = 2 then x2 else x3):=by
 obtain ⟨t,h⟩:=h
 have h1:=set_cells h 0 x0
 have h2:=set_cells h1 1 x1
 have h3:=set_cells h2 2 x2
 have h4:=set_cells h3 3 x3
 exact ⟨t,h4⟩
theorem below_sets {B b:Nat} {a w:World} (h:RowKit.Below B a w) (hb:B ≤ b) (x0 x1 x2 x3:Value):RowKit.Below B a ((((w.setCell ⟨b,0,none⟩ x0).setCell ⟨b,1,none⟩ x1).setCell ⟨b,2,none⟩ x2).setCell ⟨b,3,none⟩ x3):=
 (((h.setCell (p:=⟨b,0,none⟩) hb _).setCell (p:=⟨b,1,none⟩) hb _).setCell (p:=⟨b,2,none⟩) hb _).setCell (p:=⟨b,3,none⟩) hb _
theorem Lv.sets {base:Nat} {F:Nat → List FileV} {v:Nat → Value} {W:World} (h:Lv base F v W) {b:Nat} (hb:b < base) (x0 x1 x2 x3:Value):Lv base F v ((((W.setCell ⟨b,0,none⟩ x0).setCell ⟨b,1,none⟩ x1).setCell ⟨b,2,none⟩ x2).setCell ⟨b,3,none⟩ x3):=
 (((h.setCell (a:=⟨b,0,none⟩) hb _).setCell (a:=⟨b,1,none⟩) hb _).setCell (a:=⟨b,2,none⟩) hb _).setCell (a:=⟨b,3,none⟩) hb _
theorem Lv.congr {base:Nat} {F:Nat → List FileV} {v v':Nat → Value} {W:World} (h:Lv base F v W) (e:∀ i,i < 4 → v' i = v i):Lv base F v' W:=
 ⟨fun i hi=>by rw [e i hi];exact h.own i hi,fun i j hi hj hne g h1 h2=>h.apart i j hi hj hne g (by rw [← e i hi];exact h1) (by rw [← e j hj];exact h2)⟩
set_option maxHeartbeats 8000000 in
set_option maxRecDepth 100000 in
theorem twin_on (F:Nat → List FileV) (A:Nat → Option Addr) (c:Nat → Nat) (w:World) (hin:∀ i,i < 4 → LAt w (A i) (F i) ∧ (F i).length ≤ 1000000) :
  Calls Tryd.prog 99 #[.agg #[.slice (A 0) (F 0).length (c 0),.slice (A 1) (F 1).length (c 1),.slice (A 2) (F 2).length (c 2),.slice (A 3) (F 3).length (c 3)]] w fun e w'=>
   ∃ (A':Nat → Option Addr) (c':Nat → Nat),e = .returned (.agg #[.slice (A' 0) (F 0).length (c' 0),.slice (A' 1) (F 1).length (c' 1),.slice (A' 2) (F 2).length (c' 2),.slice (A' 3) (F 3).length (c' 3)]) ∧ Lv (w.heap.size + 2) F (fun i=>.slice (A' i) (F i).length (c' i)) w' ∧ RowKit.Below w.heap.size w w':=by
 have HIN:=Hush.mk hin
 clear hin
 obtain ⟨S,hS⟩:∃ S:Nat → Value,S = fun i=>.slice (A i) (F i).length (c i):=⟨_,rfl⟩
 have e0:(Value.slice (A 0) (F 0).length (c 0)) = S 0:=by rw [hS]
 have e1:(Value.slice (A 1) (F 1).length (c 1)) = S 1:=by rw [hS]
 have e2:(Value.slice (A 2) (F 2).length (c 2)) = S 2:=by rw [hS]
 have e3:(Value.slice (A 3) (F 3).length (c 3)) = S 3:=by rw [hS]
 rw [e0,e1,e2,e3]
 clear e0 e1 e2 e3
 obtain ⟨s0,q0⟩:∃ x,x = S 0:=⟨_,rfl⟩
 obtain ⟨s1,q1⟩:∃ x,x = S 1:=⟨_,rfl⟩
 obtain ⟨s2,q2⟩:∃ x,x = S 2:=⟨_,rfl⟩
 obtain ⟨s3,q3⟩:∃ x,x = S 3:=⟨_,rfl⟩
 obtain ⟨w1,hw1⟩:∃ w1,w1 = (w.alloc (.cells #[s0,s1,s2,s3] 79)).alloc (.cells #[.slice none 0 0,.slice none 0 0,.slice none 0 0,.slice none 0 0] 79):=⟨_,rfl⟩
 have hix:∀ (j:Nat),j < 4 → ∀ wr,(Instr.index 77 (.agg #[s0,s1,s2,s3]) (.int .i64 (j:Int))).run Tryd.prog wr = .ok (S j) wr:=fun j hj wr=>by
  rw [q0,q1,q2,q3]
  exact index77_at S j hj wr
 have HIX:=Hush.mk hix
 have HSL:Hush (∀ j,S j = .slice (A j) (F j).length (c j)):=⟨fun j=>by rw [hS]⟩
 have HF:Hush (TwSt w F S 0 (fun _=>nilS) w1 ∧ w1.cell? ⟨w.heap.size,0,none⟩ = some s0 ∧ w1.cell? ⟨w.heap.size,1,none⟩ = some s1 ∧ w1.cell? ⟨w.heap.size,2,none⟩ = some s2 ∧ w1.cell? ⟨w.heap.size,3,none⟩ = some s3):=⟨by
  have z1:=size_alloc w (.cells #[s0,s1,s2,s3] 79)
  have z2:=size_alloc (w.alloc (.cells #[s0,s1,s2,s3] 79)) (.cells #[.slice none 0 0,.slice none 0 0,.slice none 0 0,.slice none 0 0] 79)
  have a1:=World.alloc_heap_new w (.cells #[s0,s1,s2,s3] 79)
  have a2:=World.alloc_heap_new (w.alloc (.cells #[s0,s1,s2,s3] 79)) (.cells #[.slice none 0 0,.slice none 0 0,.slice none 0 0,.slice none 0 0] 79)
  rw [z1] at a2
  have f1:Four (w.alloc (.cells #[s0,s1,s2,s3] 79)) w.heap.size S:=⟨79,by rw [← q0,← q1,← q2,← q3];exact a1⟩
  have f2:=f1.below ((RowKit.Below.refl _ _).alloc (Nat.le_refl _) (.cells #[.slice none 0 0,.slice none 0 0,.slice none 0 0,.slice none 0 0] 79))
  rw [← hw1] at f2
  refine ⟨⟨by rw [hw1];exact ((RowKit.Below.refl _ _).alloc (Nat.le_refl _) _).alloc (by omega) _,by simpa using f2,⟨79,by rw [hw1];exact a2⟩,by rw [hw1,z2,z1];omega,fun i hi=>by omega,fun i i' hi=>by omega⟩,?_,?_,?_,?_⟩
  ·rw [q0];exact f2.cell 0 (by omega)
  ·rw [q1];exact f2.cell 1 (by omega)
  ·rw [q2];exact f2.cell 2 (by omega)
  ·rw [q3];exact f2.cell 3 (by omega)⟩
 obtain ⟨x0,x1,x2,x3⟩:=HF.out.2
 rw [← q0,← q1,← q2,← q3]
 clear hix q0 q1 q2 q3 hS
 go_enter Tryd.func99,Tryd.ntmps99
 go_wp2
 rw [← hw1]
 clear x0 x1 x2 x3 hw1
 go_loopw [7] (fun iv wr=>∃ j:Nat,iv = .int .i64 j ∧ j ≤ 4 ∧ Hush (∃ v,TwSt w F S j v wr)) (fun iv _=>4 - (intOf iv).toNat)
 case atStart=>exact ⟨0,by go_num,by omega,⟨_,HF.out.1⟩⟩
 case round=>
  obtain ⟨j,rfl,hj4,HJ⟩:=hrel
  by_cases hlt:j < 4
  ·have hltz:(j:Int) < 4:=by omega
   obtain ⟨v,hv⟩:=HJ.out
   have hj:=HIX.out j hlt wr
   have HV:=Hush.mk hv
   have HC:Hush (Calls Tryd.prog 130 #[S j] wr fun e w'=>∃ v',e = .returned v' ∧ w'.ownsRow wr.heap.size 97 5 v' (F j).length (cellsF (F j)) ∧ RowKit.Below wr.heap.size wr w'):=⟨by
    rw [HSL.out j]
    exact clone_on (A j) (F j) (c j) wr ((HIN.out j hlt).1.below hv.below) (HIN.out j hlt).2⟩
   clear hv HJ
   go_wp2_with (go_at_call 130;refine HC.out.mono ?_;rintro e w3 ⟨v',rfl,hown,hb3⟩;obtain ⟨A',c',rfl⟩:=own_slice hown;have HN:=Hush.mk (HV.out.next hlt hb3 hown);have hfr:=(HV.out.four.below hb3).frozen j;have hce:=(HV.out.four.below hb3).cell j hlt;rw [if_neg (Nat.lt_irrefl j)] at hce;clear hown hb3)
   go_roundw
   case rel=>exact ⟨j + 1,by go_num,by omega,⟨_,HN.out⟩⟩
   case measure=>simp [intOf];omega
  ·obtain rfl:j = 4:=by omega
   obtain ⟨v,hv⟩:=HJ.out
   obtain ⟨A',c',hs⟩:=(⟨hv.own,hv.apart⟩:Lv (w.heap.size + 2) F v wr).slice
   have HV:Hush (Lv (w.heap.size + 2) F (fun i=>.slice (A' i) (F i).length (c' i)) wr ∧ Four wr (w.heap.size + 1) (fun _=>nilS) ∧ RowKit.Below w.heap.size w wr):=⟨⟨(⟨hv.own,hv.apart⟩:Lv (w.heap.size + 2) F v wr).congr (fun i hi=>(hs i hi).1.symm),hv.r,hv.below⟩⟩
   have c0:=hv.four.cell 0 (by omega)
   have c1:=hv.four.cell 1 (by omega)
   have c2:=hv.four.cell 2 (by omega)
   have c3:=hv.four.cell 3 (by omega)
   rw [if_pos (by omega)] at c0 c1 c2 c3
   rw [(hs 0 (by omega)).1] at c0
   rw [(hs 1 (by omega)).1] at c1
   rw [(hs 2 (by omega)).1] at c2
   rw [(hs 3 (by omega)).1] at c3
   have d0:=hv.r.cell 0 (by omega)
   have d1:=hv.r.cell 1 (by omega)
   have d2:=hv.r.cell 2 (by omega)
   have d3:=hv.r.cell 3 (by omega)
   have g0:=hv.r.frozen 0
   have g1:=hv.r.frozen 1
   have g2:=hv.r.frozen 2
   have g3:=hv.r.frozen 3
   unfold nilS at d0 d1 d2 d3
   clear hv HJ hs
   have k:=four_sets HV.out.2.1 (.slice (A' 0) (F 0).length (c' 0)) (.slice (A' 1) (F 1).length (c' 1)) (.slice (A' 2) (F 2).length (c' 2)) (.slice (A' 3) (F 3).length (c' 3))
   have k0:=k.cell 0 (by omega)
   have k1:=k.cell 1 (by omega)
   have k2:=k.cell 2 (by omega)
   have k3:=k.cell 3 (by omega)
   simp only [if_true,Nat.one_ne_zero,if_false,(by decide:¬ (2:Nat) = 0),(by decide:¬ (2:Nat) = 1),(by decide:¬ (3:Nat) = 0),(by decide:¬ (3:Nat) = 1),(by decide:¬ (3:Nat) = 2)] at k0 k1 k2 k3
   have HFF:Hush (∀ wF,wF = ((((wr.setCell ⟨w.heap.size + 1,0,none⟩ (.slice (A' 0) (F 0).length (c' 0))).setCell ⟨w.heap.size + 1,1,none⟩ (.slice (A' 1) (F 1).length (c' 1))).setCell ⟨w.heap.size + 1,2,none⟩ (.slice (A' 2) (F 2).length (c' 2))).setCell ⟨w.heap.size + 1,3,none⟩ (.slice (A' 3) (F 3).length (c' 3))) →
     (wF.cell? ⟨w.heap.size + 1,0,none⟩ = some (.slice (A' 0) (F 0).length (c' 0)) ∧ wF.cell? ⟨w.heap.size + 1,1,none⟩ = some (.slice (A' 1) (F 1).length (c' 1)) ∧ wF.cell? ⟨w.heap.size + 1,2,none⟩ = some (.slice (A' 2) (F 2).length (c' 2)) ∧ wF.cell? ⟨w.heap.size + 1,3,none⟩ = some (.slice (A' 3) (F 3).length (c' 3))) ∧ Lv (w.heap.size + 2) F (fun i=>.slice (A' i) (F i).length (c' i)) wF ∧ RowKit.Below w.heap.size w wF):=⟨fun wF hF=>by
    rw [hF]
    exact ⟨⟨k0,k1,k2,k3⟩,Lv.sets HV.out.1 (by omega) _ _ _ _,below_sets HV.out.2.2 (by omega) _ _ _ _⟩⟩
   clear k k0 k1 k2 k3
   go_wp2
   obtain ⟨wF,hwF⟩:∃ wF,wF = ((((wr.setCell ⟨w.heap.size + 1,0,none⟩ (.slice (A' 0) (F 0).length (c' 0))).setCell ⟨w.heap.size + 1,1,none⟩ (.slice (A' 1) (F 1).length (c' 1))).setCell ⟨w.heap.size + 1,2,none⟩ (.slice (A' 2) (F 2).length (c' 2))).setCell ⟨w.heap.size + 1,3,none⟩ (.slice (A' 3) (F 3).length (c' 3))):=⟨_,rfl⟩
   obtain ⟨⟨k0,k1,k2,k3⟩,hlv,hbw⟩:=HFF.out wF hwF
   rw [← hwF]
   exact bodyPost_ret (v:=.agg #[.slice (A' 0) (F 0).length (c' 0),.slice (A' 1) (F 1).length (c' 1),.slice (A' 2) (F 2).length (c' 2),.slice (A' 3) (F 3).length (c' 3)]) (by simp [results,Tryd.results99,go_sem,k0,k1,k2,k3]) rfl ⟨A',c',rfl,hlv,hbw⟩
end Go.Proofs.YteilnbnnhocciaaDoor.V

/-! V36 -/
namespace Go.Proofs.YteilnbnnhocciaaDoor.V
open Go.Proofs Go.Sort Go.Lib Go.RowKit Go.BigFrame Go.Proofs.YteilnbnnhocciaaDoorM Go.Proofs.YteilnbnnhocciaaDoorW.PrintWords Go.Proofs.YteilnbnnhocciaaDoorW.PrintLast Go.Proofs.YteilnbnnhocciaaDoorW.PrintMore Go.Proofs.YteilnbnnhocciaaDoor.KV
theorem idx_take (num:Int):∀ (L:List FileV) (i0:Nat),(takeOut num L = none ∧ Lib.idxByFrom (fun (_ y:FileV)=>y.num == num) default L i0 = -1) ∨
  ∃ i,i < L.length ∧ takeOut num L = some (L.eraseIdx i) ∧ Lib.idxByFrom (fun (_ y:FileV)=>y.num == num) default L i0 = ((i0 + i:Nat):Int)
 | [],i0=>.inl ⟨rfl,rfl⟩
 | f :: r,i0=>by
  by_cases h:f.num = num
  ·refine .inr ⟨0,by simp,?_,?_⟩
   ·simp [takeOut,h]
   ·simp [Lib.idxByFrom,h]
  ·rcases idx_take num r (i0 + 1) with ⟨h1,h2⟩ | ⟨i,hi,h1,h2⟩
   ·exact .inl ⟨by simp [takeOut,h,h1],by simp [Lib.idxByFrom,h,h2]⟩
   ·refine .inr ⟨i + 1,by simpa using hi,by simp [takeOut,h,h1],?_⟩
    simp only [Lib.idxByFrom,beq_iff_eq,h,if_false,Bool.false_eq_true]
    rw [h2]
    congr 1
    omega
theorem pred_on (gb:Nat) (num:Int) (f:FileV) (w:World) (h:w.cell? ⟨gb,1,none⟩ = some (.int .u64 num)):Calls Tryd.prog 132 #[fileVal f,.pointer (some ⟨gb,0,none⟩)] w fun e w'=>e = .returned (.bool (f.num == num)) ∧ Grown w w':=by
 obtain ⟨a0,a1,a2,a3,a4⟩:=f
 have hup:∀ o,(w.alloc o).cell? ⟨gb,1,none⟩ = some (.int .u64 num):=fun o=>Lib.cell?_alloc_some o h
 simp only [fileVal,fileCells]
 go_enter Tryd.func132,Tryd.ntmps132
 go_wp2
 go_ret
 exact ⟨by simp,(Grown.refl w).alloc _⟩
theorem pred_below (gb:Nat) (num:Int) (w:World) (hgb:gb < w.heap.size) (h:w.cell? ⟨gb,1,none⟩ = some (.int .u64 num)):PredBelow Tryd.prog 132 #[.pointer (some ⟨gb,0,none⟩)] (fun x=>.agg (encF x).toArray) (fun f=>f.num == num) w:=
 fun W x hb=>(pred_on gb num x W ((hb.cell (p:=⟨gb,1,none⟩) hgb).trans h)).mono fun e w' ⟨h1,h2⟩=>⟨h1,hb.trans (h2.below.mono hb.size)⟩
set_option maxRecDepth 100000 in
theorem index_nil (fv:Value) (w:World):Calls Tryd.prog 131 #[.slice none 0 0,fv] w fun e w'=>e = .returned (.int .i64 (-1)) ∧ w' = w:=by
 go_enter Tryd.func131,Tryd.ntmps131
 go_wp2
 go_loopw [8] (fun iv wr=>iv = .int .i64 0 ∧ Hush (wr = w)) (fun _ _=>0)
 case atStart=>exact ⟨rfl,⟨rfl⟩⟩
 case round=>
  obtain ⟨rfl,HW⟩:=hrel
  obtain rfl:=HW.out
  go_wp2
  go_ret
  exact ⟨rfl,rfl⟩
theorem index_on (gb:Nat) (num:Int) (A:Option Addr) (L:List FileV) (c:Nat) (w:World) (hL:LAt w A L) (hl:L.length ≤ 1000000) (hc:A = none → c = 0) (hgb:gb < w.heap.size) (h:w.cell? ⟨gb,1,none⟩ = some (.int .u64 num)) :
  Calls Tryd.prog 131 #[.slice A L.length c,.func (.func 132) #[] #[.pointer (some ⟨gb,0,none⟩)]] w fun e w'=>e = .returned (.int .i64 (Lib.idxByFrom (fun (_ y:FileV)=>y.num == num) default L 0)) ∧ RowKit.Below w.heap.size w w':=by
 rcases hL with ⟨rfl,rfl⟩ | ⟨g,rfl,hg,hf⟩
 ·rw [hc rfl]
  exact (index_nil _ w).mono fun e w' ⟨h1,h2⟩=>⟨h1,by rw [h2];exact RowKit.Below.refl _ _⟩
 ·have hcells:=files_cells hf
  have:=AnyQ.slices_IndexFunc Tryd.index131 5 Tryd.isAgg97 Tryd.sizeOf97 encF encF_len (fun f=>f.num == num) 132 #[.pointer (some ⟨gb,0,none⟩)] (fun args w=>by simp [go_sem]) g 0 L.length c L w (pred_below gb num w hgb h) (Nat.le_refl _) (by omega) hg
   (fun j hj i v hv=>by
    rw [Nat.zero_add]
    rw [getElem!_pos L j hj] at hv
    exact hcells _ _ (cellsF_at L j L[j] i v (List.getElem?_eq_getElem hj) hv))
  rw [List.take_of_length_le (Nat.le_refl _)] at this
  exact this
structure Keeps (base bv:Nat) (w w':World):Prop where
 os:w'.os = w.os
 tape:w'.tape = w.tape
 output:w'.output = w.output
 size:w.heap.size ≤ w'.heap.size
 block:∀ k,k < base → k ≠ bv → w'.heap[k]? = w.heap[k]?
theorem Keeps.trans {base bv:Nat} {a b c:World} (h:Keeps base bv a b) (k:Keeps base bv b c):Keeps base bv a c:=
 ⟨k.os.trans h.os,k.tape.trans h.tape,k.output.trans h.output,Nat.le_trans h.size k.size,fun i hi hne=>(k.block i hi hne).trans (h.block i hi hne)⟩
theorem Keeps.of_below {base bv:Nat} {w w':World} (h:RowKit.Below w.heap.size w w') (hb:base ≤ w.heap.size):Keeps base bv w w':=⟨h.os,h.tape,h.output,h.size,fun k hk _=>h.block k (by omega)⟩
theorem Keeps.grown {base bv:Nat} {w w':World} {row:Option Nat} (h:w.grownBy w' row) (hb:base ≤ w.heap.size) (hr:∀ k,row = some k → base ≤ k):Keeps base bv w w':=
 ⟨h.os,h.tape,h.output,h.size,fun k hk _=>h.block k (by omega) (fun e=>by have:=hr k e.symm;omega)⟩
theorem Keeps.setCell (base bv i:Nat) (w:World) (u:Value):Keeps base bv w (w.setCell ⟨bv,i,none⟩ u):=⟨rfl,rfl,rfl,by rw [World.size_setCell];exact Nat.le_refl _,fun k _ hne=>Below.heap_setCell w ⟨bv,i,none⟩ u k hne⟩
theorem Keeps.cell {base bv:Nat} {w w':World} (h:Keeps base bv w w') {p:Addr} (h1:p.block < base) (h2:p.block ≠ bv):w'.cell? p = w.cell? p:=World.cell?_of_block (w:=w) (h.block p.block h1 h2)
theorem cut_after {base bv lv g n cap:Nat} {F:Nat → List FileV} {v:Nat → Value} {w w3 w4:World} {l:List FileV} (hbv:bv < base) (hlv:lv < 4) (hbase:base ≤ w.heap.size) (hfour:Four w bv v) (hLv:Lv base F v w) (hv:v lv = .slice (some ⟨g,0,none⟩) n cap) (hb:RowKit.Below w.heap.size w w3)
  (hown:w4.ownsRow base 97 5 (.slice (some ⟨g,0,none⟩) l.length cap) l.length (cellsF l)) (hg:w3.grownBy w4 (some g)) :
  Four w4 bv v ∧ Four (w4.setCell ⟨bv,lv,none⟩ (.slice (some ⟨g,0,none⟩) l.length cap)) bv (fun x=>if x = lv then .slice (some ⟨g,0,none⟩) l.length cap else v x) ∧
   Lv base (upd F lv l) (fun x=>if x = lv then .slice (some ⟨g,0,none⟩) l.length cap else v x) (w4.setCell ⟨bv,lv,none⟩ (.slice (some ⟨g,0,none⟩) l.length cap)) ∧ Keeps base bv w (w4.setCell ⟨bv,lv,none⟩ (.slice (some ⟨g,0,none⟩) l.length cap)):=by
 have hgb:base ≤ g:=(own_lt (hLv.own lv hlv) (g:=g) (by rw [hv];rfl)).1
 have hs3:=hb.size
 have f4:Four w4 bv v:=(hfour.below hb).keep (hg.block bv (by omega) (fun e=>by injection e with e;omega))
 have l3:=hLv.below hb
 have ob:(v lv).ownBlock = some g:=by rw [hv];rfl
 have l4:Lv base (upd F lv l) (fun x=>if x = lv then .slice (some ⟨g,0,none⟩) l.length cap else v x) w4:=l3.turn hlv (by rw [ob];exact hg) hown (fun k hk=>by rw [ob];exact .inl hk)
 have k4:Keeps base bv w w4:=(Keeps.of_below hb hbase).trans (Keeps.grown hg (by omega) (fun k hk=>by injection hk with hk;omega))
 exact ⟨f4,f4.set lv hlv _,l4.setCell (a:=⟨bv,lv,none⟩) hbv _,k4.trans (Keeps.setCell _ _ _ _ _)⟩
set_option maxHeartbeats 8000000 in
set_option maxRecDepth 100000 in
theorem cut_none (bv base lv:Nat) (num:Int) (F:Nat → List FileV) (v:Nat → Value) (w:World) (hbv:bv < base) (hlv:lv < 4) (hfour:Four w bv v) (hLv:Lv base F v w) (hbase:base ≤ w.heap.size) (hl:(F lv).length ≤ 1000000) (ht:takeOut num (F lv) = none) :
  Calls Tryd.prog 100 #[.pointer (some ⟨bv,0,none⟩),.agg #[.int .i64 lv,.int .u64 num]] w fun e w'=>e = .returned (.bool false) ∧ RowKit.Below w.heap.size w w':=by
 obtain ⟨A,c,hvl,hat,hle⟩:=own_at (hLv.own lv hlv)
 have hx:Lib.idxByFrom (fun (_ y:FileV)=>y.num == num) default (F lv) 0 = -1:=by
  rcases idx_take num (F lv) 0 with ⟨_,h2⟩ | ⟨i,_,h1,_⟩
  ·exact h2
  ·rw [ht] at h1;cases h1
 have hA0:A = none → c = 0:=fun e=>by
  rcases (hLv.own lv hlv).2 with ⟨h1,_⟩ | ⟨g,cap,cur,h1,_⟩
  ·rw [hvl] at h1;injection h1
  ·rw [hvl,e] at h1;injection h1 with h1;cases h1
 obtain ⟨n,hn⟩:∃ n,n = (F lv).length:=⟨_,rfl⟩
 have HC:Hush (∀ W,RowKit.Below w.heap.size w W → ∀ gb,gb < W.heap.size → W.cell? ⟨gb,1,none⟩ = some (.int .u64 num) → Calls Tryd.prog 131 #[.slice A n c,.func (.func 132) #[] #[.pointer (some ⟨gb,0,none⟩)]] W fun e w'=>e = .returned (.int .i64 (-1)) ∧ RowKit.Below W.heap.size W w'):=⟨fun W hW gb h1 h2=>by
  have:=index_on gb num A (F lv) c W (hat.below hW) hl hA0 h1 h2
  rwa [hx,← hn] at this⟩
 have hv:=hfour.cell lv hlv
 rw [hvl,← hn] at hv
 have hv2:=fun o=>Lib.cell?_alloc_some o hv
 have hlz:(lv:Int) < 4:=by omega
 clear hat hx hvl hA0 hfour hLv ht hl hle hn hv
 have mixed:Tryd.prog.follows .mixedOrders = true:=by kernel_rfl
 have H2:Hush (RowKit.Below w.heap.size w (w.alloc (.cells #[.int .i64 lv,.int .u64 num] 111)) ∧ (w.alloc (.cells #[.int .i64 lv,.int .u64 num] 111)).cell? ⟨w.heap.size,0,none⟩ = some (.int .i64 lv) ∧ (w.alloc (.cells #[.int .i64 lv,.int .u64 num] 111)).cell? ⟨w.heap.size,1,none⟩ = some (.int .u64 num) ∧ (w.alloc (.cells #[.int .i64 lv,.int .u64 num] 111)).cell? ⟨bv,lv,none⟩ = some (.slice A n c) ∧ w.heap.size < (w.alloc (.cells #[.int .i64 lv,.int .u64 num] 111)).heap.size):=
  ⟨(RowKit.Below.refl _ _).alloc (Nat.le_refl _) _,(row_at w _ _ 111).1,(row_at w _ _ 111).2,hv2 _,by rw [size_alloc];omega⟩
 clear hv2
 go_enter Tryd.func100,Tryd.ntmps100
 go_wp2_with fail
 generalize w.alloc (.cells #[.int .i64 lv,.int .u64 num] 111) = w2 at H2 ⊢
 generalize hgb:w.heap.size = gb at H2 HC ⊢
 obtain ⟨_,x0,x1,x2,_⟩:=H2.out
 have j0:(0:Int) ≤ (lv:Int):=by omega
 go_quiet (fail)
 have HCC:Hush (∀ q,Calls Tryd.prog 131 #[.slice A n c,.func (.func 132) #[] #[.pointer (some ⟨gb,0,none⟩)]] (w2.drewN q) fun e w'=>e = .returned (.int .i64 (-1)) ∧ RowKit.Below gb w w'):=⟨fun q=>(HC.out (w2.drewN q) (by have h:=H2.out.1;exact ⟨h.os,h.tape,h.output,h.size,h.block⟩) gb H2.out.2.2.2.2 H2.out.2.2.1).mono fun e w' ⟨h1,h2⟩=>⟨h1,by have h:=H2.out.1;exact (⟨h.os,h.tape,h.output,h.size,h.block⟩:RowKit.Below gb w (w2.drewN q)).trans (h2.mono (by have:=H2.out.2.2.2.2;show gb ≤ w2.heap.size;omega))⟩⟩
 go_wp2_with (go_at_call 131;refine (HCC.out _).mono ?_;rintro e w3 ⟨rfl,hb3⟩;have HB3:=Hush.mk hb3;clear hb3)
 go_ret
 exact ⟨rfl,by rw [hgb];exact HB3.out⟩
set_option maxHeartbeats 8000000 in
set_option maxRecDepth 100000 in
theorem cut_some (bv base lv:Nat) (num:Int) (F:Nat → List FileV) (v:Nat → Value) (w:World) (l:List FileV) (hbv:bv < base) (hlv:lv < 4) (hfour:Four w bv v) (hLv:Lv base F v w) (hbase:base ≤ w.heap.size) (hl:(F lv).length ≤ 1000000) (ht:takeOut num (F lv) = some l) :
  Calls Tryd.prog 100 #[.pointer (some ⟨bv,0,none⟩),.agg #[.int .i64 lv,.int .u64 num]] w fun e w'=>e = .returned (.bool true) ∧ ∃ v',Four w' bv v' ∧ Lv base (upd F lv l) v' w' ∧ Keeps base bv w w':=by
 obtain ⟨i,hi,hx,hle⟩:∃ i,i < (F lv).length ∧ Lib.idxByFrom (fun (_ y:FileV)=>y.num == num) default (F lv) 0 = (i:Int) ∧ l = (F lv).eraseIdx i:=by
  rcases idx_take num (F lv) 0 with ⟨h1,_⟩ | ⟨i,hi,h1,h2⟩
  ·rw [ht] at h1;cases h1
  ·rw [ht] at h1
   exact ⟨i,hi,by rw [h2,Nat.zero_add],Option.some.inj h1⟩
 have hown0:=hLv.own lv hlv
 obtain ⟨g,c,hvl,hgb,hgl⟩:=hown0.form (by omega)
 rw [hvl] at hown0
 have hat:LAt w (some ⟨g,0,none⟩) (F lv):=by
  obtain ⟨A',c',h1,h2,_⟩:=own_at hown0
  injection h1 with h1 _ _
  rwa [h1]
 obtain ⟨n,hn⟩:∃ n,n = (F lv).length:=⟨_,rfl⟩
 have HC:Hush (∀ W,RowKit.Below w.heap.size w W → ∀ gb,gb < W.heap.size → W.cell? ⟨gb,1,none⟩ = some (.int .u64 num) → Calls Tryd.prog 131 #[.slice (some ⟨g,0,none⟩) n c,.func (.func 132) #[] #[.pointer (some ⟨gb,0,none⟩)]] W fun e w'=>e = .returned (.int .i64 i) ∧ RowKit.Below W.heap.size W w'):=⟨fun W hW gb h1 h2=>by
  have:=index_on gb num (some ⟨g,0,none⟩) (F lv) c W (hat.below hW) hl (fun e=>by cases e) h1 h2
  rwa [hx,← hn] at this⟩
 have HD:Hush (∀ W,RowKit.Below w.heap.size w W → Calls Tryd.prog 133 #[.slice (some ⟨g,0,none⟩) n c,.int .i64 i,.int .i64 ((i:Int) + 1)] W fun e w'=>e = .returned (.slice (some ⟨g,0,none⟩) l.length c) ∧
   (w'.cell? ⟨w.heap.size,0,none⟩ = W.cell? ⟨w.heap.size,0,none⟩ ∨ W.heap.size ≤ w.heap.size) ∧ Four w' bv v ∧ Four (w'.setCell ⟨bv,lv,none⟩ (.slice (some ⟨g,0,none⟩) l.length c)) bv (fun x=>if x = lv then .slice (some ⟨g,0,none⟩) l.length c else v x) ∧
   Lv base (upd F lv l) (fun x=>if x = lv then .slice (some ⟨g,0,none⟩) l.length c else v x) (w'.setCell ⟨bv,lv,none⟩ (.slice (some ⟨g,0,none⟩) l.length c)) ∧ Keeps base bv w (w'.setCell ⟨bv,lv,none⟩ (.slice (some ⟨g,0,none⟩) l.length c))):=⟨fun W hW=>by
  have h0:W.ownsRow base 97 5 (.slice (some ⟨g,0,none⟩) (F lv).length c) (F lv).length (cellsF (F lv)):=own_keep hown0 fun k hk=>hW.block k (own_lt hown0 hk).2
  have:=delete_on base g c i (F lv) W h0 hi hl
  rw [← hn] at this
  refine this.mono fun e w' ⟨h1,h2,h3⟩=>?_
  rw [← hle] at h2
  have hll:l.length = n - 1:=by rw [hle,List.length_eraseIdx_of_lt hi,hn]
  have ha:=cut_after hbv hlv hbase hfour hLv hvl hW h2 h3
  refine ⟨by rw [h1,hll],?_,ha⟩
  by_cases hz:w.heap.size < W.heap.size
  ·exact .inl (World.cell?_of_block (a:=⟨w.heap.size,0,none⟩) (h3.block w.heap.size hz (fun e=>by injection e with e;omega)))
  ·exact .inr (by omega)⟩
 have hv:=hfour.cell lv hlv
 rw [hvl,← hn] at hv
 have hv2:=fun o=>Lib.cell?_alloc_some o hv
 have hlz:(lv:Int) < 4:=by omega
 obtain ⟨m,hm⟩:∃ m,m = l.length:=⟨_,rfl⟩
 obtain ⟨kb,hkb⟩:∃ kb:Int,kb = 9000000:=⟨_,rfl⟩
 have hib:(i:Int) < kb:=by omega
 have hib2:kb ≤ 9000000:=by omega
 clear hkb
 rw [← hm] at HD
 have HVL:Hush (v lv = .slice (some ⟨g,0,none⟩) n c):=⟨by rw [hvl,hn]⟩
 clear hat hx hvl hown0 hfour hLv ht hl hle hn hv hi hm
 have mixed:Tryd.prog.follows .mixedOrders = true:=by kernel_rfl
 have H2:Hush (RowKit.Below w.heap.size w (w.alloc (.cells #[.int .i64 lv,.int .u64 num] 111)) ∧ (w.alloc (.cells #[.int .i64 lv,.int .u64 num] 111)).cell? ⟨w.heap.size,0,none⟩ = some (.int .i64 lv) ∧ (w.alloc (.cells #[.int .i64 lv,.int .u64 num] 111)).cell? ⟨w.heap.size,1,none⟩ = some (.int .u64 num) ∧ (w.alloc (.cells #[.int .i64 lv,.int .u64 num] 111)).cell? ⟨bv,lv,none⟩ = some (.slice (some ⟨g,0,none⟩) n c) ∧ w.heap.size < (w.alloc (.cells #[.int .i64 lv,.int .u64 num] 111)).heap.size):=
  ⟨(RowKit.Below.refl _ _).alloc (Nat.le_refl _) _,(row_at w _ _ 111).1,(row_at w _ _ 111).2,hv2 _,by rw [size_alloc];omega⟩
 clear hv2
 go_enter Tryd.func100,Tryd.ntmps100
 go_wp2_with fail
 generalize w.alloc (.cells #[.int .i64 lv,.int .u64 num] 111) = w2 at H2 ⊢
 generalize hgb:w.heap.size = gb at H2 HC HD ⊢
 obtain ⟨_,x0,x1,x2,_⟩:=H2.out
 have j0:(0:Int) ≤ (lv:Int):=by omega
 go_quiet (fail)
 have HCC:Hush (∀ q,Calls Tryd.prog 131 #[.slice (some ⟨g,0,none⟩) n c,.func (.func 132) #[] #[.pointer (some ⟨gb,0,none⟩)]] (w2.drewN q) fun e w'=>e = .returned (.int .i64 i) ∧ RowKit.Below gb w w' ∧ w'.cell? ⟨gb,0,none⟩ = some (.int .i64 lv)):=⟨fun q=>by
  have h:=H2.out.1
  have hq:RowKit.Below gb w (w2.drewN q):=⟨h.os,h.tape,h.output,h.size,h.block⟩
  refine (HC.out (w2.drewN q) hq gb H2.out.2.2.2.2 H2.out.2.2.1).mono fun e w' ⟨h1,h2⟩=>⟨h1,hq.trans (h2.mono (Nat.le_of_lt H2.out.2.2.2.2)),?_⟩
  exact (h2.cell (p:=⟨gb,0,none⟩) H2.out.2.2.2.2).trans H2.out.2.1⟩
 clear x0 x1 x2
 have i0:(0:Int) ≤ (i:Int):=by omega
 go_wp2_with (go_at_call 131;go_loud (refine (HCC.out _).mono ?_);rintro e w3 ⟨rfl,hb3,hc3⟩;have HB3:=Hush.mk hb3;have HC3:=Hush.mk hc3;clear hb3 hc3)
 have hwi:IntKind.i64.wrap ((i:Int) + 1) = (i:Int) + 1:=IntWalk.i64_in _ (by omega)
 have HDD:Hush (Calls Tryd.prog 133 #[.slice (some ⟨g,0,none⟩) n c,.int .i64 i,.int .i64 (IntKind.i64.wrap ((i:Int) + 1))] w3.drew fun e w'=>e = .returned (.slice (some ⟨g,0,none⟩) m c) ∧ w'.cell? ⟨gb,0,none⟩ = some (.int .i64 lv) ∧ (w'.setCell ⟨bv,lv,none⟩ (.slice (some ⟨g,0,none⟩) m c)).cell? ⟨gb,0,none⟩ = some (.int .i64 lv) ∧ w'.cell? ⟨bv,lv,none⟩ = some (.slice (some ⟨g,0,none⟩) n c) ∧ w'.frozen? ⟨bv,lv,none⟩ = false ∧
   Four (w'.setCell ⟨bv,lv,none⟩ (.slice (some ⟨g,0,none⟩) m c)) bv (fun x=>if x = lv then .slice (some ⟨g,0,none⟩) m c else v x) ∧
   Lv base (upd F lv l) (fun x=>if x = lv then .slice (some ⟨g,0,none⟩) m c else v x) (w'.setCell ⟨bv,lv,none⟩ (.slice (some ⟨g,0,none⟩) m c)) ∧ Keeps base bv w (w'.setCell ⟨bv,lv,none⟩ (.slice (some ⟨g,0,none⟩) m c))):=⟨hwi.symm ▸ (HD.out w3.drew HB3.out.drew).mono fun e w' ⟨h1,h2,h3⟩=>by
  have hz:gb < w3.heap.size:=World.block_lt_of_cell? w3 ⟨gb,0,none⟩ HC3.out
  have hc:w'.cell? ⟨gb,0,none⟩ = some (.int .i64 lv):=by
   rcases h2 with h2 | h2
   ·exact h2.trans HC3.out
   ·exact absurd h2 (by show ¬ w3.heap.size ≤ gb;omega)
  refine ⟨h1,hc,?_,HVL.out ▸ h3.1.cell lv hlv,h3.1.frozen lv,h3.2⟩
  rw [← hc]
  exact World.cell?_of_block (a:=⟨gb,0,none⟩) (Below.heap_setCell w' ⟨bv,lv,none⟩ _ gb (by show gb ≠ bv;omega))⟩
 clear HC HD HCC HB3 hwi hib hib2
 have HX3:Hush (w3.drew.cell? ⟨gb,0,none⟩ = some (.int .i64 lv)):=⟨HC3.out⟩
 go_region_held3 (fun w'=>w'.cell? ⟨gb,0,none⟩ = some (.int .i64 lv)) (first | with_reducible exact HX3.out | with_reducible exact HC4.out | with_reducible exact HC5.out)
  ((first | (go_at_call 133;refine HDD.out.mono ?_;rintro e w4 ⟨rfl,hc4,hc5,y1,y2,h5⟩;have HC4:=Hush.mk hc4;have HC5:=Hush.mk hc5;have H5:=Hush.mk h5;clear hc4 hc5 h5)))
 go_wp2
 go_ret
 exact ⟨rfl,_,H5.out.1,H5.out.2.1,H5.out.2.2⟩
end Go.Proofs.YteilnbnnhocciaaDoor.V
