/- VersionWhole: the card of the statement VersionWhole, with no condition: what a pick has is all that overlaps it, a version made of another one's files is that one, edits change no version. (part 4 of 8; packed by program out of the texts named below) -/
import Derived.Test.YteilnbnnhocciaaDoorXJ3
set_option linter.unusedVariables false
set_option linter.unusedSimpArgs false

/-! KV48 -/
namespace Go.Proofs.YteilnbnnhocciaaDoor.KV
open Go.RowKit Go.Proofs.YteilnbnnhocciaaDoorW.PrintWords Go.Proofs.YteilnbnnhocciaaDoorW.PrintLast Go.Proofs.YteilnbnnhocciaaDoorW.PrintMore Go.Proofs.YteilnbnnhocciaaDoorM
attribute [local go_sem] max2_int min2_int max_two min_two max_three min_three max_four min_four
def bourselaw13_files.l0:Nat → List (S112) → List (S97) → Int → Int → Option ((List (S112)))
 | 0,_,_,_,_=>none
 | k + 1,x3,x6,x7,x8=>if x8 < x7 then (if 0 ≤ x8 then (if x8 < (x6.length:Int) then (if x3.length < 2513169434916 then (bourselaw13_files.l0 k (x3 ++ [(⟨(rd_T97 x6 x8).f0,(rd_T97 x6 x8).f1,(rd_T97 x6 x8).f2,(rd_T97 x6 x8).f3,(rd_T97 x6 x8).f4⟩:S112)]) x6 x7 (wrap64 (x8 + 1))) else (none)) else (none)) else (none)) else (some x3)
def bourselaw13_files.f (k:Nat) (l0:List (S97)):Option ((List (S112))):=bourselaw13_files.l0 k ([]:List (S112)) l0 (l0.length:Int) 0
set_option maxHeartbeats 8000000 in
set_option maxRecDepth 100000 in
theorem bourselaw13_files.calls (k:Nat) (A0:Option Addr) (c0:Nat) (l0:List (S97)) (r:List (S112)) (w:World) (hr0:Kd.C k97 w A0 l0.length l0) (hc0:l0.length ≤ c0) (h:bourselaw13_files.f k l0 = some r) :
  Calls Tryd.prog 43 #[.slice A0 l0.length c0] w fun e w'=>∃ v0_:Value,e = .returned (v0_) ∧ Kd.R k112 112 w' w.heap.size (fun _=>True) v0_ r ∧ Below w.heap.size w w':=by
 have hu97:=Tryd.underlying97
 have HR0:=Aside0.mk hr0
 have HC0:=Aside0.mk hc0
 clear hr0 hc0
 have HB:=Aside0.mk (Below.refl w.heap.size w)
 have H:(bourselaw13_files.l0 k ([]:List (S112)) l0 (l0.length:Int) 0) = some r:=h
 clear h
 have H':=Aside0.mk H
 clear H
 go_enter Tryd.func43,Tryd.ntmps43
 go_wp2
 go_loopg [3,8] k (fun kq v3 v8 w'=>∃ (x3_1:List (S112)) (x8_1:Int),v8 = .int .i64 x8_1 ∧ Aside0 (bourselaw13_files.l0 kq x3_1 l0 (l0.length:Int) x8_1 = some r) ∧ Aside0 (kq ≤ k) ∧ Aside0 (Kd.R k112 112 w' w.heap.size (fun _=>True) v3 x3_1) ∧ Aside0 (Below w.heap.size w w'))
 case atStart=>exact ⟨(([]:List (S112))),(0),(by first | rfl | (simp;done) | (simp [*];done)),H',⟨Nat.le_refl _⟩,⟨by first | exact Kd.R_nil _ _ _ _ _ | exact Kd.N_nil _ _ _ _ _ | exact Kd.V_nil _ _ _ _ _ | exact Kd.Q_nil _ _ _ _ _ | exact Kd.S_nil _ _ _ _ _⟩,⟨by repeat (first | (with_reducible first | exact HB.out | apply below_alloc | apply pw_below_drewN | apply below_drew1) | exact HB.out)⟩⟩
 case round=>
  clear H'
  obtain ⟨x3_1,x8_1,rfl,HA,HK1,HO_3,HB⟩:=hrel
  cases gk with
  | zero=>exact absurd HA.out (by simp [bourselaw13_files.l0])
  | succ k1=>
   have H:=HA.out
   clear HA
   simp only [bourselaw13_files.l0] at H
   by_cases c2:x8_1 < (l0.length:Int)
   ·rw [if_pos c2] at H
    have c2b0:decide (x8_1 < (l0.length:Int)) = true:=decide_eq_true c2
    clear c2
    by_cases c3:0 ≤ x8_1
    ·rw [if_pos c3] at H
     have c3b0:decide (0 ≤ x8_1) = true:=decide_eq_true c3
     clear c3
     by_cases c4:x8_1 < (l0.length:Int)
     ·rw [if_pos c4] at H
      have c4b0:decide (x8_1 < (l0.length:Int)) = true:=decide_eq_true c4
      clear c4
      by_cases c5:x3_1.length < 2513169434916
      ·rw [if_pos c5] at H
       have LMc5:=Aside0.mk c5
       clear c5
       obtain ⟨y186,hy186⟩:∃ y_:List (S112),y_ = (x3_1 ++ [(⟨(rd_T97 l0 x8_1).f0,(rd_T97 l0 x8_1).f1,(rd_T97 l0 x8_1).f2,(rd_T97 l0 x8_1).f3,(rd_T97 l0 x8_1).f4⟩:S112)]):=⟨_,rfl⟩
       replace H:(bourselaw13_files.l0 k1 y186 l0 (l0.length:Int) (wrap64 (x8_1 + 1))) = some r:=by first | (rw [hy186];with_reducible exact H) | (have H2_:=(Option.bind_some _ _).symm.trans H;rw [hy186];with_reducible exact H2_) | (have H2_:=(Option.bind_some _ _).symm.trans H;with_reducible exact H2_) | with_reducible exact H | (rw [hy186];exact H) | exact H
       have Ny186:=Aside0.mk hy186
       clear hy186
       have H':=Aside0.mk H
       clear H
       have p184:0 ≤ (x8_1:Int):=of_decide_eq_true (by first | (with_reducible assumption) | assumption)
       have q184:x8_1 < (l0.length:Int):=of_decide_eq_true (by first | (with_reducible assumption) | assumption)
       obtain ⟨ad184,e184,hx184_0,hx184_1,hx184_2,hx184_3,hx184_4⟩:=at_T97 HR0.out x8_1 p184 q184
       cases e184
       replace hx184_0:=(HB.out.cell (World.block_lt_of_cell? w _ hx184_0)).trans hx184_0
       replace hx184_1:=(HB.out.cell (World.block_lt_of_cell? w _ hx184_1)).trans hx184_1
       replace hx184_2:=(HB.out.cell (World.block_lt_of_cell? w _ hx184_2)).trans hx184_2
       replace hx184_3:=(HB.out.cell (World.block_lt_of_cell? w _ hx184_3)).trans hx184_3
       replace hx184_4:=(HB.out.cell (World.block_lt_of_cell? w _ hx184_4)).trans hx184_4
       replace p184:=eq_true p184
       replace q184:=eq_true q184
       go_wp2_with (first | ((with_reducible refine gate_dst (N:=5) rfl ?_);refine box_event ?hg (N:=5) ?hd (cs:=#[.int .u64 0,.int .u64 0,.int .u64 0,.string (⟨#[]⟩:ByteArray),.string (⟨#[]⟩:ByteArray)]) (t:=97) ?hr ?_;(case hd=>rfl);(case hg=>rfl);(case hr=>first | (go_simp;done) | (go_simp;rfl));intro gb185 hg w6 hbox hb;have n0_:=Aside0.mk (Kd.R_below (by (with_reducible repeat (first | apply Kd.R_alloc | apply Kd.R_drewN | apply Kd.R_drew));exact HO_3.out) hb);have n1_:=Aside0.mk (below_step (by repeat (first | (with_reducible first | exact HB.out | apply below_alloc | apply pw_below_drewN | apply below_drew1) | exact HB.out)) hb);have n2_:=Aside0.mk (hbox);have n3_:=Aside0.mk ((by rw [hg];exact (below_size (by repeat (first | (with_reducible first | exact HB.out | apply below_alloc | apply pw_below_drewN | apply below_drew1) | exact HB.out))):w.heap.size ≤ gb185));have n4_:=Aside0.mk ((by rw [hg];exact (below_size (by repeat (first | (with_reducible first | exact HB.out | apply below_alloc | apply pw_below_drewN | apply below_drew1) | exact HB.out))):w.heap.size ≤ gb185));clear HO_3;clear HB;have HO_3:=n0_;have HB:=n1_;have BK185:=n2_;have GW185:=n3_;have GE185:=n4_;clear n0_ n1_ n2_ n3_ n4_;clear hb hbox hg;have hcz7_0:w6.cell? ⟨gb185,0,none⟩ = some (.int .u64 0):=(blk_cell BK185.out 0).trans rfl;have hcz7_1:w6.cell? ⟨gb185,1,none⟩ = some (.int .u64 0):=(blk_cell BK185.out 1).trans rfl;have hcz7_2:w6.cell? ⟨gb185,2,none⟩ = some (.int .u64 0):=(blk_cell BK185.out 2).trans rfl;have hcz7_3:w6.cell? ⟨gb185,3,none⟩ = some (.string (⟨#[]⟩:ByteArray)):=(blk_cell BK185.out 3).trans rfl;have hcz7_4:w6.cell? ⟨gb185,4,none⟩ = some (.string (⟨#[]⟩:ByteArray)):=(blk_cell BK185.out 4).trans rfl;have hfz7_0:=blk_frozen BK185.out 0;have hfz7_1:=blk_frozen BK185.out 1;have hfz7_2:=blk_frozen BK185.out 2;have hfz7_3:=blk_frozen BK185.out 3;have hfz7_4:=blk_frozen BK185.out 4) | ((with_reducible refine gate_builtin (b:=.append) (xs:=#[.tmp 12,.tmp 14]) rfl ?_);at_builtin;refine Kd.R_append k112 (w0:=w) w.heap.size rfl (.tmp 12) (.tmp 14) 80 112 (.agg #[(.int .u64 0),(.int .u64 0),(.int .u64 0),(.string ⟨#[]⟩),(.string ⟨#[]⟩)]) 56 rfl Tryd.underlying80 info112 rfl (by decide) (by omega) u3 x3_1 (⟨(rd_T97 l0 x8_1).f0,(rd_T97 l0 x8_1).f1,(rd_T97 l0 x8_1).f2,(rd_T97 l0 x8_1).f3,(rd_T97 l0 x8_1).f4⟩:S112) [.int .u64 ((rd_T97 l0 x8_1).f0),.int .u64 ((rd_T97 l0 x8_1).f1),.int .u64 ((rd_T97 l0 x8_1).f2),.string ((rd_T97 l0 x8_1).f3),.string ((rd_T97 l0 x8_1).f4)] (fun _=>True) (fun _=>False) rfl (by first | (go_simp;done) | (go_simp;rfl)) ?aP (fun _ hk=>hk.elim) ?aF ?aO ?aB ?aS ?aL ?_;(case aP=>exact k112_mkM _ _ _ (⟨(rd_T97 l0 x8_1).f0,(rd_T97 l0 x8_1).f1,(rd_T97 l0 x8_1).f2,(rd_T97 l0 x8_1).f3,(rd_T97 l0 x8_1).f4⟩:S112));(case aB=>exact (by repeat (first | (with_reducible first | exact HB.out | apply below_alloc | apply pw_below_drewN | apply below_drew1 | refine below_set ?_ GE185.out) | exact HB.out)));(case aF=>exact (fun _ _=>trivial));(case aO=>exact (by (with_reducible repeat (first | apply Kd.R_alloc | apply Kd.R_drewN | apply Kd.R_drew));exact Kd.R_mono (Kd.R_far (p:=⟨gb185,4,none⟩) (Kd.R_far (p:=⟨gb185,3,none⟩) (Kd.R_far (p:=⟨gb185,2,none⟩) (Kd.R_far (p:=⟨gb185,1,none⟩) (Kd.R_far (p:=⟨gb185,0,none⟩) (Kd.R_types HO_3.out BK185.out (by decide)) (fun _ hk=>hk.2) (.int .u64 ((rd_T97 l0 x8_1).f0))) (fun _ hk=>hk.2) (.int .u64 ((rd_T97 l0 x8_1).f1))) (fun _ hk=>hk.2) (.int .u64 ((rd_T97 l0 x8_1).f2))) (fun _ hk=>hk.2) (.string ((rd_T97 l0 x8_1).f3))) (fun _ hk=>hk.2) (.string ((rd_T97 l0 x8_1).f4))) (fun _ hk=>trivial)));(case aS=>exact (below_size (by repeat (first | (with_reducible first | exact HB.out | apply below_alloc | apply pw_below_drewN | apply below_drew1 | refine below_set ?_ GE185.out) | exact HB.out))));(case aL=>have:=LMc5.out;omega);intro v187 w8 ho hb hg hat;rw [← Ny186.out] at ho;have n0_:=Aside0.mk (blk_grown (g:=gb185) (o:=.cells #[.int .u64 ((rd_T97 l0 x8_1).f0),.int .u64 ((rd_T97 l0 x8_1).f1),.int .u64 ((rd_T97 l0 x8_1).f2),.string ((rd_T97 l0 x8_1).f3),.string ((rd_T97 l0 x8_1).f4)] 97 (0,0)) (by (with_reducible repeat (first | refine blk_drewN ?_ _ | refine blk_drew ?_ | refine blk_alloc ?_ _));refine blk_put (cs:=#[.int .u64 ((rd_T97 l0 x8_1).f0),.int .u64 ((rd_T97 l0 x8_1).f1),.int .u64 ((rd_T97 l0 x8_1).f2),.string ((rd_T97 l0 x8_1).f3),.string (⟨#[]⟩:ByteArray)]) ?_ 4 _ rfl;(with_reducible repeat (first | refine blk_drewN ?_ _ | refine blk_drew ?_ | refine blk_alloc ?_ _));refine blk_put (cs:=#[.int .u64 ((rd_T97 l0 x8_1).f0),.int .u64 ((rd_T97 l0 x8_1).f1),.int .u64 ((rd_T97 l0 x8_1).f2),.string (⟨#[]⟩:ByteArray),.string (⟨#[]⟩:ByteArray)]) ?_ 3 _ rfl;(with_reducible repeat (first | refine blk_drewN ?_ _ | refine blk_drew ?_ | refine blk_alloc ?_ _));refine blk_put (cs:=#[.int .u64 ((rd_T97 l0 x8_1).f0),.int .u64 ((rd_T97 l0 x8_1).f1),.int .u64 0,.string (⟨#[]⟩:ByteArray),.string (⟨#[]⟩:ByteArray)]) ?_ 2 _ rfl;(with_reducible repeat (first | refine blk_drewN ?_ _ | refine blk_drew ?_ | refine blk_alloc ?_ _));refine blk_put (cs:=#[.int .u64 ((rd_T97 l0 x8_1).f0),.int .u64 0,.int .u64 0,.string (⟨#[]⟩:ByteArray),.string (⟨#[]⟩:ByteArray)]) ?_ 1 _ rfl;(with_reducible repeat (first | refine blk_drewN ?_ _ | refine blk_drew ?_ | refine blk_alloc ?_ _));refine blk_put (cs:=#[.int .u64 0,.int .u64 0,.int .u64 0,.string (⟨#[]⟩:ByteArray),.string (⟨#[]⟩:ByteArray)]) ?_ 0 _ rfl;(with_reducible repeat (first | refine blk_drewN ?_ _ | refine blk_drew ?_ | refine blk_alloc ?_ _));exact BK185.out) hg (Kd.R_ne HO_3.out BK185.out (by decide)));have n1_:=Aside0.mk (hb);have n2_:=Aside0.mk (ho);clear BK185;clear HB;clear HO_3;have BK185:=n0_;have HB:=n1_;have HO188:=n2_;clear n0_ n1_ n2_;clear ho hb hg hat))
       go_roundg k1
       case measure=>have:=HK1.out;omega
       case rel=>exact ⟨(y186),(wrap64 (x8_1 + 1)),(by first | rfl | (simp;done) | (simp [*];done)),H',⟨by have:=HK1.out;omega⟩,⟨by (with_reducible repeat (first | apply Kd.R_alloc | apply Kd.R_drewN | apply Kd.R_drew));exact HO188.out⟩,⟨by repeat (first | (with_reducible first | exact HB.out | apply below_alloc | apply pw_below_drewN | apply below_drew1 | refine below_set ?_ GE185.out) | exact HB.out)⟩⟩
      ·rw [if_neg c5] at H
       exact absurd H (by simp)
     ·rw [if_neg c4] at H
      exact absurd H (by simp)
    ·rw [if_neg c3] at H
     exact absurd H (by simp)
   ·rw [if_neg c2] at H
    have c2b0:decide (x8_1 < (l0.length:Int)) = false:=decide_eq_false c2
    clear c2
    obtain rfl:=Option.some.inj H
    go_wp2
    go_ret
    exact ⟨_,by first | rfl | (simp [errW_none,errW_some] <;> rfl) | (simp [*,errW_none,errW_some] <;> rfl),by (with_reducible repeat (first | apply Kd.R_alloc | apply Kd.R_drewN | apply Kd.R_drew));exact HO_3.out,by repeat (first | (with_reducible first | exact HB.out | apply below_alloc | apply pw_below_drewN | apply below_drew1) | exact HB.out)⟩
end Go.Proofs.YteilnbnnhocciaaDoor.KV

/-! V16 -/
namespace Go.Proofs.YteilnbnnhocciaaDoor.V
open Go.Proofs Go.RowKit Go.BigFrame Go.Proofs.YteilnbnnhocciaaDoorM Go.Proofs.YteilnbnnhocciaaDoorW.PrintWords Go.Proofs.YteilnbnnhocciaaDoorW.PrintLast Go.Proofs.YteilnbnnhocciaaDoorW.PrintMore Go.Proofs.YteilnbnnhocciaaDoor.KV
def s97 (f:FileV):S97:=⟨f.num,f.size,f.count,f.least,f.most⟩
def s112 (f:FileV):S112:=⟨f.num,f.size,f.count,f.least,f.most⟩
def of97 (f:S97):FileV:=⟨f.f0,f.f1,f.f2,f.f3,f.f4⟩
theorem cells_of_fileAt {w:World} {p:Addr} {i:Nat} {f:FileV} (h:FileAt w (p.add (i * 5)) f):∀ j u,[Value.int .u64 f.num,.int .u64 f.size,.int .u64 f.count,.string f.least,.string f.most][j]? = some u → w.cell? (p.add (i * 5 + j)) = some u:=by
 intro j u hu
 match j,hu with
 | 0,hu=>obtain rfl:=Option.some.inj hu;exact h.1
 | 1,hu=>obtain rfl:=Option.some.inj hu;rw [add_field _ _ 1 (by omega)];exact h.2.1
 | 2,hu=>obtain rfl:=Option.some.inj hu;rw [add_field _ _ 2 (by omega)];exact h.2.2.1
 | 3,hu=>obtain rfl:=Option.some.inj hu;rw [add_field _ _ 3 (by omega)];exact h.2.2.2.1
 | 4,hu=>obtain rfl:=Option.some.inj hu;rw [add_field _ _ 4 (by omega)];exact h.2.2.2.2
theorem fileAt_of_cells {w:World} {p:Addr} {i:Nat} {f:FileV} (h:∀ j u,[Value.int .u64 f.num,.int .u64 f.size,.int .u64 f.count,.string f.least,.string f.most][j]? = some u → w.cell? (p.add (i * 5 + j)) = some u):FileAt w (p.add (i * 5)) f:=
 ⟨h 0 _ rfl,by rw [← add_field _ _ 1 (by omega)];exact h 1 _ rfl,by rw [← add_field _ _ 2 (by omega)];exact h 2 _ rfl,by rw [← add_field _ _ 3 (by omega)];exact h 3 _ rfl,by rw [← add_field _ _ 4 (by omega)];exact h 4 _ rfl⟩
theorem filesAt_of112 {w:World} {A:Option Addr} {n:Nat} {L:List FileV} (h:Kd.C k112 w A n (L.map s112)):FilesAt w A L:=fun h0=>by
 obtain ⟨ad,e,hc⟩:=h.2.2 (by have:=h.1;simp at this;omega)
 refine ⟨ad,e,fun i x hx=>?_⟩
 obtain ⟨c,hs,hK,hcell⟩:=hc i (s112 x) (by rw [List.getElem?_map,hx];rfl)
 obtain rfl:=k112_open hK
 exact fileAt_of_cells hcell
theorem filesAt_to97 {w:World} {A:Option Addr} {L:List FileV} (h:FilesAt w A L) (hl:L.length ≤ 1000000):Kd.C k97 w A (L.map s97).length (L.map s97):=by
 refine ⟨rfl,by simp;omega,fun h0=>?_⟩
 obtain ⟨ad,e,hc⟩:=h (by simpa using h0)
 refine ⟨ad,e,fun j p hj=>?_⟩
 rw [List.getElem?_map] at hj
 obtain ⟨x,hx,rfl⟩:=Option.map_eq_some_iff.1 hj
 exact ⟨_,rfl,k97_mk w (s97 x),cells_of_fileAt (hc j x hx)⟩
theorem rd97 {l:List S97} {i:Nat} (h:i < l.length):rd_T97 l (i:Int) = l[i]:=by simp [rd_T97,List.getD,h]
theorem files_l0:∀ (d k i:Nat) (g:List S97) (acc:List S112),i + d = g.length → d < k → acc.length + d ≤ 1000000 → g.length ≤ 9223372036854775807 →
  bourselaw13_files.l0 k acc g (g.length:Int) (i:Int) = some (acc ++ (g.drop i).map fun x=>s112 (of97 x)):=by
 intro d
 induction d with
 | zero=>
  intro k i g acc hi hk hl hg
  obtain ⟨k,rfl⟩:∃ k',k = k' + 1:=⟨k - 1,by omega⟩
  rw [bourselaw13_files.l0,if_neg (by omega),List.drop_of_length_le (by omega)]
  simp
 | succ d ih=>
  intro k i g acc hi hk hl hg
  obtain ⟨k,rfl⟩:∃ k',k = k' + 1:=⟨k - 1,by omega⟩
  have hlt:i < g.length:=by omega
  rw [bourselaw13_files.l0,if_pos (by omega),if_pos (by omega),if_pos (by omega),if_pos (by omega),wr1 hlt hg,rd97 hlt,ih k (i + 1) g _ (by omega) (by omega) (by simp;omega) hg,List.drop_eq_getElem_cons hlt]
  simp only [List.append_assoc,List.map_cons,List.cons_append,List.nil_append];rfl
theorem files_eq (L:List FileV) (hl:L.length ≤ 1000000):bourselaw13_files.f 1000001 (L.map s97) = some (L.map s112):=by
 have h:=files_l0 (L.map s97).length 1000001 0 (L.map s97) [] (by omega) (by simp;omega) (by simp;omega) (by simp;omega)
 unfold bourselaw13_files.f
 rw [show (0:Int) = ((0:Nat):Int) from rfl,h]
 simp only [List.nil_append,List.drop_zero,List.map_map]
 rfl
structure BelowBy (w:World) where
 wr:World
 h:Below w.heap.size w wr
instance (w:World):Inhabited (BelowBy w):=⟨⟨w,Below.refl _ _⟩⟩
theorem wp_region_quiet_below {P:Program} {id:Nat} {Q:Exit → Act → World → Prop} {a:Act} {w:World} {l:List Oper} (hm:P.follows .mixedOrders = true) (hB:Region.lexB .any l.toArray = true)
  (h:wpQuiet P l.toArray (fun w'=>∃ p:BelowBy w,w' = p.wr) (fun a'=>∀ w',(∃ p:BelowBy w,w' = p.wr) → Q .normal a' w') l a):(Code.region id l.toArray true).wp P Q a w:=
 wp_region_quiet (C:=fun w'=>∃ p:BelowBy w,w' = p.wr) hm hB ⟨⟨{ w with drawn:=w.drawn + 1 },⟨rfl,rfl,rfl,Nat.le_refl _,fun _ _=>rfl⟩⟩,rfl⟩ (by simpa using h)
theorem below_cell {w:World} {a:Addr} {v:Value} (h:w.cell? a = some v) (p:BelowBy w):p.wr.cell? a = some v:=(p.h.cell (World.block_lt_of_cell? w _ h)).trans h
theorem Calls.below_of {P:Program} {f:FuncId} {args:Array Value} {w:World} {v:Value} {p:BelowBy w}
  (h:Calls P f args p.wr fun e w'=>e = .returned v ∧ Below p.wr.heap.size p.wr w'):Calls P f args p.wr fun e w''=>e = .returned v ∧ ∃ q:BelowBy w,w'' = q.wr:=
 h.mono fun _ w'' ⟨he,hb⟩=>⟨he,⟨⟨w'',p.h.trans (hb.mono p.h.size)⟩,rfl⟩⟩
end Go.Proofs.YteilnbnnhocciaaDoor.V

/-! V17 -/
namespace Go.Proofs.YteilnbnnhocciaaDoor.V
open Go.Proofs Go.RowKit Go.BigFrame Go.Proofs.YteilnbnnhocciaaDoorM Go.Proofs.YteilnbnnhocciaaDoorW.PrintWords Go.Proofs.YteilnbnnhocciaaDoorW.PrintLast Go.Proofs.YteilnbnnhocciaaDoorW.PrintMore Go.Proofs.YteilnbnnhocciaaDoor.KV
def Four (w:World) (b:Nat) (f:Nat → Value):Prop:=∃ t,w.heap[b]? = some (.cells #[f 0,f 1,f 2,f 3] t)
theorem Four.cell {w:World} {b:Nat} {f:Nat → Value} (h:Four w b f) (i:Nat) (hi:i < 4):w.cell? ⟨b,i,none⟩ = some (f i):=by
 obtain ⟨t,h⟩:=h
 simp only [World.cell?,h]
 have:i = 0 ∨ i = 1 ∨ i = 2 ∨ i = 3:=by omega
 rcases this with rfl | rfl | rfl | rfl <;> rfl
theorem Four.frozen {w:World} {b:Nat} {f:Nat → Value} (h:Four w b f) (i:Nat):w.frozen? ⟨b,i,none⟩ = false:=by
 obtain ⟨t,h⟩:=h
 simp [World.frozen?,h]
theorem Four.lt {w:World} {b:Nat} {f:Nat → Value} (h:Four w b f):b < w.heap.size:=by
 obtain ⟨t,h⟩:=h
 exact (Array.getElem?_eq_some_iff.1 h).1
theorem Four.keep {w w':World} {b:Nat} {f:Nat → Value} (h:Four w b f) (hb:w'.heap[b]? = w.heap[b]?):Four w' b f:=by
 obtain ⟨t,h⟩:=h
 exact ⟨t,hb.trans h⟩
theorem Four.below {w w':World} {b:Nat} {f:Nat → Value} (h:Four w b f) (hb:Below w.heap.size w w'):Four w' b f:=h.keep (hb.block b h.lt)
theorem Four.set {w:World} {b:Nat} {f:Nat → Value} (h:Four w b f) (i:Nat) (hi:i < 4) (v:Value):Four (w.setCell ⟨b,i,none⟩ v) b (fun x=>if x = i then v else f x):=by
 obtain ⟨t,h⟩:=h
 refine ⟨t,?_⟩
 obtain ⟨hlt,hk⟩:=Array.getElem?_eq_some_iff.1 h
 show (w.heap.modify b _)[b]? = _
 rw [Array.getElem?_eq_getElem (by rw [Array.size_modify];exact hlt),Array.getElem_modify_self,hk]
 have:i = 0 ∨ i = 1 ∨ i = 2 ∨ i = 3:=by omega
 rcases this with rfl | rfl | rfl | rfl <;> rfl
theorem Four.far {w:World} {b b' i:Nat} {f:Nat → Value} (h:Four w b f) (hb:b ≠ b') (v:Value):Four (w.setCell ⟨b',i,none⟩ v) b f:=h.keep (Below.heap_setCell w ⟨b',i,none⟩ v b hb)
def nilS:Value:=.slice none 0 0
theorem FileAt.far {w:World} {p a:Addr} {f:FileV} (h:FileAt w p f) (hne:p.block ≠ a.block) (v:Value):FileAt (w.setCell a v) p f:=h.of_block (Below.heap_setCell w a v p.block hne)
theorem Four.no_int {w:World} {b:Nat} {f:Nat → Value} (h:Four w b f) (hs:∀ i,i < 4 → ∃ B n c,f i = .slice B n c) {p:Addr} (hp:p.block = b) {k:IntKind} {x:Int} (hx:w.cell? p = some (.int k x)):False:=by
 obtain ⟨t,h⟩:=h
 subst hp
 obtain ⟨B0,n0,k0,e0⟩:=hs 0 (by omega)
 obtain ⟨B1,n1,k1,e1⟩:=hs 1 (by omega)
 obtain ⟨B2,n2,k2,e2⟩:=hs 2 (by omega)
 obtain ⟨B3,n3,k3,e3⟩:=hs 3 (by omega)
 rw [e0,e1,e2,e3] at h
 simp only [World.cell?,h] at hx
 match hq:p.off,hx with
 | 0,hx=>simp at hx
 | 1,hx=>simp at hx
 | 2,hx=>simp at hx
 | 3,hx=>simp at hx
 | n + 4,hx=>simp at hx
theorem filesAt_far {w:World} {A:Option Addr} {L:List FileV} (h:FilesAt w A L) {a:Addr} {f:Nat → Value} {b:Nat} (ha:a.block = b) (hb:Four w b f) (hs:∀ i,i < 4 → ∃ B n c,f i = .slice B n c) (v:Value):FilesAt (w.setCell a v) A L:=fun h0=>by
 obtain ⟨ad,e,hc⟩:=h h0
 exact ⟨ad,e,fun i x hx=>(hc i x hx).far (fun e2=>hb.no_int hs (e2.trans ha) (hc i x hx).1) v⟩
end Go.Proofs.YteilnbnnhocciaaDoor.V

/-! KV28 -/
namespace Go.Proofs.YteilnbnnhocciaaDoor.KV
open Go.RowKit Go.Proofs.YteilnbnnhocciaaDoorW.PrintWords Go.Proofs.YteilnbnnhocciaaDoorW.PrintLast Go.Proofs.YteilnbnnhocciaaDoorW.PrintMore Go.Proofs.YteilnbnnhocciaaDoorM
attribute [local go_sem] max2_int min2_int max_two min_two max_three min_three max_four min_four
def varint_Num.l:Nat → Int → List Int → Option ByteArray
 | 0,_,_=>none
 | k + 1,n,xs=>if 128 ≤ n then varint_Num.l k (n / 128) (xs ++ [Go.bits .or .u8 (n % 256) 128]) else some (strOfNums (xs ++ [n]))
def varint_Num.f (k:Nat) (a0:Int):Option ByteArray:=if 0 ≤ a0 ∧ a0 ≤ 18446744073709551615 then varint_Num.l k a0 [] else none
theorem varint_Num.room {m:Int} {n:Nat} (h0:0 ≤ m) (h:m.toNat * 128 ^ n ≤ 18446744073709551615) (h1:128 ≤ m):(m / 128).toNat * 128 ^ (n + 1) ≤ 18446744073709551615 ∧ n < 10:=by
 constructor
 ·have e:(m / 128).toNat * 128 ≤ m.toNat:=by omega
  calc (m / 128).toNat * 128 ^ (n + 1) = ((m / 128).toNat * 128) * 128 ^ n:=by rw [Nat.pow_succ,Nat.mul_comm (128 ^ n) 128,Nat.mul_assoc]
   _ ≤ m.toNat * 128 ^ n:=Nat.mul_le_mul_right _ e
   _ ≤ _:=h
 ·rcases Nat.lt_or_ge n 10 with hn | hn
  ·exact hn
  ·have h2:128 ^ 10 ≤ 128 ^ n:=Nat.pow_le_pow_right (by decide) hn
   have h3:1 * 128 ^ n ≤ m.toNat * 128 ^ n:=Nat.mul_le_mul_right _ (by omega)
   have h4:(128:Nat) ^ 10 = 1180591620717411303424:=by decide
   omega
theorem varint_Num.info5:(Tryd.prog.info? 5).map (fun i=>(i.zero,i.size,i.bytes)) = some (some (.int .u8 0),1,1):=by kernel_rfl
def varint_Num.Post (w:World) (r:ByteArray) (e:Ending) (w':World):Prop:=e = .returned (.string r) ∧ Below w.heap.size w w'
def varint_Num.J (w:World) (r:ByteArray) (a':Act) (w':World):Prop:=Below w.heap.size w w' ∧ ∃ (k:Nat) (m:Int) (xs:List Int) (v u4 u5 u6 u7 u8 u9 u10 u11 u12 u13:Value),
 0 ≤ m ∧ m ≤ 18446744073709551615 ∧ a' = { tmps:=#[.int .u64 m,undef,.string ⟨#[]⟩,v,u4,u5,u6,u7,u8,u9,u10,u11,u12,u13,undef,undef,undef,undef,undef,undef],defers:=[] } ∧ w'.ownsRow w.heap.size 5 1 v xs.length (xs.map (Value.int .u8)) ∧ xs.length ≤ 10 ∧ m.toNat * 128 ^ xs.length ≤ 18446744073709551615 ∧ varint_Num.l k m xs = some r
set_option maxHeartbeats 1000000 in
set_option maxRecDepth 100000 in
theorem varint_Num.walk (k:Nat) (n:Int) (r:ByteArray) (w:World) (h:varint_Num.l k n [] = some r) (h0:0 ≤ n) (h1:n ≤ 18446744073709551615) :
  Calls Tryd.prog 105 #[.int .u64 n] w (varint_Num.Post w r):=by
 obtain ⟨i0,hi,hz0,hz1,hz2⟩:=info_parts varint_Num.info5
 have H:=Hush.mk h
 clear h
 go_enter Tryd.func105,Tryd.ntmps105
 go_wp2
 refine wp_scope_first 0 (varint_Num.J w r) (fun a' _=>(intOf (a'.tmps.getD 0 undef)).toNat) rfl ?pass ?first
 case first=>
  intro hp
  go_wp2
  go_step3
  have hj:varint_Num.J w r { tmps:=#[.int .u64 n,undef,.string ⟨#[]⟩,.slice none 0 0,undef,undef,undef,undef,undef,undef,undef,undef,undef,undef,undef,undef,undef,undef,undef,undef],defers:=[] } w:=
   ⟨Below.refl _ _,k,n,[],.slice none 0 0,_,_,_,_,_,_,_,_,_,_,h0,h1,rfl,World.ownsRow_nil _ _ _ _,by simp,by simp;omega,H.out⟩
  exact (by assumption:∀ a w,Code.wp _ _ _ a w → _) _ _ (hp.out _ _ hj)
 case pass=>
  rintro a' w' ⟨hb,k,m,xs,v,u4,u5,u6,u7,u8,u9,u10,u11,u12,u13,m0,m1,rfl,hown,hx,hr,hl⟩
  have HL:=Hush.mk hl
  clear hl
  by_cases h128:128 ≤ m
  ·have HR:=Hush.mk (varint_Num.room m0 hr h128)
   clear hr
   go_wp2_with ((at_builtin;refine wpList_append_own _ rfl _ _ 64 rfl w.heap.size 5 i0 (.int .u8 0) 1 1 Tryd.underlying64 hi hz0 hz1 hz2 rfl (by decide) v xs.length (xs.map (Value.int .u8)) rfl (hown.alloc _) ⟨w'.heap.size,0,none⟩ 1 1 [.int .u8 (Go.bits .or .u8 (m % 256) 128)] rfl rfl (cell_one_new _ _ _) (by simp [Value.oneCell']) (by unfold maxLen;omega) (by omega) (by have:=hb.size;simp;omega) ?_;intro v' w1 hown1 hgrow _))
   go_wp2
   go_step3
   refine ⟨rfl,⟨(hb.trans ((Below.refl _ _).alloc (Nat.le_refl _) _ |>.mono hb.size)).grown hgrow (by have:=hb.size;simp;omega) (fun g hg=>(hown.lt g hg).1),k - 1,m / 128,xs ++ [Go.bits .or .u8 (m % 256) 128],v',_,_,_,_,_,_,_,_,_,_,by omega,by omega,rfl,?_,?_,?_,?_⟩,?_⟩
   ·simpa using hown1
   ·have:=HR.out.2;simp;omega
   ·have:=HR.out.1;simpa using this
   ·have:=HL.out
    cases k with
    | zero=>exact absurd this (by simp [varint_Num.l])
    | succ k=>rw [varint_Num.l,if_pos h128] at this;exact this
   ·simp [intOf];omega
  ·go_wp2_with ((at_builtin;refine wpList_append_own _ rfl _ _ 64 rfl w.heap.size 5 i0 (.int .u8 0) 1 1 Tryd.underlying64 hi hz0 hz1 hz2 rfl (by decide) v xs.length (xs.map (Value.int .u8)) rfl (hown.alloc _) ⟨w'.heap.size,0,none⟩ 1 1 [.int .u8 m] rfl rfl (cell_one_new _ _ _) (by simp [Value.oneCell']) (by unfold maxLen;omega) (by omega) (by have:=hb.size;simp;omega) ?_;intro v' w1 hown1 hgrow _;have hcv:=run_convert_own (n:=xs.length + 1) (xs:=xs ++ [m]) Tryd.underlying64 Tryd.underlying5 Tryd.underlying9 (by simp) (by simpa using hown1)))
   go_ret
   refine ⟨?_,(hb.trans ((Below.refl _ _).alloc (Nat.le_refl _) _ |>.mono hb.size)).grown hgrow (by have:=hb.size;simp;omega) (fun g hg=>(hown.lt g hg).1)⟩
   have:=HL.out
   cases k with
   | zero=>exact absurd this (by simp [varint_Num.l])
   | succ k=>rw [varint_Num.l,if_neg (by omega)] at this;rw [Option.some.inj this];rfl
theorem varint_Num.calls (k:Nat) (a0:Int) (r:ByteArray) (w:World) (h:varint_Num.f k a0 = some r) :
  Calls Tryd.prog 105 #[.int .u64 a0] w fun e w'=>e = .returned (.string r) ∧ Below w.heap.size w w':=by
 unfold varint_Num.f at h
 by_cases hc:0 ≤ a0 ∧ a0 ≤ 18446744073709551615
 ·rw [if_pos hc] at h
  exact varint_Num.walk k a0 r w h hc.1 hc.2
 ·rw [if_neg hc] at h
  cases h
end Go.Proofs.YteilnbnnhocciaaDoor.KV

/-! KV29 -/
namespace Go.Proofs.YteilnbnnhocciaaDoor.KV
open Go.RowKit Go.Proofs.YteilnbnnhocciaaDoorW.PrintWords Go.Proofs.YteilnbnnhocciaaDoorW.PrintLast Go.Proofs.YteilnbnnhocciaaDoorW.PrintMore Go.Proofs.YteilnbnnhocciaaDoorM
attribute [local go_sem] max2_int min2_int max_two min_two max_three min_three max_four min_four
def edit_nums.go:Nat → List Int → ByteArray → Option ByteArray
 | _,[],acc=>some acc
 | k,x :: xs,acc=>(varint_Num.f k x).bind fun t=>if acc.size + t.size ≤ 140737488355328 then edit_nums.go k xs (acc ++ t) else none
def edit_nums.f (k:Nat) (l0:List Int):Option ByteArray:=edit_nums.go k l0 ⟨#[]⟩
theorem edit_nums.int_at {w:World} {A:Option Addr} {k:IntKind} {xs:List Int} (h:Kd.C (Kd.int k) w A xs.length xs) (i:Nat) (hi:i < xs.length):∃ ad,A = some ad ∧ w.cell? (ad.add i) = some (.int k (xs.getD i 0)):=by
 obtain ⟨ad,c,e,_,hK,hc⟩:=Kd.C_get h 0 (i:Int) (by omega) (by omega)
 have hc':c = [.int k (xs.getD i 0)]:=hK
 subst hc'
 refine ⟨ad,e,?_⟩
 have h2:=hc 0 _ rfl
 have e2:(i:Int).toNat * (Kd.int k).sz + 0 = i:=by show (i:Int).toNat * 1 + 0 = i;omega
 rwa [e2] at h2
def edit_nums.J (w:World) (xs:List Int) (k:Nat) (r:ByteArray) (i:Nat) (wr:World):Prop:=
 ∃ acc:ByteArray,Lib.IsBuilder 140 5 w.heap.size w.heap.size (Lib.strCells acc) wr ∧ Below w.heap.size w wr ∧ edit_nums.go k (xs.drop i) acc = some r
set_option maxHeartbeats 1000000 in
set_option maxRecDepth 100000 in
theorem edit_nums.calls (k:Nat) (A0:Option Addr) (c0:Nat) (l0:List Int) (r:ByteArray) (w:World) (hr0:Kd.C (Kd.int .u64) w A0 l0.length l0) (hc0:l0.length ≤ c0) (h:edit_nums.f k l0 = some r) :
  Calls Tryd.prog 51 #[.slice A0 l0.length c0] w fun e w'=>e = .returned (.string r) ∧ Below w.heap.size w w':=by
 have hlen:=Kd.C_max hr0
 have H:=Hush.mk h
 have HR:=Hush.mk hr0
 clear h hr0
 go_enter Tryd.func51,Tryd.ntmps51
 go_wp2
 go_loopw [5,8] (fun _ i wr=>∃ k':Nat,i = .int .i64 k' ∧ k' ≤ l0.length ∧ edit_nums.J w l0 k r k' wr) (fun _ i _=>l0.length - (intOf i).toNat)
 case atStart=>exact ⟨0,rfl,by omega,⟨#[]⟩,Lib.fresh_isBuilder 140 5 w,(Below.refl _ _).alloc (Nat.le_refl _) _,H.out⟩
 case round=>
  obtain ⟨i,rfl,hi,acc,hb,hbl,hgo⟩:=hrel
  by_cases hlt:i < l0.length
  ·rw [List.drop_eq_getElem_cons hlt] at hgo
   obtain ⟨t,ht,hgo⟩:=Option.bind_eq_some_iff.mp hgo
   have hsz:acc.size + t.size ≤ 140737488355328:=by
    rcases Nat.lt_or_ge 140737488355328 (acc.size + t.size) with h2 | h2
    ·rw [if_neg (by omega)] at hgo;cases hgo
    ·exact h2
   rw [if_pos hsz] at hgo
   have HG:=Hush.mk hgo
   have HB:=Hush.mk hb
   have HT:=Hush.mk ht
   obtain ⟨ad,rfl,hcell⟩:=edit_nums.int_at HR.out i hlt
   have hcell':=(hbl.cell (World.block_lt_of_cell? w _ hcell)).trans hcell
   clear hgo ht hb hcell
   rw [show l0.getD i 0 = l0[i] by simp [List.getD,hlt]] at hcell'
   have hx:∃ x,x = l0[i]:=⟨_,rfl⟩
   obtain ⟨x,hx⟩:=hx
   rw [← hx] at hcell'
   have HX:=Hush.mk hx
   clear hx
   go_wp2_with fail
   refine (varint_Num.calls k x t _ (by rw [HX.out];exact HT.out)).mono ?_
   rintro e w2 ⟨rfl,hb2⟩
   have hbl2:Below w.heap.size w w2:=hbl.trans (hb2.mono hbl.size)
   go_wp2_with fail
   refine (writeString w.heap.size w.heap.size (Lib.strCells acc) t _ (builder_below HB.out hb2) (by rw [Lib.strCells_length];exact hsz) hbl2.size).mono ?_
   rintro e w3 ⟨rfl,hB3,hb3⟩
   have HB3:=Hush.mk hB3
   clear hB3
   go_wp2
   go_roundw
   case rel=>exact ⟨i + 1,by go_num,by omega,acc ++ t,.inr (by have:=HB3.out;simpa [Lib.strCells] using this),hbl2.trans hb3,HG.out⟩
   case measure=>simp [intOf];omega
  ·have he:i = l0.length:=by omega
   have HB:=Hush.mk hb
   have HE:=Hush.mk he
   have HG:=Hush.mk hgo
   clear he hgo hb
   go_wp2_with fail
   refine (Tryd.Builder_String_any w.heap.size w.heap.size acc.data.toList _ HB.out hbl.size).mono ?_
   rintro e w3 ⟨rfl,hb3⟩
   go_wp2
   go_ret
   have:=HG.out
   rw [HE.out,List.drop_length,edit_nums.go] at this
   obtain rfl:=Option.some.inj this
   exact ⟨rfl,hbl.trans hb3⟩
end Go.Proofs.YteilnbnnhocciaaDoor.KV

/-! KV30 -/
namespace Go.Proofs.YteilnbnnhocciaaDoor.KV
open Go.RowKit Go.Proofs.YteilnbnnhocciaaDoorW.PrintWords Go.Proofs.YteilnbnnhocciaaDoorW.PrintLast Go.Proofs.YteilnbnnhocciaaDoorW.PrintMore Go.Proofs.YteilnbnnhocciaaDoorM
attribute [local go_sem] max2_int min2_int max_two min_two max_three min_three max_four min_four
def varint_Text.f (k:Nat) (a0:ByteArray):Option (ByteArray):=(varint_Num.f k (IntKind.u64.wrap ((a0.size:Int)))).bind fun t109=>(if t109.size + a0.size ≤ 9223372036854775807 then (some (t109 ++ a0)) else (none))
set_option maxHeartbeats 1000000 in
theorem varint_Text.calls (k:Nat) (a0:ByteArray) (r:ByteArray) (w:World) (h:varint_Text.f k a0 = some r) :
  Calls Tryd.prog 52 #[.string a0] w fun e w'=>e = .returned (.string r) ∧ Below w.heap.size w w':=by
 obtain ⟨t,A20,H⟩:=Option.bind_eq_some_iff.mp h
 by_cases c3:t.size + a0.size ≤ 9223372036854775807
 ·rw [if_pos c3] at H
  obtain rfl:=Option.some.inj H
  have hc:=Aside0.mk (Nat.not_lt.2 c3)
  clear c3 H h
  have A2:=Aside0.mk A20
  clear A20
  go_enter Tryd.func52,Tryd.ntmps52
  go_wp2_with fail
  refine (varint_Num.calls k _ t _ A2.out).mono ?_
  rintro e w4 ⟨rfl,hb⟩
  have hc':=hc.out
  go_wp2
  go_ret
  exact ⟨rfl,hb⟩
 ·rw [if_neg c3] at H
  exact absurd H (by simp)
end Go.Proofs.YteilnbnnhocciaaDoor.KV

/-! KV31 -/
namespace Go.Proofs.YteilnbnnhocciaaDoor.KV
open Go.RowKit Go.Proofs.YteilnbnnhocciaaDoorW.PrintWords Go.Proofs.YteilnbnnhocciaaDoorW.PrintLast Go.Proofs.YteilnbnnhocciaaDoorW.PrintMore Go.Proofs.YteilnbnnhocciaaDoorM
attribute [local go_sem] max2_int min2_int max_two min_two max_three min_three max_four min_four
mutual
def edit_Edit_Bytes.l0:Nat → ByteArray → List (S107) → Int → Int → Int → Int → Int → List (S107) → List (S111) → Option (ByteArray × Int)
 | 0,_,_,_,_,_,_,_,_,_=>none
 | k + 1,x5,x29,x30,x31,x107000,x107001,x107002,x107003,x107004=>if x31 < x30 then (if 0 ≤ x31 then (if x31 < (x29.length:Int) then ((edit_nums.f k (([IntKind.u64.wrap ((rd_T107 x29 x31).f0),(rd_T107 x29 x31).f1.f0,(rd_T107 x29 x31).f1.f1,(rd_T107 x29 x31).f1.f2]:List Int))).bind fun t118=>((varint_Text.f k ((rd_T107 x29 x31).f1.f3)).bind fun t119=>(if t118.size + t119.size ≤ 9223372036854775807 then ((varint_Text.f k ((rd_T107 x29 x31).f1.f4)).bind fun t120=>(if (t118 ++ t119).size + t120.size ≤ 9223372036854775807 then (if x5.size + ((t118 ++ t119) ++ t120).size ≤ 9223372036854775807 then (edit_Edit_Bytes.l0 k (x5 ++ ((t118 ++ t119) ++ t120)) x29 x30 (wrap64 (x31 + 1)) x107000 x107001 x107002 x107003 x107004) else (none)) else (none))) else (none)))) else (none)) else (none)) else ((edit_nums.f k (([IntKind.u64.wrap ((x107004.length:Int))]:List Int))).bind fun t124=>(if x5.size + t124.size ≤ 9223372036854775807 then (edit_Edit_Bytes.l1 k (x5 ++ t124) x107004 (x107004.length:Int) 0) else (none)))
def edit_Edit_Bytes.l1:Nat → ByteArray → List (S111) → Int → Int → Option (ByteArray × Int)
 | 0,_,_,_,_=>none
 | k + 1,x5,x68,x69,x70=>if x70 < x69 then (if 0 ≤ x70 then (if x70 < (x68.length:Int) then ((edit_nums.f k (([IntKind.u64.wrap ((rd_T111 x68 x70).f0),(rd_T111 x68 x70).f1]:List Int))).bind fun t130=>(if x5.size + t130.size ≤ 9223372036854775807 then (edit_Edit_Bytes.l1 k (x5 ++ t130) x68 x69 (wrap64 (x70 + 1))) else (none))) else (none)) else (none)) else (some (x5,0))
end
def edit_Edit_Bytes.f (k:Nat) (a0_0:Int) (a0_1:Int) (a0_2:Int) (l0_3:List (S107)) (l0_4:List (S111)):Option (ByteArray × Int):=(edit_Edit_Check.f a0_0 a0_1 a0_2 l0_3 l0_4).bind fun t107=>(if t107 = 0 then ((edit_nums.f k (([a0_0,a0_1,a0_2,IntKind.u64.wrap ((l0_3.length:Int))]:List Int))).bind fun t111=>(edit_Edit_Bytes.l0 k t111 l0_3 (l0_3.length:Int) 0 a0_0 a0_1 a0_2 l0_3 l0_4)) else (some ((⟨#[]⟩:ByteArray),t107)))
def edit_Edit_Bytes.T9:Bool × List (List Nat × List Nat):=(true,[([],[]),([],[]),([1],[1]),([2],[2]),([],[]),([4],[4]),([],[]),([6],[6]),([],[]),([8],[8]),([3,5,7,9],[3,5,7,9]),([10],[10]),([],[]),([12],[12]),([13,11],[13]),([11,14],[11,14]),([],[]),([16],[16]),([17,14],[17]),([15,18],[15,18]),([0,19],[0,19]),([20,18,0,1,2,3,4,5,6,7,8,9,10,11,12,13,14,15,16,17,18,19,20],[0,20])])
def edit_Edit_Bytes.B9:List Nat:=[0,0,2,6,0,16,0,64,0,256,1022,2046,0,4096,16382,32766,0,65536,229374,524286,1048575,2097151]
theorem edit_Edit_Bytes.tab9:rtab .any (opsOf Tryd.f15 9) = edit_Edit_Bytes.T9:=by kernel_rfl
theorem edit_Edit_Bytes.bits9:waitsOk edit_Edit_Bytes.T9.2 edit_Edit_Bytes.B9 = true:=by kernel_rfl
set_option maxHeartbeats 8000000 in
set_option maxRecDepth 100000 in
theorem edit_Edit_Bytes.calls (k:Nat) (a0_0:Int) (a0_1:Int) (a0_2:Int) (A0_3:Option Addr) (c0_3:Nat) (l0_3:List (S107)) (A0_4:Option Addr) (c0_4:Nat) (l0_4:List (S111)) (r1:ByteArray) (r2:Int) (w:World) (hr0_3:Kd.C k107 w A0_3 l0_3.length l0_3) (hc0_3:l0_3.length ≤ c0_3) (hr0_4:Kd.C k111 w A0_4 l0_4.length l0_4) (hc0_4:l0_4.length ≤ c0_4) (h:edit_Edit_Bytes.f k a0_0 a0_1 a0_2 l0_3 l0_4 = some (r1,r2)) :
  Calls Tryd.prog 15 #[.agg #[.int .u64 a0_0,.int .u64 a0_1,.int .u64 a0_2,.slice A0_3 l0_3.length c0_3,.slice A0_4 l0_4.length c0_4]] w fun e w'=>e = .returned (.tuple #[.string r1,.int .i64 r2]) ∧ Below w.heap.size w w':=by
 have hu26:=Tryd.underlying26
 have hu107:=Tryd.underlying107
 have hu97:=Tryd.underlying97
 have hu111:=Tryd.underlying111
 have HR0_3:=Aside0.mk hr0_3
 have HC0_3:=Aside0.mk hc0_3
 clear hr0_3 hc0_3
 have HR0_4:=Aside0.mk hr0_4
 have HC0_4:=Aside0.mk hc0_4
 clear hr0_4 hc0_4
 have HB:=Aside0.mk (Below.refl w.heap.size w)
 have H:((edit_Edit_Check.f a0_0 a0_1 a0_2 l0_3 l0_4).bind fun t107=>(if t107 = 0 then ((edit_nums.f k (([a0_0,a0_1,a0_2,IntKind.u64.wrap ((l0_3.length:Int))]:List Int))).bind fun t111=>(edit_Edit_Bytes.l0 k t111 l0_3 (l0_3.length:Int) 0 a0_0 a0_1 a0_2 l0_3 l0_4)) else (some ((⟨#[]⟩:ByteArray),t107)))) = some (r1,r2):=h
 clear h
 replace H:=Option.bind_eq_some_iff.mp H
 obtain ⟨t107,A20,H⟩:=H
 replace H:(if t107 = 0 then ((edit_nums.f k (([a0_0,a0_1,a0_2,IntKind.u64.wrap ((l0_3.length:Int))]:List Int))).bind fun t111=>(edit_Edit_Bytes.l0 k t111 l0_3 (l0_3.length:Int) 0 a0_0 a0_1 a0_2 l0_3 l0_4)) else (some ((⟨#[]⟩:ByteArray),t107))) = some (r1,r2):=H
 have A2:=Aside0.mk A20
 clear A20
 by_cases c3:t107 = 0
 ·rw [if_pos c3] at H
  have c3b0:(t107 == 0) = true:=beq_iff_eq.mpr c3
  have c3b1:(t107 != 0) = false:=bne_eq_false_iff_eq.mpr c3
  clear c3
  obtain ⟨y108,hy108⟩:∃ y_:List Int,y_ = (([a0_0,a0_1,a0_2,IntKind.u64.wrap ((l0_3.length:Int))]:List Int)):=⟨_,rfl⟩
  replace H:((edit_nums.f k y108).bind fun t111=>(edit_Edit_Bytes.l0 k t111 l0_3 (l0_3.length:Int) 0 a0_0 a0_1 a0_2 l0_3 l0_4)) = some (r1,r2):=by first | (rw [hy108];with_reducible exact H) | (have H2_:=(Option.bind_some _ _).symm.trans H;rw [hy108];with_reducible exact H2_) | (have H2_:=(Option.bind_some _ _).symm.trans H;with_reducible exact H2_) | with_reducible exact H | (rw [hy108];exact H) | exact H
  have Ny108:=Aside0.mk hy108
  clear hy108
  replace H:=Option.bind_eq_some_iff.mp H
  obtain ⟨t111,A40,H⟩:=H
  replace H:(edit_Edit_Bytes.l0 k t111 l0_3 (l0_3.length:Int) 0 a0_0 a0_1 a0_2 l0_3 l0_4) = some (r1,r2):=H
  have A4:=Aside0.mk A40
  clear A40
  have H':=Aside0.mk H
  clear H
  go_enter Tryd.func15,Tryd.ntmps15
  go_wp2_with (first | ((with_reducible refine gate_dst (N:=1) rfl ?_);refine box_event ?hg (N:=1) ?hd (cs:=#[.int .u64 a0_0,.int .u64 a0_1,.int .u64 a0_2,.slice A0_3 l0_3.length c0_3,.slice A0_4 l0_4.length c0_4]) (t:=26) ?hr ?_;(case hd=>rfl);(case hg=>rfl);(case hr=>first | (go_simp;done) | (go_simp;rfl));intro gb106 hg w5 hbox hb;have n0_:=Aside0.mk (below_step (by repeat (first | (with_reducible first | exact HB.out | apply below_alloc | apply pw_below_drewN | apply below_drew1) | exact HB.out)) hb);have n1_:=Aside0.mk (hbox);have n2_:=Aside0.mk ((by rw [hg];exact (below_size (by repeat (first | (with_reducible first | exact HB.out | apply below_alloc | apply pw_below_drewN | apply below_drew1) | exact HB.out))):w.heap.size ≤ gb106));have n3_:=Aside0.mk ((by rw [hg];exact (below_size (by repeat (first | (with_reducible first | exact HB.out | apply below_alloc | apply pw_below_drewN | apply below_drew1) | exact HB.out))):w.heap.size ≤ gb106));clear HB;have HB:=n0_;have BK106:=n1_;have GW106:=n2_;have GE106:=n3_;clear n0_ n1_ n2_ n3_;clear hb hbox hg;have hcz6_0:w5.cell? ⟨gb106,0,none⟩ = some (.int .u64 a0_0):=(blk_cell BK106.out 0).trans rfl;have hcz6_1:w5.cell? ⟨gb106,1,none⟩ = some (.int .u64 a0_1):=(blk_cell BK106.out 1).trans rfl;have hcz6_2:w5.cell? ⟨gb106,2,none⟩ = some (.int .u64 a0_2):=(blk_cell BK106.out 2).trans rfl;have hcz6_3:w5.cell? ⟨gb106,3,none⟩ = some (.slice A0_3 l0_3.length c0_3):=(blk_cell BK106.out 3).trans rfl;have hcz6_4:w5.cell? ⟨gb106,4,none⟩ = some (.slice A0_4 l0_4.length c0_4):=(blk_cell BK106.out 4).trans rfl;have hfz6_0:=blk_frozen BK106.out 0;have hfz6_1:=blk_frozen BK106.out 1;have hfz6_2:=blk_frozen BK106.out 2;have hfz6_3:=blk_frozen BK106.out 3;have hfz6_4:=blk_frozen BK106.out 4) | ((with_reducible refine gate_callee (f:=20) rfl ?_);refine goesL_ (some 12) rfl rfl Tryd.func20 (by kernel_rfl) rfl #[.agg #[.int .u64 a0_0,.int .u64 a0_1,.int .u64 a0_2,.slice A0_3 l0_3.length c0_3,.slice A0_4 l0_4.length c0_4]] rfl (by (try simp only [List.map_toArray,List.map_cons,List.map_nil]);first | done | rfl | (simp only [List.length_drop,List.length_take];rfl)) ?_;(with_reducible refine (edit_Edit_Check.calls a0_0 a0_1 a0_2 _ _ l0_3 _ _ l0_4 t107 _ ?side1 ?side2 ?side3 ?side4 A2.out).mono ?_);(case side1=>repeat (first | exact (Kd.C_below HR0_3.out HB.out) | (with_reducible refine Kd.C_alloc ?_ _) | (with_reducible refine Kd.C_drewN ?_ _) | (with_reducible refine Kd.C_drew ?_)));(case side2=>exact HC0_3.out);(case side3=>repeat (first | exact (Kd.C_below HR0_4.out HB.out) | (with_reducible refine Kd.C_alloc ?_ _) | (with_reducible refine Kd.C_drewN ?_ _) | (with_reducible refine Kd.C_drew ?_)));(case side4=>exact HC0_4.out);rintro e w7 ⟨rfl,hb⟩;refine ⟨_,rfl,?_⟩;have n0_:=Aside0.mk (blk_below (g:=gb106) (o:=.cells #[.int .u64 a0_0,.int .u64 a0_1,.int .u64 a0_2,.slice A0_3 l0_3.length c0_3,.slice A0_4 l0_4.length c0_4] 26 (0,0)) (by (with_reducible repeat (first | refine blk_drewN ?_ _ | refine blk_drew ?_ | refine blk_alloc ?_ _));exact BK106.out) hb);have n1_:=Aside0.mk (below_step (by repeat (first | (with_reducible first | exact HB.out | apply below_alloc | apply pw_below_drewN | apply below_drew1 | refine below_set ?_ GE106.out) | exact HB.out)) hb);clear BK106;clear HB;have BK106:=n0_;have HB:=n1_;clear n0_ n1_;(try clear hb);(try clear hb2);(try clear hk);(try clear hi);have hcz8_0:w7.cell? ⟨gb106,0,none⟩ = some (.int .u64 a0_0):=(blk_cell BK106.out 0).trans rfl;have hcz8_1:w7.cell? ⟨gb106,1,none⟩ = some (.int .u64 a0_1):=(blk_cell BK106.out 1).trans rfl;have hcz8_2:w7.cell? ⟨gb106,2,none⟩ = some (.int .u64 a0_2):=(blk_cell BK106.out 2).trans rfl;have hcz8_3:w7.cell? ⟨gb106,3,none⟩ = some (.slice A0_3 l0_3.length c0_3):=(blk_cell BK106.out 3).trans rfl;have hcz8_4:w7.cell? ⟨gb106,4,none⟩ = some (.slice A0_4 l0_4.length c0_4):=(blk_cell BK106.out 4).trans rfl;have hfz8_0:=blk_frozen BK106.out 0;have hfz8_1:=blk_frozen BK106.out 1;have hfz8_2:=blk_frozen BK106.out 2;have hfz8_3:=blk_frozen BK106.out 3;have hfz8_4:=blk_frozen BK106.out 4) | ((with_reducible refine gate_dst (N:=26) rfl ?_);refine Kd.R_lit (Kd.int .u64) _ 22 ?hg (N:=26) ?hd (xs:=([a0_0,a0_1,a0_2,IntKind.u64.wrap ((l0_3.length:Int))]:List Int)) (inner:=[.int .u64 a0_0,.int .u64 a0_1,.int .u64 a0_2,.int .u64 (IntKind.u64.wrap ((l0_3.length:Int)))]) (ok:=fun _=>True) (okp:=fun _=>True) ?hr ?hp (fun _ hk=>hk) trivial (Below.refl _ _) (Nat.le_refl _) (by simp) ?_;(case hd=>rfl);(case hg=>rfl);(case hr=>first | (go_simp;done) | (go_simp;rfl));(case hp=>exact (Reps.one (show Kd.M (Kd.int .u64) _ _ _ a0_0 [.int .u64 a0_0] from rfl) (Reps.one (show Kd.M (Kd.int .u64) _ _ _ a0_1 [.int .u64 a0_1] from rfl) (Reps.one (show Kd.M (Kd.int .u64) _ _ _ a0_2 [.int .u64 a0_2] from rfl) (Reps.one (show Kd.M (Kd.int .u64) _ _ _ (IntKind.u64.wrap ((l0_3.length:Int))) [.int .u64 (IntKind.u64.wrap ((l0_3.length:Int)))] from rfl) (Reps.none _ _))))));intro v109 w9 ho10 hb hg_ hnew_;clear hg_ hnew_;(first | rw [← Ny108.out] at ho10 | (simp only [Int.reduceToNat] at ho10;rw [← Ny108.out] at ho10));have n0_:=Aside0.mk (Kd.R_lower ho10 (below_size (by repeat (first | (with_reducible first | exact HB.out | apply below_alloc | apply pw_below_drewN | apply below_drew1 | refine below_set ?_ GE106.out) | exact HB.out))));have n1_:=Aside0.mk (blk_below (g:=gb106) (o:=.cells #[.int .u64 a0_0,.int .u64 a0_1,.int .u64 a0_2,.slice A0_3 l0_3.length c0_3,.slice A0_4 l0_4.length c0_4] 26 (0,0)) (by (with_reducible repeat (first | refine blk_drewN ?_ _ | refine blk_drew ?_ | refine blk_alloc ?_ _));exact BK106.out) hb);have n2_:=Aside0.mk (below_step (by repeat (first | (with_reducible first | exact HB.out | apply below_alloc | apply pw_below_drewN | apply below_drew1 | refine below_set ?_ GE106.out) | exact HB.out)) hb);clear BK106;clear HB;have HO110:=n0_;have BK106:=n1_;have HB:=n2_;clear n0_ n1_ n2_;clear hb ho10;obtain ⟨Ao11,co11,eo11⟩:=Kd.R_slice HO110.out;subst eo11) | ((with_reducible refine gate_callee (f:=51) rfl ?_);refine goesL_ (some 27) rfl rfl Tryd.func51 (by kernel_rfl) rfl #[.slice Ao11 y108.length co11] rfl (by (try simp only [List.map_toArray,List.map_cons,List.map_nil]);first | done | rfl | (simp only [List.length_drop,List.length_take];rfl)) ?_;(with_reducible refine (edit_nums.calls k _ _ y108 t111 _ ?side1 ?side2 A4.out).mono ?_);(case side1=>repeat (first | exact (Kd.R_reads' HO110.out).2.2 | (with_reducible refine Kd.C_alloc ?_ _) | (with_reducible refine Kd.C_drewN ?_ _) | (with_reducible refine Kd.C_drew ?_)));(case side2=>exact (Kd.R_reads' HO110.out).2.1);rintro e w12 ⟨rfl,hb⟩;refine ⟨_,rfl,?_⟩;have n0_:=Aside0.mk (Kd.R_below (by (with_reducible repeat (first | apply Kd.R_alloc | apply Kd.R_drewN | apply Kd.R_drew));exact HO110.out) hb);have n1_:=Aside0.mk (blk_below (g:=gb106) (o:=.cells #[.int .u64 a0_0,.int .u64 a0_1,.int .u64 a0_2,.slice A0_3 l0_3.length c0_3,.slice A0_4 l0_4.length c0_4] 26 (0,0)) (by (with_reducible repeat (first | refine blk_drewN ?_ _ | refine blk_drew ?_ | refine blk_alloc ?_ _));exact BK106.out) hb);have n2_:=Aside0.mk (below_step (by repeat (first | (with_reducible first | exact HB.out | apply below_alloc | apply pw_below_drewN | apply below_drew1 | refine below_set ?_ GE106.out) | exact HB.out)) hb);clear HO110;clear BK106;clear HB;have HO110:=n0_;have BK106:=n1_;have HB:=n2_;clear n0_ n1_ n2_;(try clear hb);(try clear hb2);(try clear hk);(try clear hi);have hcz13_0:w12.cell? ⟨gb106,0,none⟩ = some (.int .u64 a0_0):=(blk_cell BK106.out 0).trans rfl;have hcz13_1:w12.cell? ⟨gb106,1,none⟩ = some (.int .u64 a0_1):=(blk_cell BK106.out 1).trans rfl;have hcz13_2:w12.cell? ⟨gb106,2,none⟩ = some (.int .u64 a0_2):=(blk_cell BK106.out 2).trans rfl;have hcz13_3:w12.cell? ⟨gb106,3,none⟩ = some (.slice A0_3 l0_3.length c0_3):=(blk_cell BK106.out 3).trans rfl;have hcz13_4:w12.cell? ⟨gb106,4,none⟩ = some (.slice A0_4 l0_4.length c0_4):=(blk_cell BK106.out 4).trans rfl;have hfz13_0:=blk_frozen BK106.out 0;have hfz13_1:=blk_frozen BK106.out 1;have hfz13_2:=blk_frozen BK106.out 2;have hfz13_3:=blk_frozen BK106.out 3;have hfz13_4:=blk_frozen BK106.out 4))
  go_loopg [5,31] k (fun kq v5 v31 w'=>∃ (x5_1:ByteArray) (x31_1:Int),v5 = .string x5_1 ∧ v31 = .int .i64 x31_1 ∧ Aside0 (edit_Edit_Bytes.l0 kq x5_1 l0_3 (l0_3.length:Int) x31_1 a0_0 a0_1 a0_2 l0_3 l0_4 = some (r1,r2)) ∧ Aside0 (kq ≤ k) ∧ Aside0 (w'.heap[gb106]? = some (.cells #[.int .u64 a0_0,.int .u64 a0_1,.int .u64 a0_2,(.slice A0_3 l0_3.length c0_3),(.slice A0_4 l0_4.length c0_4)] 26 (0,0))) ∧ Aside0 (Below w.heap.size w w'))
  case atStart=>exact ⟨(t111),(0),(by first | rfl | (simp;done) | (simp [*];done)),(by first | rfl | (simp;done) | (simp [*];done)),H',⟨Nat.le_refl _⟩,⟨by (with_reducible repeat (first | refine blk_drewN ?_ _ | refine blk_drew ?_ | refine blk_alloc ?_ _));exact BK106.out⟩,⟨by repeat (first | (with_reducible first | exact HB.out | apply below_alloc | apply pw_below_drewN | apply below_drew1 | refine below_set ?_ GE106.out) | exact HB.out)⟩⟩
  case round=>
   clear H'
   try clear c1
   try clear c2
   try clear p2
   try clear c3
   try clear c3b0
   try clear c3b1
   try clear c5
   try clear hcz13_0
   try clear hcz13_1
   try clear hcz13_2
   try clear hcz13_3
   try clear hcz13_4
   try clear hcz6_0
   try clear hcz6_1
   try clear hcz6_2
   try clear hcz6_3
   try clear hcz6_4
   try clear hcz8_0
   try clear hcz8_1
   try clear hcz8_2
   try clear hcz8_3
   try clear hcz8_4
   try clear hfz13_0
   try clear hfz13_1
   try clear hfz13_2
   try clear hfz13_3
   try clear hfz13_4
   try clear hfz6_0
   try clear hfz6_1
   try clear hfz6_2
   try clear hfz6_3
   try clear hfz6_4
   try clear hfz8_0
   try clear hfz8_1
   try clear hfz8_2
   try clear hfz8_3
   try clear hfz8_4
   obtain ⟨x5_1,x31_1,rfl,rfl,HA,HK1,BK106,HB⟩:=hrel
   cases gk with
   | zero=>exact absurd HA.out (by simp [edit_Edit_Bytes.l0])
   | succ k1=>
    have H:=HA.out
    clear HA
    simp only [edit_Edit_Bytes.l0] at H
    by_cases c14:x31_1 < (l0_3.length:Int)
    ·rw [if_pos c14] at H
     have c14b0:decide (x31_1 < (l0_3.length:Int)) = true:=decide_eq_true c14
     clear c14
     by_cases c15:0 ≤ x31_1
     ·rw [if_pos c15] at H
      have c15b0:decide (0 ≤ x31_1) = true:=decide_eq_true c15
      clear c15
      by_cases c16:x31_1 < (l0_3.length:Int)
      ·rw [if_pos c16] at H
       have c16b0:decide (x31_1 < (l0_3.length:Int)) = true:=decide_eq_true c16
       clear c16
       obtain ⟨y115,hy115⟩:∃ y_:List Int,y_ = (([IntKind.u64.wrap ((rd_T107 l0_3 x31_1).f0),(rd_T107 l0_3 x31_1).f1.f0,(rd_T107 l0_3 x31_1).f1.f1,(rd_T107 l0_3 x31_1).f1.f2]:List Int)):=⟨_,rfl⟩
       replace H:((edit_nums.f k1 y115).bind fun t118=>((varint_Text.f k1 ((rd_T107 l0_3 x31_1).f1.f3)).bind fun t119=>(if t118.size + t119.size ≤ 9223372036854775807 then ((varint_Text.f k1 ((rd_T107 l0_3 x31_1).f1.f4)).bind fun t120=>(if (t118 ++ t119).size + t120.size ≤ 9223372036854775807 then (if x5_1.size + ((t118 ++ t119) ++ t120).size ≤ 9223372036854775807 then (edit_Edit_Bytes.l0 k1 (x5_1 ++ ((t118 ++ t119) ++ t120)) l0_3 (l0_3.length:Int) (wrap64 (x31_1 + 1)) a0_0 a0_1 a0_2 l0_3 l0_4) else (none)) else (none))) else (none)))) = some (r1,r2):=by first | (rw [hy115];with_reducible exact H) | (have H2_:=(Option.bind_some _ _).symm.trans H;rw [hy115];with_reducible exact H2_) | (have H2_:=(Option.bind_some _ _).symm.trans H;with_reducible exact H2_) | with_reducible exact H | (rw [hy115];exact H) | exact H
       have Ny115:=Aside0.mk hy115
       clear hy115
       replace H:=Option.bind_eq_some_iff.mp H
       obtain ⟨t118,A170,H⟩:=H
       replace H:((varint_Text.f k1 ((rd_T107 l0_3 x31_1).f1.f3)).bind fun t119=>(if t118.size + t119.size ≤ 9223372036854775807 then ((varint_Text.f k1 ((rd_T107 l0_3 x31_1).f1.f4)).bind fun t120=>(if (t118 ++ t119).size + t120.size ≤ 9223372036854775807 then (if x5_1.size + ((t118 ++ t119) ++ t120).size ≤ 9223372036854775807 then (edit_Edit_Bytes.l0 k1 (x5_1 ++ ((t118 ++ t119) ++ t120)) l0_3 (l0_3.length:Int) (wrap64 (x31_1 + 1)) a0_0 a0_1 a0_2 l0_3 l0_4) else (none)) else (none))) else (none))) = some (r1,r2):=H
       have A17:=Aside0.mk A170
       clear A170
       replace H:=Option.bind_eq_some_iff.mp H
       obtain ⟨t119,A180,H⟩:=H
       replace H:(if t118.size + t119.size ≤ 9223372036854775807 then ((varint_Text.f k1 ((rd_T107 l0_3 x31_1).f1.f4)).bind fun t120=>(if (t118 ++ t119).size + t120.size ≤ 9223372036854775807 then (if x5_1.size + ((t118 ++ t119) ++ t120).size ≤ 9223372036854775807 then (edit_Edit_Bytes.l0 k1 (x5_1 ++ ((t118 ++ t119) ++ t120)) l0_3 (l0_3.length:Int) (wrap64 (x31_1 + 1)) a0_0 a0_1 a0_2 l0_3 l0_4) else (none)) else (none))) else (none)) = some (r1,r2):=H
       have A18:=Aside0.mk A180
       clear A180
       by_cases c19:t118.size + t119.size ≤ 9223372036854775807
       ·rw [if_pos c19] at H
        have c19b0:=eq_true c19
        have c19b1:decide (t118.size + t119.size ≤ 9223372036854775807) = true:=decide_eq_true c19
        try have c19b2:(9223372036854775807 < t118.size + t119.size) = False:=eq_false (Nat.not_lt.2 c19)
        replace H:=Option.bind_eq_some_iff.mp H
        obtain ⟨t120,A200,H⟩:=H
        replace H:(if (t118 ++ t119).size + t120.size ≤ 9223372036854775807 then (if x5_1.size + ((t118 ++ t119) ++ t120).size ≤ 9223372036854775807 then (edit_Edit_Bytes.l0 k1 (x5_1 ++ ((t118 ++ t119) ++ t120)) l0_3 (l0_3.length:Int) (wrap64 (x31_1 + 1)) a0_0 a0_1 a0_2 l0_3 l0_4) else (none)) else (none)) = some (r1,r2):=H
        have A20:=Aside0.mk A200
        clear A200
        by_cases c21:(t118 ++ t119).size + t120.size ≤ 9223372036854775807
        ·rw [if_pos c21] at H
         have c21b0:=eq_true c21
         have c21b1:decide ((t118 ++ t119).size + t120.size ≤ 9223372036854775807) = true:=decide_eq_true c21
         try have c21b2:(9223372036854775807 < (t118 ++ t119).size + t120.size) = False:=eq_false (Nat.not_lt.2 c21)
         try (have c21b3:=c21b2;simp only [ByteArray.size_append'] at c21b3)
         by_cases c22:x5_1.size + ((t118 ++ t119) ++ t120).size ≤ 9223372036854775807
         ·rw [if_pos c22] at H
          have c22b0:=eq_true c22
          have c22b1:decide (x5_1.size + ((t118 ++ t119) ++ t120).size ≤ 9223372036854775807) = true:=decide_eq_true c22
          try have c22b2:(9223372036854775807 < x5_1.size + ((t118 ++ t119) ++ t120).size) = False:=eq_false (Nat.not_lt.2 c22)
          try (have c22b3:=c22b2;simp only [ByteArray.size_append'] at c22b3)
          have H':=Aside0.mk H
          clear H
          have p112:0 ≤ (x31_1:Int):=of_decide_eq_true (by first | (with_reducible assumption) | assumption)
          have q112:x31_1 < (l0_3.length:Int):=of_decide_eq_true (by first | (with_reducible assumption) | assumption)
          obtain ⟨ad112,e112,hx112_0,hx112_1,hx112_2,hx112_3,hx112_4,hx112_5⟩:=at_T107 HR0_3.out x31_1 p112 q112
          cases e112
          replace hx112_0:=(HB.out.cell (World.block_lt_of_cell? w _ hx112_0)).trans hx112_0
          replace hx112_1:=(HB.out.cell (World.block_lt_of_cell? w _ hx112_1)).trans hx112_1
          replace hx112_2:=(HB.out.cell (World.block_lt_of_cell? w _ hx112_2)).trans hx112_2
          replace hx112_3:=(HB.out.cell (World.block_lt_of_cell? w _ hx112_3)).trans hx112_3
          replace hx112_4:=(HB.out.cell (World.block_lt_of_cell? w _ hx112_4)).trans hx112_4
          replace hx112_5:=(HB.out.cell (World.block_lt_of_cell? w _ hx112_5)).trans hx112_5
          replace p112:=eq_true p112
          replace q112:=eq_true q112
          try go_wp2_with (first | ((with_reducible refine gate_dst (N:=7) rfl ?_);refine box_event ?hg (N:=7) ?hd (cs:=#[.int .i64 0,.int .u64 0,.int .u64 0,.int .u64 0,.string (⟨#[]⟩:ByteArray),.string (⟨#[]⟩:ByteArray)]) (t:=107) ?hr ?_;(case hd=>rfl);(case hg=>rfl);(case hr=>first | (go_simp;done) | (go_simp;rfl));intro gb113 hg w23 hbox hb;have n0_:=Aside0.mk (blk_below (g:=gb106) (o:=.cells #[.int .u64 a0_0,.int .u64 a0_1,.int .u64 a0_2,.slice (some ad112) l0_3.length c0_3,.slice A0_4 l0_4.length c0_4] 26 (0,0)) (by (with_reducible repeat (first | refine blk_drewN ?_ _ | refine blk_drew ?_ | refine blk_alloc ?_ _));exact BK106.out) hb);have n1_:=Aside0.mk (below_step (by repeat (first | (with_reducible first | exact HB.out | apply below_alloc | apply pw_below_drewN | apply below_drew1 | refine below_set ?_ GE106.out) | exact HB.out)) hb);have n2_:=Aside0.mk (hbox);have n3_:=Aside0.mk ((by rw [hg];exact (below_size (by repeat (first | (with_reducible first | exact HB.out | apply below_alloc | apply pw_below_drewN | apply below_drew1 | refine below_set ?_ GE106.out) | exact HB.out))):w.heap.size ≤ gb113));have n4_:=Aside0.mk ((by rw [hg];exact (below_size (by repeat (first | (with_reducible first | exact HB.out | apply below_alloc | apply pw_below_drewN | apply below_drew1 | refine below_set ?_ GE106.out) | exact HB.out))):w.heap.size ≤ gb113));have n5_:=Aside0.mk ((by rw [hg];exact Nat.ne_of_lt (blk_lt (g:=gb106) (o:=.cells #[.int .u64 a0_0,.int .u64 a0_1,.int .u64 a0_2,.slice (some ad112) l0_3.length c0_3,.slice A0_4 l0_4.length c0_4] 26 (0,0)) (by (with_reducible repeat (first | refine blk_drewN ?_ _ | refine blk_drew ?_ | refine blk_alloc ?_ _));exact BK106.out)):gb106 ≠ gb113));have n6_:=Aside0.mk ((by rw [hg];exact Nat.ne_of_gt (blk_lt (g:=gb106) (o:=.cells #[.int .u64 a0_0,.int .u64 a0_1,.int .u64 a0_2,.slice (some ad112) l0_3.length c0_3,.slice A0_4 l0_4.length c0_4] 26 (0,0)) (by (with_reducible repeat (first | refine blk_drewN ?_ _ | refine blk_drew ?_ | refine blk_alloc ?_ _));exact BK106.out)):gb113 ≠ gb106));clear BK106;clear HB;have BK106:=n0_;have HB:=n1_;have BK113:=n2_;have GW113:=n3_;have GE113:=n4_;have NB106_113:=n5_;have NB113_106:=n6_;clear n0_ n1_ n2_ n3_ n4_ n5_ n6_;clear hb hbox hg;have hnb24:=NB113_106.out;have hnc24:=NB106_113.out;have hcz25_0:w23.cell? ⟨gb113,0,none⟩ = some (.int .i64 0):=(blk_cell BK113.out 0).trans rfl;have hcz25_1:w23.cell? ⟨gb113,1,none⟩ = some (.int .u64 0):=(blk_cell BK113.out 1).trans rfl;have hcz25_2:w23.cell? ⟨gb113,2,none⟩ = some (.int .u64 0):=(blk_cell BK113.out 2).trans rfl;have hcz25_3:w23.cell? ⟨gb113,3,none⟩ = some (.int .u64 0):=(blk_cell BK113.out 3).trans rfl;have hcz25_4:w23.cell? ⟨gb113,4,none⟩ = some (.string (⟨#[]⟩:ByteArray)):=(blk_cell BK113.out 4).trans rfl;have hcz25_5:w23.cell? ⟨gb113,5,none⟩ = some (.string (⟨#[]⟩:ByteArray)):=(blk_cell BK113.out 5).trans rfl;have hfz25_0:=blk_frozen BK113.out 0;have hfz25_1:=blk_frozen BK113.out 1;have hfz25_2:=blk_frozen BK113.out 2;have hfz25_3:=blk_frozen BK113.out 3;have hfz25_4:=blk_frozen BK113.out 4;have hfz25_5:=blk_frozen BK113.out 5) | ((with_reducible refine gate_dst (N:=8) rfl ?_);refine box_event ?hg (N:=8) ?hd (cs:=#[.int .u64 0,.int .u64 0,.int .u64 0,.string (⟨#[]⟩:ByteArray),.string (⟨#[]⟩:ByteArray)]) (t:=97) ?hr ?_;(case hd=>rfl);(case hg=>rfl);(case hr=>first | (go_simp;done) | (go_simp;rfl));intro gb114 hg w26 hbox hb;have n0_:=Aside0.mk (blk_below (g:=gb106) (o:=.cells #[.int .u64 a0_0,.int .u64 a0_1,.int .u64 a0_2,.slice (some ad112) l0_3.length c0_3,.slice A0_4 l0_4.length c0_4] 26 (0,0)) (by (with_reducible repeat (first | refine blk_drewN ?_ _ | refine blk_drew ?_ | refine blk_alloc ?_ _));refine blk_far ?_ NB106_113.out _;(with_reducible repeat (first | refine blk_drewN ?_ _ | refine blk_drew ?_ | refine blk_alloc ?_ _));refine blk_far ?_ NB106_113.out _;(with_reducible repeat (first | refine blk_drewN ?_ _ | refine blk_drew ?_ | refine blk_alloc ?_ _));refine blk_far ?_ NB106_113.out _;(with_reducible repeat (first | refine blk_drewN ?_ _ | refine blk_drew ?_ | refine blk_alloc ?_ _));refine blk_far ?_ NB106_113.out _;(with_reducible repeat (first | refine blk_drewN ?_ _ | refine blk_drew ?_ | refine blk_alloc ?_ _));refine blk_far ?_ NB106_113.out _;(with_reducible repeat (first | refine blk_drewN ?_ _ | refine blk_drew ?_ | refine blk_alloc ?_ _));refine blk_far ?_ NB106_113.out _;(with_reducible repeat (first | refine blk_drewN ?_ _ | refine blk_drew ?_ | refine blk_alloc ?_ _));exact BK106.out) hb);have n1_:=Aside0.mk (blk_below (g:=gb113) (o:=.cells #[.int .i64 ((rd_T107 l0_3 x31_1).f0),.int .u64 ((rd_T107 l0_3 x31_1).f1.f0),.int .u64 ((rd_T107 l0_3 x31_1).f1.f1),.int .u64 ((rd_T107 l0_3 x31_1).f1.f2),.string ((rd_T107 l0_3 x31_1).f1.f3),.string ((rd_T107 l0_3 x31_1).f1.f4)] 107 (0,0)) (by (with_reducible repeat (first | refine blk_drewN ?_ _ | refine blk_drew ?_ | refine blk_alloc ?_ _));refine blk_put (cs:=#[.int .i64 ((rd_T107 l0_3 x31_1).f0),.int .u64 ((rd_T107 l0_3 x31_1).f1.f0),.int .u64 ((rd_T107 l0_3 x31_1).f1.f1),.int .u64 ((rd_T107 l0_3 x31_1).f1.f2),.string ((rd_T107 l0_3 x31_1).f1.f3),.string (⟨#[]⟩:ByteArray)]) ?_ 5 _ rfl;(with_reducible repeat (first | refine blk_drewN ?_ _ | refine blk_drew ?_ | refine blk_alloc ?_ _));refine blk_put (cs:=#[.int .i64 ((rd_T107 l0_3 x31_1).f0),.int .u64 ((rd_T107 l0_3 x31_1).f1.f0),.int .u64 ((rd_T107 l0_3 x31_1).f1.f1),.int .u64 ((rd_T107 l0_3 x31_1).f1.f2),.string (⟨#[]⟩:ByteArray),.string (⟨#[]⟩:ByteArray)]) ?_ 4 _ rfl;(with_reducible repeat (first | refine blk_drewN ?_ _ | refine blk_drew ?_ | refine blk_alloc ?_ _));refine blk_put (cs:=#[.int .i64 ((rd_T107 l0_3 x31_1).f0),.int .u64 ((rd_T107 l0_3 x31_1).f1.f0),.int .u64 ((rd_T107 l0_3 x31_1).f1.f1),.int .u64 0,.string (⟨#[]⟩:ByteArray),.string (⟨#[]⟩:ByteArray)]) ?_ 3 _ rfl;(with_reducible repeat (first | refine blk_drewN ?_ _ | refine blk_drew ?_ | refine blk_alloc ?_ _));refine blk_put (cs:=#[.int .i64 ((rd_T107 l0_3 x31_1).f0),.int .u64 ((rd_T107 l0_3 x31_1).f1.f0),.int .u64 0,.int .u64 0,.string (⟨#[]⟩:ByteArray),.string (⟨#[]⟩:ByteArray)]) ?_ 2 _ rfl;(with_reducible repeat (first | refine blk_drewN ?_ _ | refine blk_drew ?_ | refine blk_alloc ?_ _));refine blk_put (cs:=#[.int .i64 ((rd_T107 l0_3 x31_1).f0),.int .u64 0,.int .u64 0,.int .u64 0,.string (⟨#[]⟩:ByteArray),.string (⟨#[]⟩:ByteArray)]) ?_ 1 _ rfl;(with_reducible repeat (first | refine blk_drewN ?_ _ | refine blk_drew ?_ | refine blk_alloc ?_ _));refine blk_put (cs:=#[.int .i64 0,.int .u64 0,.int .u64 0,.int .u64 0,.string (⟨#[]⟩:ByteArray),.string (⟨#[]⟩:ByteArray)]) ?_ 0 _ rfl;(with_reducible repeat (first | refine blk_drewN ?_ _ | refine blk_drew ?_ | refine blk_alloc ?_ _));exact BK113.out) hb);have n2_:=Aside0.mk (below_step (by repeat (first | (with_reducible first | exact HB.out | apply below_alloc | apply pw_below_drewN | apply below_drew1 | refine below_set ?_ GE106.out | refine below_set ?_ GE113.out) | exact HB.out)) hb);have n3_:=Aside0.mk (hbox);have n4_:=Aside0.mk ((by rw [hg];exact (below_size (by repeat (first | (with_reducible first | exact HB.out | apply below_alloc | apply pw_below_drewN | apply below_drew1 | refine below_set ?_ GE106.out | refine below_set ?_ GE113.out) | exact HB.out))):w.heap.size ≤ gb114));have n5_:=Aside0.mk ((by rw [hg];exact (below_size (by repeat (first | (with_reducible first | exact HB.out | apply below_alloc | apply pw_below_drewN | apply below_drew1 | refine below_set ?_ GE106.out | refine below_set ?_ GE113.out) | exact HB.out))):w.heap.size ≤ gb114));have n6_:=Aside0.mk ((by rw [hg];exact Nat.ne_of_lt (blk_lt (g:=gb106) (o:=.cells #[.int .u64 a0_0,.int .u64 a0_1,.int .u64 a0_2,.slice (some ad112) l0_3.length c0_3,.slice A0_4 l0_4.length c0_4] 26 (0,0)) (by (with_reducible repeat (first | refine blk_drewN ?_ _ | refine blk_drew ?_ | refine blk_alloc ?_ _));refine blk_far ?_ NB106_113.out _;(with_reducible repeat (first | refine blk_drewN ?_ _ | refine blk_drew ?_ | refine blk_alloc ?_ _));refine blk_far ?_ NB106_113.out _;(with_reducible repeat (first | refine blk_drewN ?_ _ | refine blk_drew ?_ | refine blk_alloc ?_ _));refine blk_far ?_ NB106_113.out _;(with_reducible repeat (first | refine blk_drewN ?_ _ | refine blk_drew ?_ | refine blk_alloc ?_ _));refine blk_far ?_ NB106_113.out _;(with_reducible repeat (first | refine blk_drewN ?_ _ | refine blk_drew ?_ | refine blk_alloc ?_ _));refine blk_far ?_ NB106_113.out _;(with_reducible repeat (first | refine blk_drewN ?_ _ | refine blk_drew ?_ | refine blk_alloc ?_ _));refine blk_far ?_ NB106_113.out _;(with_reducible repeat (first | refine blk_drewN ?_ _ | refine blk_drew ?_ | refine blk_alloc ?_ _));exact BK106.out)):gb106 ≠ gb114));have n7_:=Aside0.mk ((by rw [hg];exact Nat.ne_of_gt (blk_lt (g:=gb106) (o:=.cells #[.int .u64 a0_0,.int .u64 a0_1,.int .u64 a0_2,.slice (some ad112) l0_3.length c0_3,.slice A0_4 l0_4.length c0_4] 26 (0,0)) (by (with_reducible repeat (first | refine blk_drewN ?_ _ | refine blk_drew ?_ | refine blk_alloc ?_ _));refine blk_far ?_ NB106_113.out _;(with_reducible repeat (first | refine blk_drewN ?_ _ | refine blk_drew ?_ | refine blk_alloc ?_ _));refine blk_far ?_ NB106_113.out _;(with_reducible repeat (first | refine blk_drewN ?_ _ | refine blk_drew ?_ | refine blk_alloc ?_ _));refine blk_far ?_ NB106_113.out _;(with_reducible repeat (first | refine blk_drewN ?_ _ | refine blk_drew ?_ | refine blk_alloc ?_ _));refine blk_far ?_ NB106_113.out _;(with_reducible repeat (first | refine blk_drewN ?_ _ | refine blk_drew ?_ | refine blk_alloc ?_ _));refine blk_far ?_ NB106_113.out _;(with_reducible repeat (first | refine blk_drewN ?_ _ | refine blk_drew ?_ | refine blk_alloc ?_ _));refine blk_far ?_ NB106_113.out _;(with_reducible repeat (first | refine blk_drewN ?_ _ | refine blk_drew ?_ | refine blk_alloc ?_ _));exact BK106.out)):gb114 ≠ gb106));have n8_:=Aside0.mk ((by rw [hg];exact Nat.ne_of_lt (blk_lt (g:=gb113) (o:=.cells #[.int .i64 ((rd_T107 l0_3 x31_1).f0),.int .u64 ((rd_T107 l0_3 x31_1).f1.f0),.int .u64 ((rd_T107 l0_3 x31_1).f1.f1),.int .u64 ((rd_T107 l0_3 x31_1).f1.f2),.string ((rd_T107 l0_3 x31_1).f1.f3),.string ((rd_T107 l0_3 x31_1).f1.f4)] 107 (0,0)) (by (with_reducible repeat (first | refine blk_drewN ?_ _ | refine blk_drew ?_ | refine blk_alloc ?_ _));refine blk_put (cs:=#[.int .i64 ((rd_T107 l0_3 x31_1).f0),.int .u64 ((rd_T107 l0_3 x31_1).f1.f0),.int .u64 ((rd_T107 l0_3 x31_1).f1.f1),.int .u64 ((rd_T107 l0_3 x31_1).f1.f2),.string ((rd_T107 l0_3 x31_1).f1.f3),.string (⟨#[]⟩:ByteArray)]) ?_ 5 _ rfl;(with_reducible repeat (first | refine blk_drewN ?_ _ | refine blk_drew ?_ | refine blk_alloc ?_ _));refine blk_put (cs:=#[.int .i64 ((rd_T107 l0_3 x31_1).f0),.int .u64 ((rd_T107 l0_3 x31_1).f1.f0),.int .u64 ((rd_T107 l0_3 x31_1).f1.f1),.int .u64 ((rd_T107 l0_3 x31_1).f1.f2),.string (⟨#[]⟩:ByteArray),.string (⟨#[]⟩:ByteArray)]) ?_ 4 _ rfl;(with_reducible repeat (first | refine blk_drewN ?_ _ | refine blk_drew ?_ | refine blk_alloc ?_ _));refine blk_put (cs:=#[.int .i64 ((rd_T107 l0_3 x31_1).f0),.int .u64 ((rd_T107 l0_3 x31_1).f1.f0),.int .u64 ((rd_T107 l0_3 x31_1).f1.f1),.int .u64 0,.string (⟨#[]⟩:ByteArray),.string (⟨#[]⟩:ByteArray)]) ?_ 3 _ rfl;(with_reducible repeat (first | refine blk_drewN ?_ _ | refine blk_drew ?_ | refine blk_alloc ?_ _));refine blk_put (cs:=#[.int .i64 ((rd_T107 l0_3 x31_1).f0),.int .u64 ((rd_T107 l0_3 x31_1).f1.f0),.int .u64 0,.int .u64 0,.string (⟨#[]⟩:ByteArray),.string (⟨#[]⟩:ByteArray)]) ?_ 2 _ rfl;(with_reducible repeat (first | refine blk_drewN ?_ _ | refine blk_drew ?_ | refine blk_alloc ?_ _));refine blk_put (cs:=#[.int .i64 ((rd_T107 l0_3 x31_1).f0),.int .u64 0,.int .u64 0,.int .u64 0,.string (⟨#[]⟩:ByteArray),.string (⟨#[]⟩:ByteArray)]) ?_ 1 _ rfl;(with_reducible repeat (first | refine blk_drewN ?_ _ | refine blk_drew ?_ | refine blk_alloc ?_ _));refine blk_put (cs:=#[.int .i64 0,.int .u64 0,.int .u64 0,.int .u64 0,.string (⟨#[]⟩:ByteArray),.string (⟨#[]⟩:ByteArray)]) ?_ 0 _ rfl;(with_reducible repeat (first | refine blk_drewN ?_ _ | refine blk_drew ?_ | refine blk_alloc ?_ _));exact BK113.out)):gb113 ≠ gb114));have n9_:=Aside0.mk ((by rw [hg];exact Nat.ne_of_gt (blk_lt (g:=gb113) (o:=.cells #[.int .i64 ((rd_T107 l0_3 x31_1).f0),.int .u64 ((rd_T107 l0_3 x31_1).f1.f0),.int .u64 ((rd_T107 l0_3 x31_1).f1.f1),.int .u64 ((rd_T107 l0_3 x31_1).f1.f2),.string ((rd_T107 l0_3 x31_1).f1.f3),.string ((rd_T107 l0_3 x31_1).f1.f4)] 107 (0,0)) (by (with_reducible repeat (first | refine blk_drewN ?_ _ | refine blk_drew ?_ | refine blk_alloc ?_ _));refine blk_put (cs:=#[.int .i64 ((rd_T107 l0_3 x31_1).f0),.int .u64 ((rd_T107 l0_3 x31_1).f1.f0),.int .u64 ((rd_T107 l0_3 x31_1).f1.f1),.int .u64 ((rd_T107 l0_3 x31_1).f1.f2),.string ((rd_T107 l0_3 x31_1).f1.f3),.string (⟨#[]⟩:ByteArray)]) ?_ 5 _ rfl;(with_reducible repeat (first | refine blk_drewN ?_ _ | refine blk_drew ?_ | refine blk_alloc ?_ _));refine blk_put (cs:=#[.int .i64 ((rd_T107 l0_3 x31_1).f0),.int .u64 ((rd_T107 l0_3 x31_1).f1.f0),.int .u64 ((rd_T107 l0_3 x31_1).f1.f1),.int .u64 ((rd_T107 l0_3 x31_1).f1.f2),.string (⟨#[]⟩:ByteArray),.string (⟨#[]⟩:ByteArray)]) ?_ 4 _ rfl;(with_reducible repeat (first | refine blk_drewN ?_ _ | refine blk_drew ?_ | refine blk_alloc ?_ _));refine blk_put (cs:=#[.int .i64 ((rd_T107 l0_3 x31_1).f0),.int .u64 ((rd_T107 l0_3 x31_1).f1.f0),.int .u64 ((rd_T107 l0_3 x31_1).f1.f1),.int .u64 0,.string (⟨#[]⟩:ByteArray),.string (⟨#[]⟩:ByteArray)]) ?_ 3 _ rfl;(with_reducible repeat (first | refine blk_drewN ?_ _ | refine blk_drew ?_ | refine blk_alloc ?_ _));refine blk_put (cs:=#[.int .i64 ((rd_T107 l0_3 x31_1).f0),.int .u64 ((rd_T107 l0_3 x31_1).f1.f0),.int .u64 0,.int .u64 0,.string (⟨#[]⟩:ByteArray),.string (⟨#[]⟩:ByteArray)]) ?_ 2 _ rfl;(with_reducible repeat (first | refine blk_drewN ?_ _ | refine blk_drew ?_ | refine blk_alloc ?_ _));refine blk_put (cs:=#[.int .i64 ((rd_T107 l0_3 x31_1).f0),.int .u64 0,.int .u64 0,.int .u64 0,.string (⟨#[]⟩:ByteArray),.string (⟨#[]⟩:ByteArray)]) ?_ 1 _ rfl;(with_reducible repeat (first | refine blk_drewN ?_ _ | refine blk_drew ?_ | refine blk_alloc ?_ _));refine blk_put (cs:=#[.int .i64 0,.int .u64 0,.int .u64 0,.int .u64 0,.string (⟨#[]⟩:ByteArray),.string (⟨#[]⟩:ByteArray)]) ?_ 0 _ rfl;(with_reducible repeat (first | refine blk_drewN ?_ _ | refine blk_drew ?_ | refine blk_alloc ?_ _));exact BK113.out)):gb114 ≠ gb113));clear BK106;clear BK113;clear HB;have BK106:=n0_;have BK113:=n1_;have HB:=n2_;have BK114:=n3_;have GW114:=n4_;have GE114:=n5_;have NB106_114:=n6_;have NB114_106:=n7_;have NB113_114:=n8_;have NB114_113:=n9_;clear n0_ n1_ n2_ n3_ n4_ n5_ n6_ n7_ n8_ n9_;clear hb hbox hg;have hnb27:=NB114_106.out;have hnc27:=NB106_114.out;have hnb28:=NB114_113.out;have hnc28:=NB113_114.out;have hcz29_0:w26.cell? ⟨gb114,0,none⟩ = some (.int .u64 0):=(blk_cell BK114.out 0).trans rfl;have hcz29_1:w26.cell? ⟨gb114,1,none⟩ = some (.int .u64 0):=(blk_cell BK114.out 1).trans rfl;have hcz29_2:w26.cell? ⟨gb114,2,none⟩ = some (.int .u64 0):=(blk_cell BK114.out 2).trans rfl;have hcz29_3:w26.cell? ⟨gb114,3,none⟩ = some (.string (⟨#[]⟩:ByteArray)):=(blk_cell BK114.out 3).trans rfl;have hcz29_4:w26.cell? ⟨gb114,4,none⟩ = some (.string (⟨#[]⟩:ByteArray)):=(blk_cell BK114.out 4).trans rfl;have hfz29_0:=blk_frozen BK114.out 0;have hfz29_1:=blk_frozen BK114.out 1;have hfz29_2:=blk_frozen BK114.out 2;have hfz29_3:=blk_frozen BK114.out 3;have hfz29_4:=blk_frozen BK114.out 4))
          have n0_:Aside0 ((((((w26.setCell ⟨gb114,0,none⟩ (.int .u64 ((rd_T107 l0_3 x31_1).f1.f0))).setCell ⟨gb114,1,none⟩ (.int .u64 ((rd_T107 l0_3 x31_1).f1.f1))).setCell ⟨gb114,2,none⟩ (.int .u64 ((rd_T107 l0_3 x31_1).f1.f2))).setCell ⟨gb114,3,none⟩ (.string ((rd_T107 l0_3 x31_1).f1.f3))).setCell ⟨gb114,4,none⟩ (.string ((rd_T107 l0_3 x31_1).f1.f4))).heap[gb106]? = some (.cells #[.int .u64 a0_0,.int .u64 a0_1,.int .u64 a0_2,.slice (some ad112) l0_3.length c0_3,.slice A0_4 l0_4.length c0_4] 26 (0,0))):=⟨by (with_reducible repeat (first | refine blk_drewN ?_ _ | refine blk_drew ?_ | refine blk_alloc ?_ _));refine blk_far ?_ NB106_114.out _;(with_reducible repeat (first | refine blk_drewN ?_ _ | refine blk_drew ?_ | refine blk_alloc ?_ _));refine blk_far ?_ NB106_114.out _;(with_reducible repeat (first | refine blk_drewN ?_ _ | refine blk_drew ?_ | refine blk_alloc ?_ _));refine blk_far ?_ NB106_114.out _;(with_reducible repeat (first | refine blk_drewN ?_ _ | refine blk_drew ?_ | refine blk_alloc ?_ _));refine blk_far ?_ NB106_114.out _;(with_reducible repeat (first | refine blk_drewN ?_ _ | refine blk_drew ?_ | refine blk_alloc ?_ _));refine blk_far ?_ NB106_114.out _;(with_reducible repeat (first | refine blk_drewN ?_ _ | refine blk_drew ?_ | refine blk_alloc ?_ _));exact BK106.out⟩
          have n1_:Aside0 ((((((w26.setCell ⟨gb114,0,none⟩ (.int .u64 ((rd_T107 l0_3 x31_1).f1.f0))).setCell ⟨gb114,1,none⟩ (.int .u64 ((rd_T107 l0_3 x31_1).f1.f1))).setCell ⟨gb114,2,none⟩ (.int .u64 ((rd_T107 l0_3 x31_1).f1.f2))).setCell ⟨gb114,3,none⟩ (.string ((rd_T107 l0_3 x31_1).f1.f3))).setCell ⟨gb114,4,none⟩ (.string ((rd_T107 l0_3 x31_1).f1.f4))).heap[gb113]? = some (.cells #[.int .i64 ((rd_T107 l0_3 x31_1).f0),.int .u64 ((rd_T107 l0_3 x31_1).f1.f0),.int .u64 ((rd_T107 l0_3 x31_1).f1.f1),.int .u64 ((rd_T107 l0_3 x31_1).f1.f2),.string ((rd_T107 l0_3 x31_1).f1.f3),.string ((rd_T107 l0_3 x31_1).f1.f4)] 107 (0,0))):=⟨by (with_reducible repeat (first | refine blk_drewN ?_ _ | refine blk_drew ?_ | refine blk_alloc ?_ _));refine blk_far ?_ NB113_114.out _;(with_reducible repeat (first | refine blk_drewN ?_ _ | refine blk_drew ?_ | refine blk_alloc ?_ _));refine blk_far ?_ NB113_114.out _;(with_reducible repeat (first | refine blk_drewN ?_ _ | refine blk_drew ?_ | refine blk_alloc ?_ _));refine blk_far ?_ NB113_114.out _;(with_reducible repeat (first | refine blk_drewN ?_ _ | refine blk_drew ?_ | refine blk_alloc ?_ _));refine blk_far ?_ NB113_114.out _;(with_reducible repeat (first | refine blk_drewN ?_ _ | refine blk_drew ?_ | refine blk_alloc ?_ _));refine blk_far ?_ NB113_114.out _;(with_reducible repeat (first | refine blk_drewN ?_ _ | refine blk_drew ?_ | refine blk_alloc ?_ _));exact BK113.out⟩
          have n2_:Aside0 ((((((w26.setCell ⟨gb114,0,none⟩ (.int .u64 ((rd_T107 l0_3 x31_1).f1.f0))).setCell ⟨gb114,1,none⟩ (.int .u64 ((rd_T107 l0_3 x31_1).f1.f1))).setCell ⟨gb114,2,none⟩ (.int .u64 ((rd_T107 l0_3 x31_1).f1.f2))).setCell ⟨gb114,3,none⟩ (.string ((rd_T107 l0_3 x31_1).f1.f3))).setCell ⟨gb114,4,none⟩ (.string ((rd_T107 l0_3 x31_1).f1.f4))).heap[gb114]? = some (.cells #[.int .u64 ((rd_T107 l0_3 x31_1).f1.f0),.int .u64 ((rd_T107 l0_3 x31_1).f1.f1),.int .u64 ((rd_T107 l0_3 x31_1).f1.f2),.string ((rd_T107 l0_3 x31_1).f1.f3),.string ((rd_T107 l0_3 x31_1).f1.f4)] 97 (0,0))):=⟨by (with_reducible repeat (first | refine blk_drewN ?_ _ | refine blk_drew ?_ | refine blk_alloc ?_ _));refine blk_put (cs:=#[.int .u64 ((rd_T107 l0_3 x31_1).f1.f0),.int .u64 ((rd_T107 l0_3 x31_1).f1.f1),.int .u64 ((rd_T107 l0_3 x31_1).f1.f2),.string ((rd_T107 l0_3 x31_1).f1.f3),.string (⟨#[]⟩:ByteArray)]) ?_ 4 _ rfl;(with_reducible repeat (first | refine blk_drewN ?_ _ | refine blk_drew ?_ | refine blk_alloc ?_ _));refine blk_put (cs:=#[.int .u64 ((rd_T107 l0_3 x31_1).f1.f0),.int .u64 ((rd_T107 l0_3 x31_1).f1.f1),.int .u64 ((rd_T107 l0_3 x31_1).f1.f2),.string (⟨#[]⟩:ByteArray),.string (⟨#[]⟩:ByteArray)]) ?_ 3 _ rfl;(with_reducible repeat (first | refine blk_drewN ?_ _ | refine blk_drew ?_ | refine blk_alloc ?_ _));refine blk_put (cs:=#[.int .u64 ((rd_T107 l0_3 x31_1).f1.f0),.int .u64 ((rd_T107 l0_3 x31_1).f1.f1),.int .u64 0,.string (⟨#[]⟩:ByteArray),.string (⟨#[]⟩:ByteArray)]) ?_ 2 _ rfl;(with_reducible repeat (first | refine blk_drewN ?_ _ | refine blk_drew ?_ | refine blk_alloc ?_ _));refine blk_put (cs:=#[.int .u64 ((rd_T107 l0_3 x31_1).f1.f0),.int .u64 0,.int .u64 0,.string (⟨#[]⟩:ByteArray),.string (⟨#[]⟩:ByteArray)]) ?_ 1 _ rfl;(with_reducible repeat (first | refine blk_drewN ?_ _ | refine blk_drew ?_ | refine blk_alloc ?_ _));refine blk_put (cs:=#[.int .u64 0,.int .u64 0,.int .u64 0,.string (⟨#[]⟩:ByteArray),.string (⟨#[]⟩:ByteArray)]) ?_ 0 _ rfl;(with_reducible repeat (first | refine blk_drewN ?_ _ | refine blk_drew ?_ | refine blk_alloc ?_ _));exact BK114.out⟩
          have n3_:Aside0 (Below w.heap.size w (((((w26.setCell ⟨gb114,0,none⟩ (.int .u64 ((rd_T107 l0_3 x31_1).f1.f0))).setCell ⟨gb114,1,none⟩ (.int .u64 ((rd_T107 l0_3 x31_1).f1.f1))).setCell ⟨gb114,2,none⟩ (.int .u64 ((rd_T107 l0_3 x31_1).f1.f2))).setCell ⟨gb114,3,none⟩ (.string ((rd_T107 l0_3 x31_1).f1.f3))).setCell ⟨gb114,4,none⟩ (.string ((rd_T107 l0_3 x31_1).f1.f4)))):=⟨by repeat (first | (with_reducible first | exact HB.out | apply below_alloc | apply pw_below_drewN | apply below_drew1 | refine below_set ?_ GE106.out | refine below_set ?_ GE113.out | refine below_set ?_ GE114.out) | exact HB.out)⟩
          (try clear BK106)
          (try clear BK113)
          (try clear BK114)
          (try clear HB)
          generalize (((((w26.setCell ⟨gb114,0,none⟩ (.int .u64 ((rd_T107 l0_3 x31_1).f1.f0))).setCell ⟨gb114,1,none⟩ (.int .u64 ((rd_T107 l0_3 x31_1).f1.f1))).setCell ⟨gb114,2,none⟩ (.int .u64 ((rd_T107 l0_3 x31_1).f1.f2))).setCell ⟨gb114,3,none⟩ (.string ((rd_T107 l0_3 x31_1).f1.f3))).setCell ⟨gb114,4,none⟩ (.string ((rd_T107 l0_3 x31_1).f1.f4))) = w30 at n0_ n1_ n2_ n3_ ⊢
          have BK106:=n0_
          have BK113:=n1_
          have BK114:=n2_
          have HB:=n3_
          clear n0_ n1_ n2_ n3_
          have n0_:=Aside0.mk (blk_drew BK106.out)
          have n1_:=Aside0.mk (blk_drew BK113.out)
          have n2_:=Aside0.mk (blk_drew BK114.out)
          have n3_:=Aside0.mk (below_drew1 HB.out)
          clear BK106
          clear BK113
          clear BK114
          clear HB
          have BK106:=n0_
          have BK113:=n1_
          have BK114:=n2_
          have HB:=n3_
          clear n0_ n1_ n2_ n3_
          refine start_ (n:=22) (S:=fun w'=>w'.cell? ⟨gb113,0,none⟩ = some (.int .i64 ((rd_T107 l0_3 x31_1).f0)) ∧ w'.cell? ⟨gb113,1,none⟩ = some (.int .u64 ((rd_T107 l0_3 x31_1).f1.f0)) ∧ w'.cell? ⟨gb113,2,none⟩ = some (.int .u64 ((rd_T107 l0_3 x31_1).f1.f1)) ∧ w'.cell? ⟨gb113,3,none⟩ = some (.int .u64 ((rd_T107 l0_3 x31_1).f1.f2)) ∧ w'.cell? ⟨gb113,4,none⟩ = some (.string ((rd_T107 l0_3 x31_1).f1.f3)) ∧ w'.cell? ⟨gb113,5,none⟩ = some (.string ((rd_T107 l0_3 x31_1).f1.f4)) ∧ w'.cell? ⟨gb114,0,none⟩ = some (.int .u64 ((rd_T107 l0_3 x31_1).f1.f0)) ∧ w'.cell? ⟨gb114,1,none⟩ = some (.int .u64 ((rd_T107 l0_3 x31_1).f1.f1)) ∧ w'.cell? ⟨gb114,2,none⟩ = some (.int .u64 ((rd_T107 l0_3 x31_1).f1.f2)) ∧ w'.cell? ⟨gb114,3,none⟩ = some (.string ((rd_T107 l0_3 x31_1).f1.f3)) ∧ w'.cell? ⟨gb114,4,none⟩ = some (.string ((rd_T107 l0_3 x31_1).f1.f4))) (ds:=[]) #[false,false,false,false,false,false,false,false,false,false,false,false,false,false,false,false,false,false,false,false,false,false] (by kernel_rfl) rfl rfl ⟨(blk_cell BK113.out 0).trans rfl,(blk_cell BK113.out 1).trans rfl,(blk_cell BK113.out 2).trans rfl,(blk_cell BK113.out 3).trans rfl,(blk_cell BK113.out 4).trans rfl,(blk_cell BK113.out 5).trans rfl,(blk_cell BK114.out 0).trans rfl,(blk_cell BK114.out 1).trans rfl,(blk_cell BK114.out 2).trans rfl,(blk_cell BK114.out 3).trans rfl,(blk_cell BK114.out 4).trans rfl⟩ (fun hHeld=>?_);refine with_tabW edit_Edit_Bytes.tab9 edit_Edit_Bytes.bits9 (fun HT_ HW_=>?_)
          generalize w30.drew = w31 at BK106 BK113 BK114 HB hHeld ⊢
          refine pure_ (i:=0) (N:=some 37) (v:=?_) (a':=?_) #[true,false,false,false,false,false,false,false,false,false,false,false,false,false,false,false,false,false,false,false,false,false] rfl rfl (any_of HT_.out (by kernel_rfl)) (fun _ _ _ h=>h) (Or.inl ⟨by rfl,?_⟩) ?_ ?_
          rotate_left
          ·intro w'
           go_simp
           with_reducible rfl
          rotate_left
          ·simp only [Act.put,List.setIfInBounds_toArray,List.set_cons_zero,List.set_cons_succ,i64_w,i32_w]
           rfl
          refine pure_ (i:=1) (N:=some 38) (v:=?_) (a':=?_) #[true,true,false,false,false,false,false,false,false,false,false,false,false,false,false,false,false,false,false,false,false,false] rfl rfl (any_of HT_.out (by kernel_rfl)) (fun _ _ _ h=>h) (Or.inl ⟨by rfl,?_⟩) ?_ ?_
          rotate_left
          ·intro w'
           go_simp
           with_reducible rfl
          rotate_left
          ·simp only [Act.put,List.setIfInBounds_toArray,List.set_cons_zero,List.set_cons_succ,i64_w,i32_w]
           rfl
          refine pure_ (i:=4) (N:=some 41) (v:=?_) (a':=?_) #[true,true,false,false,true,false,false,false,false,false,false,false,false,false,false,false,false,false,false,false,false,false] rfl rfl (any_of HT_.out (by kernel_rfl)) (fun _ _ _ h=>h) (Or.inl ⟨by rfl,?_⟩) ?_ ?_
          rotate_left
          ·intro w'
           go_simp
           with_reducible rfl
          rotate_left
          ·simp only [Act.put,List.setIfInBounds_toArray,List.set_cons_zero,List.set_cons_succ,i64_w,i32_w]
           rfl
          refine pure_ (i:=6) (N:=some 43) (v:=?_) (a':=?_) #[true,true,false,false,true,false,true,false,false,false,false,false,false,false,false,false,false,false,false,false,false,false] rfl rfl (any_of HT_.out (by kernel_rfl)) (fun _ _ _ h=>h) (Or.inl ⟨by rfl,?_⟩) ?_ ?_
          rotate_left
          ·intro w'
           go_simp
           with_reducible rfl
          rotate_left
          ·simp only [Act.put,List.setIfInBounds_toArray,List.set_cons_zero,List.set_cons_succ,i64_w,i32_w]
           rfl
          refine pure_ (i:=8) (N:=some 45) (v:=?_) (a':=?_) #[true,true,false,false,true,false,true,false,true,false,false,false,false,false,false,false,false,false,false,false,false,false] rfl rfl (any_of HT_.out (by kernel_rfl)) (fun _ _ _ h=>h) (Or.inl ⟨by rfl,?_⟩) ?_ ?_
          rotate_left
          ·intro w'
           go_simp
           with_reducible rfl
          rotate_left
          ·simp only [Act.put,List.setIfInBounds_toArray,List.set_cons_zero,List.set_cons_succ,i64_w,i32_w]
           rfl
          refine pure_ (i:=12) (N:=some 49) (v:=?_) (a':=?_) #[true,true,false,false,true,false,true,false,true,false,false,false,true,false,false,false,false,false,false,false,false,false] rfl rfl (any_of HT_.out (by kernel_rfl)) (fun _ _ _ h=>h) (Or.inl ⟨by rfl,?_⟩) ?_ ?_
          rotate_left
          ·intro w'
           go_simp
           with_reducible rfl
          rotate_left
          ·simp only [Act.put,List.setIfInBounds_toArray,List.set_cons_zero,List.set_cons_succ,i64_w,i32_w]
           rfl
          refine pure_ (i:=16) (N:=some 53) (v:=?_) (a':=?_) #[true,true,false,false,true,false,true,false,true,false,false,false,true,false,false,false,true,false,false,false,false,false] rfl rfl (any_of HT_.out (by kernel_rfl)) (fun _ _ _ h=>h) (Or.inl ⟨by rfl,?_⟩) ?_ ?_
          rotate_left
          ·intro w'
           go_simp
           with_reducible rfl
          rotate_left
          ·simp only [Act.put,List.setIfInBounds_toArray,List.set_cons_zero,List.set_cons_succ,i64_w,i32_w]
           rfl
          refine take_ (i:=2) (N:=some 39) (v:=?_) (a':=?_) #[true,true,true,false,true,false,true,false,true,false,false,false,true,false,false,false,true,false,false,false,false,false] rfl rfl (take_ofW HT_.out HW_.out (by kernel_rfl)) (fun _ _ _ h=>h) (Or.inl ⟨by rfl,?_⟩) hHeld ?_ ?_
          rotate_left
          ·rintro w' ⟨s0,s1,s2,s3,s4,s5,s6,s7,s8,s9,s10⟩
           go_simp
           with_reducible rfl
          rotate_left
          ·simp only [Act.put,List.setIfInBounds_toArray,List.set_cons_zero,List.set_cons_succ,i64_w,i32_w]
           rfl
          refine pure_ (i:=3) (N:=some 40) (v:=?_) (a':=?_) #[true,true,true,true,true,false,true,false,true,false,false,false,true,false,false,false,true,false,false,false,false,false] rfl rfl (any_of HT_.out (by kernel_rfl)) (fun _ _ _ h=>h) (Or.inl ⟨by rfl,?_⟩) ?_ ?_
          rotate_left
          ·intro w'
           go_simp
           with_reducible rfl
          rotate_left
          ·simp only [Act.put,List.setIfInBounds_toArray,List.set_cons_zero,List.set_cons_succ,i64_w,i32_w]
           rfl
          refine take_ (i:=5) (N:=some 42) (v:=?_) (a':=?_) #[true,true,true,true,true,true,true,false,true,false,false,false,true,false,false,false,true,false,false,false,false,false] rfl rfl (take_ofW HT_.out HW_.out (by kernel_rfl)) (fun _ _ _ h=>h) (Or.inl ⟨by rfl,?_⟩) hHeld ?_ ?_
          rotate_left
          ·rintro w' ⟨s0,s1,s2,s3,s4,s5,s6,s7,s8,s9,s10⟩
           go_simp
           with_reducible rfl
          rotate_left
          ·simp only [Act.put,List.setIfInBounds_toArray,List.set_cons_zero,List.set_cons_succ,i64_w,i32_w]
           rfl
          refine take_ (i:=7) (N:=some 44) (v:=?_) (a':=?_) #[true,true,true,true,true,true,true,true,true,false,false,false,true,false,false,false,true,false,false,false,false,false] rfl rfl (take_ofW HT_.out HW_.out (by kernel_rfl)) (fun _ _ _ h=>h) (Or.inl ⟨by rfl,?_⟩) hHeld ?_ ?_
          rotate_left
          ·rintro w' ⟨s0,s1,s2,s3,s4,s5,s6,s7,s8,s9,s10⟩
           go_simp
           with_reducible rfl
          rotate_left
          ·simp only [Act.put,List.setIfInBounds_toArray,List.set_cons_zero,List.set_cons_succ,i64_w,i32_w]
           rfl
          refine take_ (i:=9) (N:=some 46) (v:=?_) (a':=?_) #[true,true,true,true,true,true,true,true,true,true,false,false,true,false,false,false,true,false,false,false,false,false] rfl rfl (take_ofW HT_.out HW_.out (by kernel_rfl)) (fun _ _ _ h=>h) (Or.inl ⟨by rfl,?_⟩) hHeld ?_ ?_
          rotate_left
          ·rintro w' ⟨s0,s1,s2,s3,s4,s5,s6,s7,s8,s9,s10⟩
           go_simp
           with_reducible rfl
          rotate_left
          ·simp only [Act.put,List.setIfInBounds_toArray,List.set_cons_zero,List.set_cons_succ,i64_w,i32_w]
           rfl
          refine take_ (i:=13) (N:=some 50) (v:=?_) (a':=?_) #[true,true,true,true,true,true,true,true,true,true,false,false,true,true,false,false,true,false,false,false,false,false] rfl rfl (take_ofW HT_.out HW_.out (by kernel_rfl)) (fun _ _ _ h=>h) (Or.inl ⟨by rfl,?_⟩) hHeld ?_ ?_
          rotate_left
          ·rintro w' ⟨s0,s1,s2,s3,s4,s5,s6,s7,s8,s9,s10⟩
           go_simp
           with_reducible rfl
          rotate_left
          ·simp only [Act.put,List.setIfInBounds_toArray,List.set_cons_zero,List.set_cons_succ,i64_w,i32_w]
           rfl
          refine take_ (i:=17) (N:=some 54) (v:=?_) (a':=?_) #[true,true,true,true,true,true,true,true,true,true,false,false,true,true,false,false,true,true,false,false,false,false] rfl rfl (take_ofW HT_.out HW_.out (by kernel_rfl)) (fun _ _ _ h=>h) (Or.inl ⟨by rfl,?_⟩) hHeld ?_ ?_
          rotate_left
          ·rintro w' ⟨s0,s1,s2,s3,s4,s5,s6,s7,s8,s9,s10⟩
           go_simp
           with_reducible rfl
          rotate_left
          ·simp only [Act.put,List.setIfInBounds_toArray,List.set_cons_zero,List.set_cons_succ,i64_w,i32_w]
           rfl
          refine one_ (i:=10) (N:=some 47) #[true,true,true,true,true,true,true,true,true,true,true,false,true,true,false,false,true,true,false,false,false,false] rfl rfl (one_of HT_.out (by kernel_rfl)) (by decide) (fun K hK=>?_)
          refine Kd.R_lit_step (Kd.int .u64) _ 22 ?hg (N:=47) ?hd (xs:=([IntKind.u64.wrap ((rd_T107 l0_3 x31_1).f0),(rd_T107 l0_3 x31_1).f1.f0,(rd_T107 l0_3 x31_1).f1.f1,(rd_T107 l0_3 x31_1).f1.f2]:List Int)) (inner:=[.int .u64 (IntKind.u64.wrap ((rd_T107 l0_3 x31_1).f0)),.int .u64 ((rd_T107 l0_3 x31_1).f1.f0),.int .u64 ((rd_T107 l0_3 x31_1).f1.f1),.int .u64 ((rd_T107 l0_3 x31_1).f1.f2)]) (ok:=fun _=>True) (okp:=fun _=>True) ?hr ?hp (fun _ hk=>hk) trivial (Below.refl _ _) (Nat.le_refl _) (by simp) ?_;(case hd=>rfl);(case hg=>rfl);(case hr=>first | (go_simp;done) | (go_simp;rfl));(case hp=>exact (Reps.one (show Kd.M (Kd.int .u64) _ _ _ (IntKind.u64.wrap ((rd_T107 l0_3 x31_1).f0)) [.int .u64 (IntKind.u64.wrap ((rd_T107 l0_3 x31_1).f0))] from rfl) (Reps.one (show Kd.M (Kd.int .u64) _ _ _ ((rd_T107 l0_3 x31_1).f1.f0) [.int .u64 ((rd_T107 l0_3 x31_1).f1.f0)] from rfl) (Reps.one (show Kd.M (Kd.int .u64) _ _ _ ((rd_T107 l0_3 x31_1).f1.f1) [.int .u64 ((rd_T107 l0_3 x31_1).f1.f1)] from rfl) (Reps.one (show Kd.M (Kd.int .u64) _ _ _ ((rd_T107 l0_3 x31_1).f1.f2) [.int .u64 ((rd_T107 l0_3 x31_1).f1.f2)] from rfl) (Reps.none _ _))))))
          intro v116 w32 ho33 hb hg_ hnew_
          clear hg_ hnew_
          (first | rw [← Ny115.out] at ho33 | (simp only [Int.reduceToNat] at ho33;rw [← Ny115.out] at ho33))
          have n0_:=Aside0.mk (Kd.R_lower ho33 (below_size (by repeat (first | (with_reducible first | exact HB.out | apply below_alloc | apply pw_below_drewN | apply below_drew1 | refine below_set ?_ GE106.out | refine below_set ?_ GE113.out | refine below_set ?_ GE114.out) | exact HB.out))))
          have n1_:=Aside0.mk (blk_below (g:=gb106) (o:=.cells #[.int .u64 a0_0,.int .u64 a0_1,.int .u64 a0_2,.slice (some ad112) l0_3.length c0_3,.slice A0_4 l0_4.length c0_4] 26 (0,0)) (by (with_reducible repeat (first | refine blk_drewN ?_ _ | refine blk_drew ?_ | refine blk_alloc ?_ _));exact BK106.out) hb)
          have n2_:=Aside0.mk (blk_below (g:=gb113) (o:=.cells #[.int .i64 ((rd_T107 l0_3 x31_1).f0),.int .u64 ((rd_T107 l0_3 x31_1).f1.f0),.int .u64 ((rd_T107 l0_3 x31_1).f1.f1),.int .u64 ((rd_T107 l0_3 x31_1).f1.f2),.string ((rd_T107 l0_3 x31_1).f1.f3),.string ((rd_T107 l0_3 x31_1).f1.f4)] 107 (0,0)) (by (with_reducible repeat (first | refine blk_drewN ?_ _ | refine blk_drew ?_ | refine blk_alloc ?_ _));exact BK113.out) hb)
          have n3_:=Aside0.mk (blk_below (g:=gb114) (o:=.cells #[.int .u64 ((rd_T107 l0_3 x31_1).f1.f0),.int .u64 ((rd_T107 l0_3 x31_1).f1.f1),.int .u64 ((rd_T107 l0_3 x31_1).f1.f2),.string ((rd_T107 l0_3 x31_1).f1.f3),.string ((rd_T107 l0_3 x31_1).f1.f4)] 97 (0,0)) (by (with_reducible repeat (first | refine blk_drewN ?_ _ | refine blk_drew ?_ | refine blk_alloc ?_ _));exact BK114.out) hb)
          have n4_:=Aside0.mk (below_step (by repeat (first | (with_reducible first | exact HB.out | apply below_alloc | apply pw_below_drewN | apply below_drew1 | refine below_set ?_ GE106.out | refine below_set ?_ GE113.out | refine below_set ?_ GE114.out) | exact HB.out)) hb)
          clear BK106
          clear BK113
          clear BK114
          clear HB
          have HO117:=n0_
          have BK106:=n1_
          have BK113:=n2_
          have BK114:=n3_
          have HB:=n4_
          clear n0_ n1_ n2_ n3_ n4_
          clear hb ho33
          obtain ⟨Ao34,co34,eo34⟩:=Kd.R_slice HO117.out
          (first | subst eo34 | (injection eo34 with f1_ f2_ f3_;have f4_:=f1_.symm;have f5_:=f3_.symm;clear f1_ f2_ f3_;subst f4_;subst f5_))
          refine hK.out _ _ ⟨(blk_cell BK113.out 0).trans rfl,(blk_cell BK113.out 1).trans rfl,(blk_cell BK113.out 2).trans rfl,(blk_cell BK113.out 3).trans rfl,(blk_cell BK113.out 4).trans rfl,(blk_cell BK113.out 5).trans rfl,(blk_cell BK114.out 0).trans rfl,(blk_cell BK114.out 1).trans rfl,(blk_cell BK114.out 2).trans rfl,(blk_cell BK114.out 3).trans rfl,(blk_cell BK114.out 4).trans rfl⟩ (fun hHeld=>?_)
          clear hK K
          refine norm_ (a':=?_) ?_ ?_
          rotate_left
          ·show Act.put _ (some 47) _ = _
           simp only [Act.put,List.setIfInBounds_toArray,List.set_cons_zero,List.set_cons_succ,i64_w,i32_w]
           rfl
          refine one_ (i:=11) (N:=some 48) #[true,true,true,true,true,true,true,true,true,true,true,true,true,true,false,false,true,true,false,false,false,false] rfl rfl (one_of HT_.out (by kernel_rfl)) (by decide) (fun K hK=>?_)
          refine goes_ Tryd.func51 (by kernel_rfl) rfl #[.slice Ao34 y115.length co34] (by rfl) rfl rfl (by (try simp only [List.map_toArray,List.map_cons,List.map_nil]);first | done | rfl | (simp only [List.length_drop,List.length_take];rfl)) ?_
          with_reducible refine (edit_nums.calls k1 _ _ y115 t118 _ ?side1 ?side2 A17.out).mono ?_
          (case side1=>repeat (first | exact (Kd.R_reads' HO117.out).2.2 | (with_reducible refine Kd.C_alloc ?_ _) | (with_reducible refine Kd.C_drewN ?_ _) | (with_reducible refine Kd.C_drew ?_)))
          (case side2=>exact (Kd.R_reads' HO117.out).2.1)
          rintro e w35 ⟨rfl,hb⟩
          refine ⟨_,rfl,?_⟩
          have n0_:=Aside0.mk (Kd.R_below (by (with_reducible repeat (first | apply Kd.R_alloc | apply Kd.R_drewN | apply Kd.R_drew));exact HO117.out) hb)
          have n1_:=Aside0.mk (blk_below (g:=gb106) (o:=.cells #[.int .u64 a0_0,.int .u64 a0_1,.int .u64 a0_2,.slice (some ad112) l0_3.length c0_3,.slice A0_4 l0_4.length c0_4] 26 (0,0)) (by (with_reducible repeat (first | refine blk_drewN ?_ _ | refine blk_drew ?_ | refine blk_alloc ?_ _));exact BK106.out) hb)
          have n2_:=Aside0.mk (blk_below (g:=gb113) (o:=.cells #[.int .i64 ((rd_T107 l0_3 x31_1).f0),.int .u64 ((rd_T107 l0_3 x31_1).f1.f0),.int .u64 ((rd_T107 l0_3 x31_1).f1.f1),.int .u64 ((rd_T107 l0_3 x31_1).f1.f2),.string ((rd_T107 l0_3 x31_1).f1.f3),.string ((rd_T107 l0_3 x31_1).f1.f4)] 107 (0,0)) (by (with_reducible repeat (first | refine blk_drewN ?_ _ | refine blk_drew ?_ | refine blk_alloc ?_ _));exact BK113.out) hb)
          have n3_:=Aside0.mk (blk_below (g:=gb114) (o:=.cells #[.int .u64 ((rd_T107 l0_3 x31_1).f1.f0),.int .u64 ((rd_T107 l0_3 x31_1).f1.f1),.int .u64 ((rd_T107 l0_3 x31_1).f1.f2),.string ((rd_T107 l0_3 x31_1).f1.f3),.string ((rd_T107 l0_3 x31_1).f1.f4)] 97 (0,0)) (by (with_reducible repeat (first | refine blk_drewN ?_ _ | refine blk_drew ?_ | refine blk_alloc ?_ _));exact BK114.out) hb)
          have n4_:=Aside0.mk (below_step (by repeat (first | (with_reducible first | exact HB.out | apply below_alloc | apply pw_below_drewN | apply below_drew1 | refine below_set ?_ GE106.out | refine below_set ?_ GE113.out | refine below_set ?_ GE114.out) | exact HB.out)) hb)
          clear HO117
          clear BK106
          clear BK113
          clear BK114
          clear HB
          have HO117:=n0_
          have BK106:=n1_
          have BK113:=n2_
          have BK114:=n3_
          have HB:=n4_
          clear n0_ n1_ n2_ n3_ n4_
          (try clear hb)
          (try clear hb2)
          (try clear hk)
          (try clear hi)
          refine hK.out _ _ ⟨(blk_cell BK113.out 0).trans rfl,(blk_cell BK113.out 1).trans rfl,(blk_cell BK113.out 2).trans rfl,(blk_cell BK113.out 3).trans rfl,(blk_cell BK113.out 4).trans rfl,(blk_cell BK113.out 5).trans rfl,(blk_cell BK114.out 0).trans rfl,(blk_cell BK114.out 1).trans rfl,(blk_cell BK114.out 2).trans rfl,(blk_cell BK114.out 3).trans rfl,(blk_cell BK114.out 4).trans rfl⟩ (fun hHeld=>?_)
          clear hK K
          refine norm_ (a':=?_) ?_ ?_
          rotate_left
          ·show Act.put _ (some 48) _ = _
           simp only [Act.put,List.setIfInBounds_toArray,List.set_cons_zero,List.set_cons_succ,i64_w,i32_w]
           rfl
          refine one_ (i:=14) (N:=some 51) #[true,true,true,true,true,true,true,true,true,true,true,true,true,true,true,false,true,true,false,false,false,false] rfl rfl (one_of HT_.out (by kernel_rfl)) (by decide) (fun K hK=>?_)
          refine goes_ Tryd.func52 (by kernel_rfl) rfl #[.string ((rd_T107 l0_3 x31_1).f1.f3)] (by rfl) rfl rfl (by (try simp only [List.map_toArray,List.map_cons,List.map_nil]);first | done | rfl | (simp only [List.length_drop,List.length_take];rfl)) ?_
          with_reducible refine (varint_Text.calls k1 ((rd_T107 l0_3 x31_1).f1.f3) t119 _ A18.out).mono ?_
          rintro e w36 ⟨rfl,hb⟩
          refine ⟨_,rfl,?_⟩
          have n0_:=Aside0.mk (Kd.R_below (by (with_reducible repeat (first | apply Kd.R_alloc | apply Kd.R_drewN | apply Kd.R_drew));exact HO117.out) hb)
          have n1_:=Aside0.mk (blk_below (g:=gb106) (o:=.cells #[.int .u64 a0_0,.int .u64 a0_1,.int .u64 a0_2,.slice (some ad112) l0_3.length c0_3,.slice A0_4 l0_4.length c0_4] 26 (0,0)) (by (with_reducible repeat (first | refine blk_drewN ?_ _ | refine blk_drew ?_ | refine blk_alloc ?_ _));exact BK106.out) hb)
          have n2_:=Aside0.mk (blk_below (g:=gb113) (o:=.cells #[.int .i64 ((rd_T107 l0_3 x31_1).f0),.int .u64 ((rd_T107 l0_3 x31_1).f1.f0),.int .u64 ((rd_T107 l0_3 x31_1).f1.f1),.int .u64 ((rd_T107 l0_3 x31_1).f1.f2),.string ((rd_T107 l0_3 x31_1).f1.f3),.string ((rd_T107 l0_3 x31_1).f1.f4)] 107 (0,0)) (by (with_reducible repeat (first | refine blk_drewN ?_ _ | refine blk_drew ?_ | refine blk_alloc ?_ _));exact BK113.out) hb)
          have n3_:=Aside0.mk (blk_below (g:=gb114) (o:=.cells #[.int .u64 ((rd_T107 l0_3 x31_1).f1.f0),.int .u64 ((rd_T107 l0_3 x31_1).f1.f1),.int .u64 ((rd_T107 l0_3 x31_1).f1.f2),.string ((rd_T107 l0_3 x31_1).f1.f3),.string ((rd_T107 l0_3 x31_1).f1.f4)] 97 (0,0)) (by (with_reducible repeat (first | refine blk_drewN ?_ _ | refine blk_drew ?_ | refine blk_alloc ?_ _));exact BK114.out) hb)
          have n4_:=Aside0.mk (below_step (by repeat (first | (with_reducible first | exact HB.out | apply below_alloc | apply pw_below_drewN | apply below_drew1 | refine below_set ?_ GE106.out | refine below_set ?_ GE113.out | refine below_set ?_ GE114.out) | exact HB.out)) hb)
          clear HO117
          clear BK106
          clear BK113
          clear BK114
          clear HB
          have HO117:=n0_
          have BK106:=n1_
          have BK113:=n2_
          have BK114:=n3_
          have HB:=n4_
          clear n0_ n1_ n2_ n3_ n4_
          (try clear hb)
          (try clear hb2)
          (try clear hk)
          (try clear hi)
          refine hK.out _ _ ⟨(blk_cell BK113.out 0).trans rfl,(blk_cell BK113.out 1).trans rfl,(blk_cell BK113.out 2).trans rfl,(blk_cell BK113.out 3).trans rfl,(blk_cell BK113.out 4).trans rfl,(blk_cell BK113.out 5).trans rfl,(blk_cell BK114.out 0).trans rfl,(blk_cell BK114.out 1).trans rfl,(blk_cell BK114.out 2).trans rfl,(blk_cell BK114.out 3).trans rfl,(blk_cell BK114.out 4).trans rfl⟩ (fun hHeld=>?_)
          clear hK K
          refine norm_ (a':=?_) ?_ ?_
          rotate_left
          ·show Act.put _ (some 51) _ = _
           simp only [Act.put,List.setIfInBounds_toArray,List.set_cons_zero,List.set_cons_succ,i64_w,i32_w]
           rfl
          refine pure_ (i:=15) (N:=some 52) (v:=?_) (a':=?_) #[true,true,true,true,true,true,true,true,true,true,true,true,true,true,true,true,true,true,false,false,false,false] rfl rfl (any_of HT_.out (by kernel_rfl)) (fun _ _ _ h=>h) (Or.inl ⟨by rfl,?_⟩) ?_ ?_
          rotate_left
          ·intro w'
           go_simp
           with_reducible rfl
          rotate_left
          ·simp only [Act.put,List.setIfInBounds_toArray,List.set_cons_zero,List.set_cons_succ,i64_w,i32_w]
           rfl
          refine one_ (i:=18) (N:=some 55) #[true,true,true,true,true,true,true,true,true,true,true,true,true,true,true,true,true,true,true,false,false,false] rfl rfl (one_of HT_.out (by kernel_rfl)) (by decide) (fun K hK=>?_)
          refine goes_ Tryd.func52 (by kernel_rfl) rfl #[.string ((rd_T107 l0_3 x31_1).f1.f4)] (by rfl) rfl rfl (by (try simp only [List.map_toArray,List.map_cons,List.map_nil]);first | done | rfl | (simp only [List.length_drop,List.length_take];rfl)) ?_
          with_reducible refine (varint_Text.calls k1 ((rd_T107 l0_3 x31_1).f1.f4) t120 _ A20.out).mono ?_
          rintro e w37 ⟨rfl,hb⟩
          refine ⟨_,rfl,?_⟩
          have n0_:=Aside0.mk (Kd.R_below (by (with_reducible repeat (first | apply Kd.R_alloc | apply Kd.R_drewN | apply Kd.R_drew));exact HO117.out) hb)
          have n1_:=Aside0.mk (blk_below (g:=gb106) (o:=.cells #[.int .u64 a0_0,.int .u64 a0_1,.int .u64 a0_2,.slice (some ad112) l0_3.length c0_3,.slice A0_4 l0_4.length c0_4] 26 (0,0)) (by (with_reducible repeat (first | refine blk_drewN ?_ _ | refine blk_drew ?_ | refine blk_alloc ?_ _));exact BK106.out) hb)
          have n2_:=Aside0.mk (blk_below (g:=gb113) (o:=.cells #[.int .i64 ((rd_T107 l0_3 x31_1).f0),.int .u64 ((rd_T107 l0_3 x31_1).f1.f0),.int .u64 ((rd_T107 l0_3 x31_1).f1.f1),.int .u64 ((rd_T107 l0_3 x31_1).f1.f2),.string ((rd_T107 l0_3 x31_1).f1.f3),.string ((rd_T107 l0_3 x31_1).f1.f4)] 107 (0,0)) (by (with_reducible repeat (first | refine blk_drewN ?_ _ | refine blk_drew ?_ | refine blk_alloc ?_ _));exact BK113.out) hb)
          have n3_:=Aside0.mk (blk_below (g:=gb114) (o:=.cells #[.int .u64 ((rd_T107 l0_3 x31_1).f1.f0),.int .u64 ((rd_T107 l0_3 x31_1).f1.f1),.int .u64 ((rd_T107 l0_3 x31_1).f1.f2),.string ((rd_T107 l0_3 x31_1).f1.f3),.string ((rd_T107 l0_3 x31_1).f1.f4)] 97 (0,0)) (by (with_reducible repeat (first | refine blk_drewN ?_ _ | refine blk_drew ?_ | refine blk_alloc ?_ _));exact BK114.out) hb)
          have n4_:=Aside0.mk (below_step (by repeat (first | (with_reducible first | exact HB.out | apply below_alloc | apply pw_below_drewN | apply below_drew1 | refine below_set ?_ GE106.out | refine below_set ?_ GE113.out | refine below_set ?_ GE114.out) | exact HB.out)) hb)
          clear HO117
          clear BK106
          clear BK113
          clear BK114
          clear HB
          have HO117:=n0_
          have BK106:=n1_
          have BK113:=n2_
          have BK114:=n3_
          have HB:=n4_
          clear n0_ n1_ n2_ n3_ n4_
          (try clear hb)
          (try clear hb2)
          (try clear hk)
          (try clear hi)
          refine hK.out _ _ ⟨(blk_cell BK113.out 0).trans rfl,(blk_cell BK113.out 1).trans rfl,(blk_cell BK113.out 2).trans rfl,(blk_cell BK113.out 3).trans rfl,(blk_cell BK113.out 4).trans rfl,(blk_cell BK113.out 5).trans rfl,(blk_cell BK114.out 0).trans rfl,(blk_cell BK114.out 1).trans rfl,(blk_cell BK114.out 2).trans rfl,(blk_cell BK114.out 3).trans rfl,(blk_cell BK114.out 4).trans rfl⟩ (fun hHeld=>?_)
          clear hK K
          refine norm_ (a':=?_) ?_ ?_
          rotate_left
          ·show Act.put _ (some 55) _ = _
           simp only [Act.put,List.setIfInBounds_toArray,List.set_cons_zero,List.set_cons_succ,i64_w,i32_w]
           rfl
          refine pure_ (i:=19) (N:=some 56) (v:=?_) (a':=?_) #[true,true,true,true,true,true,true,true,true,true,true,true,true,true,true,true,true,true,true,true,false,false] rfl rfl (any_of HT_.out (by kernel_rfl)) (fun _ _ _ h=>h) (Or.inl ⟨by rfl,?_⟩) ?_ ?_
          rotate_left
          ·intro w'
           go_simp
           with_reducible rfl
          rotate_left
          ·simp only [Act.put,List.setIfInBounds_toArray,List.set_cons_zero,List.set_cons_succ,i64_w,i32_w]
           rfl
          refine pure_ (i:=20) (N:=some 57) (v:=?_) (a':=?_) #[true,true,true,true,true,true,true,true,true,true,true,true,true,true,true,true,true,true,true,true,true,false] rfl rfl (any_of HT_.out (by kernel_rfl)) (fun _ _ _ h=>h) (Or.inl ⟨by rfl,?_⟩) ?_ ?_
          rotate_left
          ·intro w'
           go_simp
           with_reducible rfl
          rotate_left
          ·simp only [Act.put,List.setIfInBounds_toArray,List.set_cons_zero,List.set_cons_succ,i64_w,i32_w]
           rfl
          refine pure_ (i:=21) (N:=some 5) (v:=?_) (a':=?_) #[true,true,true,true,true,true,true,true,true,true,true,true,true,true,true,true,true,true,true,true,true,true] rfl rfl (any_of HT_.out (by kernel_rfl)) (fun _ _ _ h=>h) (Or.inl ⟨by rfl,?_⟩) ?_ ?_
          rotate_left
          ·intro w'
           go_simp
           with_reducible rfl
          rotate_left
          ·simp only [Act.put,List.setIfInBounds_toArray,List.set_cons_zero,List.set_cons_succ,i64_w,i32_w]
           rfl
          refine done_ (done_of HT_.out (by kernel_rfl)) ?_
          try go_wp2
          go_roundg k1
          case measure=>have:=HK1.out;omega
          case rel=>exact ⟨(x5_1 ++ ((t118 ++ t119) ++ t120)),(wrap64 (x31_1 + 1)),(by first | rfl | (simp;done) | (simp [*];done)),(by first | rfl | (simp;done) | (simp [*];done)),H',⟨by have:=HK1.out;omega⟩,⟨by (with_reducible repeat (first | refine blk_drewN ?_ _ | refine blk_drew ?_ | refine blk_alloc ?_ _));exact BK106.out⟩,⟨by repeat (first | (with_reducible first | exact HB.out | apply below_alloc | apply pw_below_drewN | apply below_drew1 | refine below_set ?_ GE106.out | refine below_set ?_ GE113.out | refine below_set ?_ GE114.out) | exact HB.out)⟩⟩
         ·rw [if_neg c22] at H
          exact absurd H (by simp)
        ·rw [if_neg c21] at H
         exact absurd H (by simp)
       ·rw [if_neg c19] at H
        exact absurd H (by simp)
      ·rw [if_neg c16] at H
       exact absurd H (by simp)
     ·rw [if_neg c15] at H
      exact absurd H (by simp)
    ·rw [if_neg c14] at H
     have c14b0:decide (x31_1 < (l0_3.length:Int)) = false:=decide_eq_false c14
     clear c14
     obtain ⟨y121,hy121⟩:∃ y_:List Int,y_ = (([IntKind.u64.wrap ((l0_4.length:Int))]:List Int)):=⟨_,rfl⟩
     replace H:((edit_nums.f k1 y121).bind fun t124=>(if x5_1.size + t124.size ≤ 9223372036854775807 then (edit_Edit_Bytes.l1 k1 (x5_1 ++ t124) l0_4 (l0_4.length:Int) 0) else (none))) = some (r1,r2):=by first | (rw [hy121];with_reducible exact H) | (have H2_:=(Option.bind_some _ _).symm.trans H;rw [hy121];with_reducible exact H2_) | (have H2_:=(Option.bind_some _ _).symm.trans H;with_reducible exact H2_) | with_reducible exact H | (rw [hy121];exact H) | exact H
     have Ny121:=Aside0.mk hy121
     clear hy121
     replace H:=Option.bind_eq_some_iff.mp H
     obtain ⟨t124,A380,H⟩:=H
     replace H:(if x5_1.size + t124.size ≤ 9223372036854775807 then (edit_Edit_Bytes.l1 k1 (x5_1 ++ t124) l0_4 (l0_4.length:Int) 0) else (none)) = some (r1,r2):=H
     have A38:=Aside0.mk A380
     clear A380
     by_cases c39:x5_1.size + t124.size ≤ 9223372036854775807
     ·rw [if_pos c39] at H
      have c39b0:=eq_true c39
      have c39b1:decide (x5_1.size + t124.size ≤ 9223372036854775807) = true:=decide_eq_true c39
      try have c39b2:(9223372036854775807 < x5_1.size + t124.size) = False:=eq_false (Nat.not_lt.2 c39)
      have H':=Aside0.mk H
      clear H
      have hcz40_0:wr.cell? ⟨gb106,0,none⟩ = some (.int .u64 a0_0):=(blk_cell BK106.out 0).trans rfl
      have hcz40_1:wr.cell? ⟨gb106,1,none⟩ = some (.int .u64 a0_1):=(blk_cell BK106.out 1).trans rfl
      have hcz40_2:wr.cell? ⟨gb106,2,none⟩ = some (.int .u64 a0_2):=(blk_cell BK106.out 2).trans rfl
      have hcz40_3:wr.cell? ⟨gb106,3,none⟩ = some (.slice A0_3 l0_3.length c0_3):=(blk_cell BK106.out 3).trans rfl
      have hcz40_4:wr.cell? ⟨gb106,4,none⟩ = some (.slice A0_4 l0_4.length c0_4):=(blk_cell BK106.out 4).trans rfl
      have hfz40_0:=blk_frozen BK106.out 0
      have hfz40_1:=blk_frozen BK106.out 1
      have hfz40_2:=blk_frozen BK106.out 2
      have hfz40_3:=blk_frozen BK106.out 3
      have hfz40_4:=blk_frozen BK106.out 4
      go_wp2_with (first | ((with_reducible refine gate_dst (N:=64) rfl ?_);refine Kd.R_lit (Kd.int .u64) _ 22 ?hg (N:=64) ?hd (xs:=([IntKind.u64.wrap ((l0_4.length:Int))]:List Int)) (inner:=[.int .u64 (IntKind.u64.wrap ((l0_4.length:Int)))]) (ok:=fun _=>True) (okp:=fun _=>True) ?hr ?hp (fun _ hk=>hk) trivial (Below.refl _ _) (Nat.le_refl _) (by simp) ?_;(case hd=>rfl);(case hg=>rfl);(case hr=>first | (go_simp;done) | (go_simp;rfl));(case hp=>exact (Reps.one (show Kd.M (Kd.int .u64) _ _ _ (IntKind.u64.wrap ((l0_4.length:Int))) [.int .u64 (IntKind.u64.wrap ((l0_4.length:Int)))] from rfl) (Reps.none _ _)));intro v122 w41 ho42 hb hg_ hnew_;clear hg_ hnew_;(first | rw [← Ny121.out] at ho42 | (simp only [Int.reduceToNat] at ho42;rw [← Ny121.out] at ho42));have n0_:=Aside0.mk (Kd.R_lower ho42 (below_size (by repeat (first | (with_reducible first | exact HB.out | apply below_alloc | apply pw_below_drewN | apply below_drew1 | refine below_set ?_ GE106.out) | exact HB.out))));have n1_:=Aside0.mk (blk_below (g:=gb106) (o:=.cells #[.int .u64 a0_0,.int .u64 a0_1,.int .u64 a0_2,.slice A0_3 l0_3.length c0_3,.slice A0_4 l0_4.length c0_4] 26 (0,0)) (by (with_reducible repeat (first | refine blk_drewN ?_ _ | refine blk_drew ?_ | refine blk_alloc ?_ _));exact BK106.out) hb);have n2_:=Aside0.mk (below_step (by repeat (first | (with_reducible first | exact HB.out | apply below_alloc | apply pw_below_drewN | apply below_drew1 | refine below_set ?_ GE106.out) | exact HB.out)) hb);clear BK106;clear HB;have HO123:=n0_;have BK106:=n1_;have HB:=n2_;clear n0_ n1_ n2_;clear hb ho42;obtain ⟨Ao43,co43,eo43⟩:=Kd.R_slice HO123.out;subst eo43) | ((with_reducible refine gate_callee (f:=51) rfl ?_);refine goesL_ (some 65) rfl rfl Tryd.func51 (by kernel_rfl) rfl #[.slice Ao43 y121.length co43] rfl (by (try simp only [List.map_toArray,List.map_cons,List.map_nil]);first | done | rfl | (simp only [List.length_drop,List.length_take];rfl)) ?_;(with_reducible refine (edit_nums.calls k1 _ _ y121 t124 _ ?side1 ?side2 A38.out).mono ?_);(case side1=>repeat (first | exact (Kd.R_reads' HO123.out).2.2 | (with_reducible refine Kd.C_alloc ?_ _) | (with_reducible refine Kd.C_drewN ?_ _) | (with_reducible refine Kd.C_drew ?_)));(case side2=>exact (Kd.R_reads' HO123.out).2.1);rintro e w44 ⟨rfl,hb⟩;refine ⟨_,rfl,?_⟩;have n0_:=Aside0.mk (Kd.R_below (by (with_reducible repeat (first | apply Kd.R_alloc | apply Kd.R_drewN | apply Kd.R_drew));exact HO123.out) hb);have n1_:=Aside0.mk (blk_below (g:=gb106) (o:=.cells #[.int .u64 a0_0,.int .u64 a0_1,.int .u64 a0_2,.slice A0_3 l0_3.length c0_3,.slice A0_4 l0_4.length c0_4] 26 (0,0)) (by (with_reducible repeat (first | refine blk_drewN ?_ _ | refine blk_drew ?_ | refine blk_alloc ?_ _));exact BK106.out) hb);have n2_:=Aside0.mk (below_step (by repeat (first | (with_reducible first | exact HB.out | apply below_alloc | apply pw_below_drewN | apply below_drew1 | refine below_set ?_ GE106.out) | exact HB.out)) hb);clear HO123;clear BK106;clear HB;have HO123:=n0_;have BK106:=n1_;have HB:=n2_;clear n0_ n1_ n2_;(try clear hb);(try clear hb2);(try clear hk);(try clear hi);have hcz45_0:w44.cell? ⟨gb106,0,none⟩ = some (.int .u64 a0_0):=(blk_cell BK106.out 0).trans rfl;have hcz45_1:w44.cell? ⟨gb106,1,none⟩ = some (.int .u64 a0_1):=(blk_cell BK106.out 1).trans rfl;have hcz45_2:w44.cell? ⟨gb106,2,none⟩ = some (.int .u64 a0_2):=(blk_cell BK106.out 2).trans rfl;have hcz45_3:w44.cell? ⟨gb106,3,none⟩ = some (.slice A0_3 l0_3.length c0_3):=(blk_cell BK106.out 3).trans rfl;have hcz45_4:w44.cell? ⟨gb106,4,none⟩ = some (.slice A0_4 l0_4.length c0_4):=(blk_cell BK106.out 4).trans rfl;have hfz45_0:=blk_frozen BK106.out 0;have hfz45_1:=blk_frozen BK106.out 1;have hfz45_2:=blk_frozen BK106.out 2;have hfz45_3:=blk_frozen BK106.out 3;have hfz45_4:=blk_frozen BK106.out 4))
      go_loopg [5,70] k1 (fun kq v5 v70 w'=>∃ (x5_2:ByteArray) (x70_2:Int),v5 = .string x5_2 ∧ v70 = .int .i64 x70_2 ∧ Aside0 (edit_Edit_Bytes.l1 kq x5_2 l0_4 (l0_4.length:Int) x70_2 = some (r1,r2)) ∧ Aside0 (kq ≤ k1) ∧ Aside0 (w'.heap[gb106]? = some (.cells #[.int .u64 a0_0,.int .u64 a0_1,.int .u64 a0_2,(.slice A0_3 l0_3.length c0_3),(.slice A0_4 l0_4.length c0_4)] 26 (0,0))) ∧ Aside0 (Below w.heap.size w w'))
      case atStart=>exact ⟨(x5_1 ++ t124),(0),(by first | rfl | (simp;done) | (simp [*];done)),(by first | rfl | (simp;done) | (simp [*];done)),H',⟨Nat.le_refl _⟩,⟨by (with_reducible repeat (first | refine blk_drewN ?_ _ | refine blk_drew ?_ | refine blk_alloc ?_ _));exact BK106.out⟩,⟨by repeat (first | (with_reducible first | exact HB.out | apply below_alloc | apply pw_below_drewN | apply below_drew1 | refine below_set ?_ GE106.out) | exact HB.out)⟩⟩
      case round=>
       clear H'
       try clear c1
       try clear p1
       try clear q1
       try clear hx1
       try clear c2
       try clear p2
       try clear c3
       try clear c3b0
       try clear c3b1
       try clear c5
       try clear p6
       try clear p11
       try clear q11
       try clear hx11
       try clear c14
       try clear c14b0
       try clear c15
       try clear c15b0
       try clear c16
       try clear c16b0
       try clear c19
       try clear c19b0
       try clear c19b1
       try clear c19b2
       try clear c20
       try clear c21
       try clear c21b0
       try clear c21b1
       try clear c21b2
       try clear c22
       try clear c22b0
       try clear c22b1
       try clear c22b2
       try clear c24
       try clear c27
       try clear c28
       try clear c39
       try clear c39b0
       try clear c39b1
       try clear c39b2
       try clear hcz13_0
       try clear hcz13_1
       try clear hcz13_2
       try clear hcz13_3
       try clear hcz13_4
       try clear hcz25_0
       try clear hcz25_1
       try clear hcz25_2
       try clear hcz25_3
       try clear hcz25_4
       try clear hcz25_5
       try clear hcz29_0
       try clear hcz29_1
       try clear hcz29_2
       try clear hcz29_3
       try clear hcz29_4
       try clear hcz40_0
       try clear hcz40_1
       try clear hcz40_2
       try clear hcz40_3
       try clear hcz40_4
       try clear hcz45_0
       try clear hcz45_1
       try clear hcz45_2
       try clear hcz45_3
       try clear hcz45_4
       try clear hcz6_0
       try clear hcz6_1
       try clear hcz6_2
       try clear hcz6_3
       try clear hcz6_4
       try clear hcz8_0
       try clear hcz8_1
       try clear hcz8_2
       try clear hcz8_3
       try clear hcz8_4
       try clear hfz13_0
       try clear hfz13_1
       try clear hfz13_2
       try clear hfz13_3
       try clear hfz13_4
       try clear hfz25_0
       try clear hfz25_1
       try clear hfz25_2
       try clear hfz25_3
       try clear hfz25_4
       try clear hfz25_5
       try clear hfz29_0
       try clear hfz29_1
       try clear hfz29_2
       try clear hfz29_3
       try clear hfz29_4
       try clear hfz40_0
       try clear hfz40_1
       try clear hfz40_2
       try clear hfz40_3
       try clear hfz40_4
       try clear hfz45_0
       try clear hfz45_1
       try clear hfz45_2
       try clear hfz45_3
       try clear hfz45_4
       try clear hfz6_0
       try clear hfz6_1
       try clear hfz6_2
       try clear hfz6_3
       try clear hfz6_4
       try clear hfz8_0
       try clear hfz8_1
       try clear hfz8_2
       try clear hfz8_3
       try clear hfz8_4
       try clear hx112_0
       try clear hx112_1
       try clear hx112_2
       try clear hx112_3
       try clear hx112_4
       try clear hx112_5
       try clear p112
       try clear p2
       try clear q112
       obtain ⟨x5_2,x70_2,rfl,rfl,HA,HK2,BK106,HB⟩:=hrel
       cases gk with
       | zero=>exact absurd HA.out (by simp [edit_Edit_Bytes.l1])
       | succ k2=>
        have H:=HA.out
        clear HA
        simp only [edit_Edit_Bytes.l1] at H
        by_cases c46:x70_2 < (l0_4.length:Int)
        ·rw [if_pos c46] at H
         have c46b0:decide (x70_2 < (l0_4.length:Int)) = true:=decide_eq_true c46
         clear c46
         by_cases c47:0 ≤ x70_2
         ·rw [if_pos c47] at H
          have c47b0:decide (0 ≤ x70_2) = true:=decide_eq_true c47
          clear c47
          by_cases c48:x70_2 < (l0_4.length:Int)
          ·rw [if_pos c48] at H
           have c48b0:decide (x70_2 < (l0_4.length:Int)) = true:=decide_eq_true c48
           clear c48
           obtain ⟨y127,hy127⟩:∃ y_:List Int,y_ = (([IntKind.u64.wrap ((rd_T111 l0_4 x70_2).f0),(rd_T111 l0_4 x70_2).f1]:List Int)):=⟨_,rfl⟩
           replace H:((edit_nums.f k2 y127).bind fun t130=>(if x5_2.size + t130.size ≤ 9223372036854775807 then (edit_Edit_Bytes.l1 k2 (x5_2 ++ t130) l0_4 (l0_4.length:Int) (wrap64 (x70_2 + 1))) else (none))) = some (r1,r2):=by first | (rw [hy127];with_reducible exact H) | (have H2_:=(Option.bind_some _ _).symm.trans H;rw [hy127];with_reducible exact H2_) | (have H2_:=(Option.bind_some _ _).symm.trans H;with_reducible exact H2_) | with_reducible exact H | (rw [hy127];exact H) | exact H
           have Ny127:=Aside0.mk hy127
           clear hy127
           replace H:=Option.bind_eq_some_iff.mp H
           obtain ⟨t130,A490,H⟩:=H
           replace H:(if x5_2.size + t130.size ≤ 9223372036854775807 then (edit_Edit_Bytes.l1 k2 (x5_2 ++ t130) l0_4 (l0_4.length:Int) (wrap64 (x70_2 + 1))) else (none)) = some (r1,r2):=H
           have A49:=Aside0.mk A490
           clear A490
           by_cases c50:x5_2.size + t130.size ≤ 9223372036854775807
           ·rw [if_pos c50] at H
            have c50b0:=eq_true c50
            have c50b1:decide (x5_2.size + t130.size ≤ 9223372036854775807) = true:=decide_eq_true c50
            try have c50b2:(9223372036854775807 < x5_2.size + t130.size) = False:=eq_false (Nat.not_lt.2 c50)
            have H':=Aside0.mk H
            clear H
            have p125:0 ≤ (x70_2:Int):=of_decide_eq_true (by first | (with_reducible assumption) | assumption)
            have q125:x70_2 < (l0_4.length:Int):=of_decide_eq_true (by first | (with_reducible assumption) | assumption)
            obtain ⟨ad125,e125,hx125_0,hx125_1⟩:=at_T111 HR0_4.out x70_2 p125 q125
            cases e125
            replace hx125_0:=(HB.out.cell (World.block_lt_of_cell? w _ hx125_0)).trans hx125_0
            replace hx125_1:=(HB.out.cell (World.block_lt_of_cell? w _ hx125_1)).trans hx125_1
            replace p125:=eq_true p125
            replace q125:=eq_true q125
            go_wp2_with (first | ((with_reducible refine gate_dst (N:=10) rfl ?_);refine box_event ?hg (N:=10) ?hd (cs:=#[.int .i64 0,.int .u64 0]) (t:=111) ?hr ?_;(case hd=>rfl);(case hg=>rfl);(case hr=>first | (go_simp;done) | (go_simp;rfl));intro gb126 hg w51 hbox hb;have n0_:=Aside0.mk (blk_below (g:=gb106) (o:=.cells #[.int .u64 a0_0,.int .u64 a0_1,.int .u64 a0_2,.slice A0_3 l0_3.length c0_3,.slice (some ad125) l0_4.length c0_4] 26 (0,0)) (by (with_reducible repeat (first | refine blk_drewN ?_ _ | refine blk_drew ?_ | refine blk_alloc ?_ _));exact BK106.out) hb);have n1_:=Aside0.mk (below_step (by repeat (first | (with_reducible first | exact HB.out | apply below_alloc | apply pw_below_drewN | apply below_drew1 | refine below_set ?_ GE106.out) | exact HB.out)) hb);have n2_:=Aside0.mk (hbox);have n3_:=Aside0.mk ((by rw [hg];exact (below_size (by repeat (first | (with_reducible first | exact HB.out | apply below_alloc | apply pw_below_drewN | apply below_drew1 | refine below_set ?_ GE106.out) | exact HB.out))):w.heap.size ≤ gb126));have n4_:=Aside0.mk ((by rw [hg];exact (below_size (by repeat (first | (with_reducible first | exact HB.out | apply below_alloc | apply pw_below_drewN | apply below_drew1 | refine below_set ?_ GE106.out) | exact HB.out))):w.heap.size ≤ gb126));have n5_:=Aside0.mk ((by rw [hg];exact Nat.ne_of_lt (blk_lt (g:=gb106) (o:=.cells #[.int .u64 a0_0,.int .u64 a0_1,.int .u64 a0_2,.slice A0_3 l0_3.length c0_3,.slice (some ad125) l0_4.length c0_4] 26 (0,0)) (by (with_reducible repeat (first | refine blk_drewN ?_ _ | refine blk_drew ?_ | refine blk_alloc ?_ _));exact BK106.out)):gb106 ≠ gb126));have n6_:=Aside0.mk ((by rw [hg];exact Nat.ne_of_gt (blk_lt (g:=gb106) (o:=.cells #[.int .u64 a0_0,.int .u64 a0_1,.int .u64 a0_2,.slice A0_3 l0_3.length c0_3,.slice (some ad125) l0_4.length c0_4] 26 (0,0)) (by (with_reducible repeat (first | refine blk_drewN ?_ _ | refine blk_drew ?_ | refine blk_alloc ?_ _));exact BK106.out)):gb126 ≠ gb106));clear BK106;clear HB;have BK106:=n0_;have HB:=n1_;have BK126:=n2_;have GW126:=n3_;have GE126:=n4_;have NB106_126:=n5_;have NB126_106:=n6_;clear n0_ n1_ n2_ n3_ n4_ n5_ n6_;clear hb hbox hg;have hnb52:=NB126_106.out;have hnc52:=NB106_126.out;have hcz53_0:w51.cell? ⟨gb126,0,none⟩ = some (.int .i64 0):=(blk_cell BK126.out 0).trans rfl;have hcz53_1:w51.cell? ⟨gb126,1,none⟩ = some (.int .u64 0):=(blk_cell BK126.out 1).trans rfl;have hfz53_0:=blk_frozen BK126.out 0;have hfz53_1:=blk_frozen BK126.out 1) | ((with_reducible refine gate_dst (N:=80) rfl ?_);refine Kd.R_lit (Kd.int .u64) _ 22 ?hg (N:=80) ?hd (xs:=([IntKind.u64.wrap ((rd_T111 l0_4 x70_2).f0),(rd_T111 l0_4 x70_2).f1]:List Int)) (inner:=[.int .u64 (IntKind.u64.wrap ((rd_T111 l0_4 x70_2).f0)),.int .u64 ((rd_T111 l0_4 x70_2).f1)]) (ok:=fun _=>True) (okp:=fun _=>True) ?hr ?hp (fun _ hk=>hk) trivial (Below.refl _ _) (Nat.le_refl _) (by simp) ?_;(case hd=>rfl);(case hg=>rfl);(case hr=>first | (go_simp;done) | (go_simp;rfl));(case hp=>exact (Reps.one (show Kd.M (Kd.int .u64) _ _ _ (IntKind.u64.wrap ((rd_T111 l0_4 x70_2).f0)) [.int .u64 (IntKind.u64.wrap ((rd_T111 l0_4 x70_2).f0))] from rfl) (Reps.one (show Kd.M (Kd.int .u64) _ _ _ ((rd_T111 l0_4 x70_2).f1) [.int .u64 ((rd_T111 l0_4 x70_2).f1)] from rfl) (Reps.none _ _))));intro v128 w54 ho55 hb hg_ hnew_;clear hg_ hnew_;(first | rw [← Ny127.out] at ho55 | (simp only [Int.reduceToNat] at ho55;rw [← Ny127.out] at ho55));have n0_:=Aside0.mk (Kd.R_lower ho55 (below_size (by repeat (first | (with_reducible first | exact HB.out | apply below_alloc | apply pw_below_drewN | apply below_drew1 | refine below_set ?_ GE106.out | refine below_set ?_ GE126.out) | exact HB.out))));have n1_:=Aside0.mk (blk_below (g:=gb106) (o:=.cells #[.int .u64 a0_0,.int .u64 a0_1,.int .u64 a0_2,.slice A0_3 l0_3.length c0_3,.slice (some ad125) l0_4.length c0_4] 26 (0,0)) (by (with_reducible repeat (first | refine blk_drewN ?_ _ | refine blk_drew ?_ | refine blk_alloc ?_ _));refine blk_far ?_ NB106_126.out _;(with_reducible repeat (first | refine blk_drewN ?_ _ | refine blk_drew ?_ | refine blk_alloc ?_ _));refine blk_far ?_ NB106_126.out _;(with_reducible repeat (first | refine blk_drewN ?_ _ | refine blk_drew ?_ | refine blk_alloc ?_ _));exact BK106.out) hb);have n2_:=Aside0.mk (blk_below (g:=gb126) (o:=.cells #[.int .i64 ((rd_T111 l0_4 x70_2).f0),.int .u64 ((rd_T111 l0_4 x70_2).f1)] 111 (0,0)) (by (with_reducible repeat (first | refine blk_drewN ?_ _ | refine blk_drew ?_ | refine blk_alloc ?_ _));refine blk_put (cs:=#[.int .i64 ((rd_T111 l0_4 x70_2).f0),.int .u64 0]) ?_ 1 _ rfl;(with_reducible repeat (first | refine blk_drewN ?_ _ | refine blk_drew ?_ | refine blk_alloc ?_ _));refine blk_put (cs:=#[.int .i64 0,.int .u64 0]) ?_ 0 _ rfl;(with_reducible repeat (first | refine blk_drewN ?_ _ | refine blk_drew ?_ | refine blk_alloc ?_ _));exact BK126.out) hb);have n3_:=Aside0.mk (below_step (by repeat (first | (with_reducible first | exact HB.out | apply below_alloc | apply pw_below_drewN | apply below_drew1 | refine below_set ?_ GE106.out | refine below_set ?_ GE126.out) | exact HB.out)) hb);clear BK106;clear BK126;clear HB;have HO129:=n0_;have BK106:=n1_;have BK126:=n2_;have HB:=n3_;clear n0_ n1_ n2_ n3_;clear hb ho55;obtain ⟨Ao56,co56,eo56⟩:=Kd.R_slice HO129.out;subst eo56) | ((with_reducible refine gate_callee (f:=51) rfl ?_);refine goesL_ (some 81) rfl rfl Tryd.func51 (by kernel_rfl) rfl #[.slice Ao56 y127.length co56] rfl (by (try simp only [List.map_toArray,List.map_cons,List.map_nil]);first | done | rfl | (simp only [List.length_drop,List.length_take];rfl)) ?_;(with_reducible refine (edit_nums.calls k2 _ _ y127 t130 _ ?side1 ?side2 A49.out).mono ?_);(case side1=>repeat (first | exact (Kd.R_reads' HO129.out).2.2 | (with_reducible refine Kd.C_alloc ?_ _) | (with_reducible refine Kd.C_drewN ?_ _) | (with_reducible refine Kd.C_drew ?_)));(case side2=>exact (Kd.R_reads' HO129.out).2.1);rintro e w57 ⟨rfl,hb⟩;refine ⟨_,rfl,?_⟩;have n0_:=Aside0.mk (Kd.R_below (by (with_reducible repeat (first | apply Kd.R_alloc | apply Kd.R_drewN | apply Kd.R_drew));exact HO129.out) hb);have n1_:=Aside0.mk (blk_below (g:=gb106) (o:=.cells #[.int .u64 a0_0,.int .u64 a0_1,.int .u64 a0_2,.slice A0_3 l0_3.length c0_3,.slice (some ad125) l0_4.length c0_4] 26 (0,0)) (by (with_reducible repeat (first | refine blk_drewN ?_ _ | refine blk_drew ?_ | refine blk_alloc ?_ _));exact BK106.out) hb);have n2_:=Aside0.mk (blk_below (g:=gb126) (o:=.cells #[.int .i64 ((rd_T111 l0_4 x70_2).f0),.int .u64 ((rd_T111 l0_4 x70_2).f1)] 111 (0,0)) (by (with_reducible repeat (first | refine blk_drewN ?_ _ | refine blk_drew ?_ | refine blk_alloc ?_ _));exact BK126.out) hb);have n3_:=Aside0.mk (below_step (by repeat (first | (with_reducible first | exact HB.out | apply below_alloc | apply pw_below_drewN | apply below_drew1 | refine below_set ?_ GE106.out | refine below_set ?_ GE126.out) | exact HB.out)) hb);clear HO129;clear BK106;clear BK126;clear HB;have HO129:=n0_;have BK106:=n1_;have BK126:=n2_;have HB:=n3_;clear n0_ n1_ n2_ n3_;(try clear hb);(try clear hb2);(try clear hk);(try clear hi)))
            go_roundg k2
            case measure=>have:=HK1.out;have:=HK2.out;omega
            case rel=>exact ⟨(x5_2 ++ t130),(wrap64 (x70_2 + 1)),(by first | rfl | (simp;done) | (simp [*];done)),(by first | rfl | (simp;done) | (simp [*];done)),H',⟨by have:=HK1.out;have:=HK2.out;omega⟩,⟨by (with_reducible repeat (first | refine blk_drewN ?_ _ | refine blk_drew ?_ | refine blk_alloc ?_ _));exact BK106.out⟩,⟨by repeat (first | (with_reducible first | exact HB.out | apply below_alloc | apply pw_below_drewN | apply below_drew1 | refine below_set ?_ GE106.out | refine below_set ?_ GE126.out) | exact HB.out)⟩⟩
           ·rw [if_neg c50] at H
            exact absurd H (by simp)
          ·rw [if_neg c48] at H
           exact absurd H (by simp)
         ·rw [if_neg c47] at H
          exact absurd H (by simp)
        ·rw [if_neg c46] at H
         have c46b0:decide (x70_2 < (l0_4.length:Int)) = false:=decide_eq_false c46
         clear c46
         simp only [Option.some.injEq,Prod.mk.injEq] at H
         obtain ⟨rfl,rfl⟩:=H
         go_wp2
         go_ret2
         exact ⟨by first | rfl | (simp [errW_none,errW_some] <;> rfl) | (simp [*,errW_none,errW_some] <;> rfl),by repeat (first | (with_reducible first | exact HB.out | apply below_alloc | apply pw_below_drewN | apply below_drew1 | refine below_set ?_ GE106.out) | exact HB.out)⟩
     ·rw [if_neg c39] at H
      exact absurd H (by simp)
 ·rw [if_neg c3] at H
  have c3b0:(t107 == 0) = false:=beq_eq_false_iff_ne.mpr c3
  have c3b1:(t107 != 0) = true:=bne_iff_ne.mpr c3
  simp only [Option.some.injEq,Prod.mk.injEq] at H
  obtain ⟨rfl,rfl⟩:=H
  go_enter Tryd.func15,Tryd.ntmps15
  go_wp2_with (first | ((with_reducible refine gate_dst (N:=1) rfl ?_);refine box_event ?hg (N:=1) ?hd (cs:=#[.int .u64 a0_0,.int .u64 a0_1,.int .u64 a0_2,.slice A0_3 l0_3.length c0_3,.slice A0_4 l0_4.length c0_4]) (t:=26) ?hr ?_;(case hd=>rfl);(case hg=>rfl);(case hr=>first | (go_simp;done) | (go_simp;rfl));intro gb106 hg w58 hbox hb;have n0_:=Aside0.mk (below_step (by repeat (first | (with_reducible first | exact HB.out | apply below_alloc | apply pw_below_drewN | apply below_drew1) | exact HB.out)) hb);have n1_:=Aside0.mk (hbox);have n2_:=Aside0.mk ((by rw [hg];exact (below_size (by repeat (first | (with_reducible first | exact HB.out | apply below_alloc | apply pw_below_drewN | apply below_drew1) | exact HB.out))):w.heap.size ≤ gb106));have n3_:=Aside0.mk ((by rw [hg];exact (below_size (by repeat (first | (with_reducible first | exact HB.out | apply below_alloc | apply pw_below_drewN | apply below_drew1) | exact HB.out))):w.heap.size ≤ gb106));clear HB;have HB:=n0_;have BK106:=n1_;have GW106:=n2_;have GE106:=n3_;clear n0_ n1_ n2_ n3_;clear hb hbox hg;have hcz59_0:w58.cell? ⟨gb106,0,none⟩ = some (.int .u64 a0_0):=(blk_cell BK106.out 0).trans rfl;have hcz59_1:w58.cell? ⟨gb106,1,none⟩ = some (.int .u64 a0_1):=(blk_cell BK106.out 1).trans rfl;have hcz59_2:w58.cell? ⟨gb106,2,none⟩ = some (.int .u64 a0_2):=(blk_cell BK106.out 2).trans rfl;have hcz59_3:w58.cell? ⟨gb106,3,none⟩ = some (.slice A0_3 l0_3.length c0_3):=(blk_cell BK106.out 3).trans rfl;have hcz59_4:w58.cell? ⟨gb106,4,none⟩ = some (.slice A0_4 l0_4.length c0_4):=(blk_cell BK106.out 4).trans rfl;have hfz59_0:=blk_frozen BK106.out 0;have hfz59_1:=blk_frozen BK106.out 1;have hfz59_2:=blk_frozen BK106.out 2;have hfz59_3:=blk_frozen BK106.out 3;have hfz59_4:=blk_frozen BK106.out 4) | ((with_reducible refine gate_callee (f:=20) rfl ?_);refine goesL_ (some 12) rfl rfl Tryd.func20 (by kernel_rfl) rfl #[.agg #[.int .u64 a0_0,.int .u64 a0_1,.int .u64 a0_2,.slice A0_3 l0_3.length c0_3,.slice A0_4 l0_4.length c0_4]] rfl (by (try simp only [List.map_toArray,List.map_cons,List.map_nil]);first | done | rfl | (simp only [List.length_drop,List.length_take];rfl)) ?_;(with_reducible refine (edit_Edit_Check.calls a0_0 a0_1 a0_2 _ _ l0_3 _ _ l0_4 t107 _ ?side1 ?side2 ?side3 ?side4 A2.out).mono ?_);(case side1=>repeat (first | exact (Kd.C_below HR0_3.out HB.out) | (with_reducible refine Kd.C_alloc ?_ _) | (with_reducible refine Kd.C_drewN ?_ _) | (with_reducible refine Kd.C_drew ?_)));(case side2=>exact HC0_3.out);(case side3=>repeat (first | exact (Kd.C_below HR0_4.out HB.out) | (with_reducible refine Kd.C_alloc ?_ _) | (with_reducible refine Kd.C_drewN ?_ _) | (with_reducible refine Kd.C_drew ?_)));(case side4=>exact HC0_4.out);rintro e w60 ⟨rfl,hb⟩;refine ⟨_,rfl,?_⟩;have n0_:=Aside0.mk (blk_below (g:=gb106) (o:=.cells #[.int .u64 a0_0,.int .u64 a0_1,.int .u64 a0_2,.slice A0_3 l0_3.length c0_3,.slice A0_4 l0_4.length c0_4] 26 (0,0)) (by (with_reducible repeat (first | refine blk_drewN ?_ _ | refine blk_drew ?_ | refine blk_alloc ?_ _));exact BK106.out) hb);have n1_:=Aside0.mk (below_step (by repeat (first | (with_reducible first | exact HB.out | apply below_alloc | apply pw_below_drewN | apply below_drew1 | refine below_set ?_ GE106.out) | exact HB.out)) hb);clear BK106;clear HB;have BK106:=n0_;have HB:=n1_;clear n0_ n1_;(try clear hb);(try clear hb2);(try clear hk);(try clear hi)))
  go_ret2
  exact ⟨by first | rfl | (simp [errW_none,errW_some] <;> rfl) | (simp [*,errW_none,errW_some] <;> rfl),by repeat (first | (with_reducible first | exact HB.out | apply below_alloc | apply pw_below_drewN | apply below_drew1 | refine below_set ?_ GE106.out) | exact HB.out)⟩
end Go.Proofs.YteilnbnnhocciaaDoor.KV

/-! KV32 -/
namespace Go.Proofs.YteilnbnnhocciaaDoor.KV
open Go.RowKit Go.Proofs.YteilnbnnhocciaaDoorW.PrintWords Go.Proofs.YteilnbnnhocciaaDoorW.PrintLast Go.Proofs.YteilnbnnhocciaaDoorW.PrintMore Go.Proofs.YteilnbnnhocciaaDoorM
attribute [local go_sem] max2_int min2_int max_two min_two max_three min_three max_four min_four
def IsS171 (w0 W:World) (g:Nat) (f0:ByteArray) (f1:Int) (f2:Int):Prop:=W.heap[g]? = some (.cells #[.string f0,.int .i64 f1,.int .i64 f2] 171 (0,0)) ∧ w0.heap.size ≤ g
theorem IsS171.grown {w0 W:World} {g:Nat} {f0:ByteArray} {f1:Int} {f2:Int} {W1:World} {row:Option Nat} (h:IsS171 w0 W g f0 f1 f2) (hw:W.grownBy W1 row) (hne:some g ≠ row):IsS171 w0 W1 g f0 f1 f2:=by
 obtain ⟨hb,hg⟩:=h
 exact ⟨blk_grown hb hw hne,hg⟩
theorem IsS171.below {w0 W:World} {g:Nat} {f0:ByteArray} {f1:Int} {f2:Int} {W1:World} (h:IsS171 w0 W g f0 f1 f2) (hw:Below W.heap.size W W1):IsS171 w0 W1 g f0 f1 f2:=h.grown (grown_of_below hw none) (by simp)
theorem IsS171.alloc {w0 W:World} {g:Nat} {f0:ByteArray} {f1:Int} {f2:Int} (h:IsS171 w0 W g f0 f1 f2) (o:Obj):IsS171 w0 (W.alloc o) g f0 f1 f2:=h.below (below_alloc (Below.refl _ _) o)
theorem IsS171.drewN {w0 W:World} {g:Nat} {f0:ByteArray} {f1:Int} {f2:Int} (h:IsS171 w0 W g f0 f1 f2) (m:Nat):IsS171 w0 (W.drewN m) g f0 f1 f2:=h
theorem IsS171.drew {w0 W:World} {g:Nat} {f0:ByteArray} {f1:Int} {f2:Int} (h:IsS171 w0 W g f0 f1 f2):IsS171 w0 W.drew g f0 f1 f2:=h
theorem IsS171.ge {w0 W:World} {g:Nat} {f0:ByteArray} {f1:Int} {f2:Int} (h:IsS171 w0 W g f0 f1 f2):w0.heap.size ≤ g:=by
 obtain ⟨hb,hg⟩:=h
 exact hg
theorem IsS171.far {w0 W:World} {g:Nat} {f0:ByteArray} {f1:Int} {f2:Int} {p:Addr} (h:IsS171 w0 W g f0 f1 f2) (hne:g ≠ p.block) (u:Value):IsS171 w0 (W.setCell p u) g f0 f1 f2:=by
 obtain ⟨hb,hg⟩:=h
 exact ⟨blk_far hb hne u,hg⟩
theorem cellS171_0 {W:World} {g:Nat} {f0:ByteArray} {f1:Int} {f2:Int} (h:W.heap[g]? = some (.cells #[.string f0,.int .i64 f1,.int .i64 f2] 171 (0,0))):W.cell? ⟨g,0,none⟩ = some (.string f0):=(blk_cell h 0).trans rfl
theorem IsS171.set_0 {w0 W:World} {g:Nat} {f0:ByteArray} {f1:Int} {f2:Int} (h:IsS171 w0 W g f0 f1 f2) (x:ByteArray):IsS171 w0 (W.setCell ⟨g,0,none⟩ (.string x)) g x f1 f2:=by
 obtain ⟨hb,hg⟩:=h
 exact ⟨by simpa using blk_set hb 0 (.string x),hg⟩
theorem cellS171_1 {W:World} {g:Nat} {f0:ByteArray} {f1:Int} {f2:Int} (h:W.heap[g]? = some (.cells #[.string f0,.int .i64 f1,.int .i64 f2] 171 (0,0))):W.cell? ⟨g,1,none⟩ = some (.int .i64 f1):=(blk_cell h 1).trans rfl
theorem IsS171.set_1 {w0 W:World} {g:Nat} {f0:ByteArray} {f1:Int} {f2:Int} (h:IsS171 w0 W g f0 f1 f2) (x:Int):IsS171 w0 (W.setCell ⟨g,1,none⟩ (.int .i64 x)) g f0 x f2:=by
 obtain ⟨hb,hg⟩:=h
 exact ⟨by simpa using blk_set hb 1 (.int .i64 x),hg⟩
theorem cellS171_2 {W:World} {g:Nat} {f0:ByteArray} {f1:Int} {f2:Int} (h:W.heap[g]? = some (.cells #[.string f0,.int .i64 f1,.int .i64 f2] 171 (0,0))):W.cell? ⟨g,2,none⟩ = some (.int .i64 f2):=(blk_cell h 2).trans rfl
theorem IsS171.set_2 {w0 W:World} {g:Nat} {f0:ByteArray} {f1:Int} {f2:Int} (h:IsS171 w0 W g f0 f1 f2) (x:Int):IsS171 w0 (W.setCell ⟨g,2,none⟩ (.int .i64 x)) g f0 f1 x:=by
 obtain ⟨hb,hg⟩:=h
 exact ⟨by simpa using blk_set hb 2 (.int .i64 x),hg⟩
def varint_Over.f (a0:ByteArray):Option (ByteArray × Int × Int):=some (a0,0,0)
set_option maxHeartbeats 8000000 in
set_option maxRecDepth 100000 in
theorem varint_Over.calls (a0:ByteArray) (r1:ByteArray) (r2:Int) (r3:Int) (w0 w:World) (hB:Below w0.heap.size w0 w) (h:varint_Over.f a0 = some (r1,r2,r3)) :
  Calls Tryd.prog 55 #[.string a0] w fun e w'=>∃ g_:Nat,e = .returned (.pointer (some ⟨g_,0,none⟩)) ∧ IsS171 w0 w' g_ r1 r2 r3 ∧ Below w0.heap.size w0 w' ∧ Below w.heap.size w w':=by
 have hu171:=Tryd.underlying171
 have HBW:=Aside0.mk (Below.refl w.heap.size w)
 have HW0:=Aside0.mk hB.size
 have HB:=Aside0.mk hB
 clear hB
 have H:(some (a0,0,0)) = some (r1,r2,r3):=h
 clear h
 simp only [Option.some.injEq,Prod.mk.injEq] at H
 obtain ⟨rfl,rfl,rfl⟩:=H
 go_enter Tryd.func55,Tryd.ntmps55
 go_wp2_with (first | ((with_reducible refine gate_dst (N:=5) rfl ?_);refine box_event ?hg (N:=5) ?hd (cs:=#[.string a0,.int .i64 0,.int .i64 0]) (t:=171) ?hr ?_;(case hd=>rfl);(case hg=>rfl);(case hr=>first | (go_simp;done) | (go_simp;rfl));intro gb131 hg w2 hbox hb;have n0_:=Aside0.mk (below_step HBW.out hb);have n1_:=Aside0.mk (below_step (by repeat (first | (with_reducible first | exact HB.out | apply below_alloc | apply pw_below_drewN | apply below_drew1) | exact HB.out)) hb);have n2_:=Aside0.mk (hbox);have n3_:=Aside0.mk ((by rw [hg];exact (below_size (by repeat (first | (with_reducible first | exact HBW.out | apply below_alloc | apply pw_below_drewN | apply below_drew1) | exact HBW.out))):w.heap.size ≤ gb131));have n4_:=Aside0.mk ((Nat.le_trans HW0.out (by rw [hg];exact (below_size (by repeat (first | (with_reducible first | exact HBW.out | apply below_alloc | apply pw_below_drewN | apply below_drew1) | exact HBW.out))):w.heap.size ≤ gb131):w0.heap.size ≤ gb131));clear HBW;clear HB;have HBW:=n0_;have HB:=n1_;have BK131:=n2_;have GW131:=n3_;have GE131:=n4_;clear n0_ n1_ n2_ n3_ n4_;clear hb hbox hg))
 go_ret
 exact ⟨_,rfl,(show IsS171 w0 _ gb131 a0 0 0 from ⟨by (with_reducible repeat (first | refine blk_drewN ?_ _ | refine blk_drew ?_ | refine blk_alloc ?_ _));exact BK131.out,GE131.out⟩),by repeat (first | (with_reducible first | exact HB.out | apply below_alloc | apply pw_below_drewN | apply below_drew1 | refine below_set ?_ GE131.out) | exact HB.out),by repeat (first | (with_reducible first | exact HBW.out | apply below_alloc | apply pw_below_drewN | apply below_drew1 | refine below_set ?_ GW131.out) | exact HBW.out)⟩
end Go.Proofs.YteilnbnnhocciaaDoor.KV

/-! KV33 -/
namespace Go.Proofs.YteilnbnnhocciaaDoor.KV
open Go.RowKit Go.Proofs.YteilnbnnhocciaaDoorW.PrintWords Go.Proofs.YteilnbnnhocciaaDoorW.PrintLast Go.Proofs.YteilnbnnhocciaaDoorW.PrintMore Go.Proofs.YteilnbnnhocciaaDoorM
attribute [local go_sem] max2_int min2_int max_two min_two max_three min_three max_four min_four
def varint_Reader_ok.f (s0_0:ByteArray) (s0_1:Int) (s0_2:Int):Option (Bool × ByteArray × Int × Int):=some ((s0_2 == 0),s0_0,s0_1,s0_2)
set_option maxHeartbeats 8000000 in
set_option maxRecDepth 100000 in
theorem varint_Reader_ok.calls (g:Nat) (s0_0:ByteArray) (s0_1:Int) (s0_2:Int) (r1:Bool) (r2:ByteArray) (r3:Int) (r4:Int) (w0 w:World) (hI:IsS171 w0 w g s0_0 s0_1 s0_2) (hB:Below w0.heap.size w0 w) (h:varint_Reader_ok.f s0_0 s0_1 s0_2 = some (r1,r2,r3,r4)) :
  Calls Tryd.prog 106 #[.pointer (some ⟨g,0,none⟩)] w fun e w'=>e = .returned (.bool r1) ∧ IsS171 w0 w' g r2 r3 r4 ∧ Below w0.heap.size w0 w' ∧ KeepBut w w' g none:=by
 have HI0:=Aside0.mk hI
 have HK:=Aside0.mk (KeepBut.refl w g none)
 have HL:=Aside0.mk hB.size
 clear hI
 have HW0:=Aside0.mk hB.size
 have HB:=Aside0.mk hB
 clear hB
 have H:(some ((s0_2 == 0),s0_0,s0_1,s0_2)) = some (r1,r2,r3,r4):=h
 clear h
 simp only [Option.some.injEq,Prod.mk.injEq] at H
 obtain ⟨rfl,rfl,rfl,rfl⟩:=H
 obtain ⟨HGz2,hgz2⟩:=HI0.out
 have hcz2_0:=cellS171_0 HGz2
 have hcz2_1:=cellS171_1 HGz2
 have hcz2_2:=cellS171_2 HGz2
 have hfz2_0:=blk_frozen HGz2 0
 have hfz2_1:=blk_frozen HGz2 1
 have hfz2_2:=blk_frozen HGz2 2
 clear HGz2 hgz2
 go_enter Tryd.func106,Tryd.ntmps106
 go_wp2
 go_ret
 exact ⟨by first | rfl | (simp [errW_none,errW_some] <;> rfl) | (simp [*,errW_none,errW_some] <;> rfl),by repeat (first | (with_reducible first | exact HI0.out | apply IsS171.alloc | apply IsS171.drewN | apply IsS171.drew | apply IsS171.set_0 | apply IsS171.set_1 | apply IsS171.set_2) | exact HI0.out),by repeat (first | (with_reducible first | exact HB.out | apply below_alloc | apply pw_below_drewN | apply below_drew1 | refine below_set ?_ (IsS171.ge HI0.out)) | exact HB.out),by repeat (first | (with_reducible first | exact HK.out | apply KeepBut.set_ | apply keep_drewN | apply keep_drew | apply keep_alloc) | exact HK.out)⟩
end Go.Proofs.YteilnbnnhocciaaDoor.KV

/-! KV34 -/
namespace Go.Proofs.YteilnbnnhocciaaDoor.KV
open Go.RowKit Go.Proofs.YteilnbnnhocciaaDoorW.PrintWords Go.Proofs.YteilnbnnhocciaaDoorW.PrintLast Go.Proofs.YteilnbnnhocciaaDoorW.PrintMore Go.Proofs.YteilnbnnhocciaaDoorM
attribute [local go_sem] max2_int min2_int max_two min_two max_three min_three max_four min_four
def varint_Reader_scan.sh (c:Int) (i:Nat):Int:=IntKind.u64.wrap (IntKind.u64.wrap (Go.bits .and .u8 c 127) * 2 ^ (7 * i))
def varint_Reader_scan.l:Nat → ByteArray → Nat → Int → Nat → Option (Int × Int × Int)
 | 0,_,_,_,_=>none
 | k + 1,s,at_,n,i=>
  if s.size ≤ at_ + i then some (0,0,3) else
  if i = 9 ∧ 1 < bt s (at_ + i:Nat) then some (0,0,8) else
  if 128 ≤ bt s (at_ + i:Nat) then varint_Reader_scan.l k s at_ (Go.bits .or .u64 n (varint_Reader_scan.sh (bt s (at_ + i:Nat)) i)) (i + 1) else
  if bt s (at_ + i:Nat) = 0 ∧ 0 < i then some (0,0,4) else
  some (Go.bits .or .u64 n (varint_Reader_scan.sh (bt s (at_ + i:Nat)) i),((at_ + (i + 1):Nat):Int),0)
def varint_Reader_scan.f (s0_0:ByteArray) (s0_1:Int) (s0_2:Int):Option (Int × Int × Int × ByteArray × Int × Int):=
 if 0 ≤ s0_1 ∧ s0_1 ≤ s0_0.size ∧ s0_0.size ≤ 140737488351232 then (varint_Reader_scan.l 11 s0_0 s0_1.toNat 0 0).bind fun t=>some (t.1,t.2.1,t.2.2,s0_0,s0_1,s0_2) else none
def varint_Reader_scan.Post (w0 w:World) (g:Nat) (s0:ByteArray) (s1 s2:Int) (t:Int × Int × Int) (e:Ending) (w':World):Prop:=
 e = .returned (.tuple #[.int .u64 t.1,.int .i64 t.2.1,.int .i64 t.2.2]) ∧ Drawn0 w w'
def varint_Reader_scan.J (w:World) (g:Nat) (s0:ByteArray) (p:Nat) (t:Int × Int × Int) (a':Act) (w':World):Prop:=Drawn0 w w' ∧ ∃ (k:Nat) (n:Int) (i:Nat) (u7 u8 u9 u10 u11 u12 u13 u14 u15 u16 u17 u18 u19 u20 u21 u22 u23 u24 u25 u26 u27 u28 u29 u30 u31 u32 u33 u34 u35 u36 u37 u38 u39 u40 u41 u42 u43 u44 u45 u46 u47 u48 u49 u50 u51 u52 u53 u54 u55 u56 u57 u58 u59 u60 u61:Value),
 a' = { tmps:=#[.pointer (some ⟨g,0,none⟩),undef,.int .u64 0,.int .i64 0,.int .i64 0,.int .u64 n,.int .i64 (i:Nat),u7,u8,u9,u10,u11,u12,u13,u14,u15,u16,u17,u18,u19,u20,u21,u22,u23,u24,u25,u26,u27,u28,u29,u30,u31,u32,u33,u34,u35,u36,u37,u38,u39,u40,u41,u42,u43,u44,u45,u46,u47,u48,u49,u50,u51,u52,u53,u54,u55,u56,u57,u58,u59,u60,u61],defers:=[] } ∧ i ≤ 9 ∧ varint_Reader_scan.l k s0 p n i = some t ∧ k + i = 11
set_option maxHeartbeats 2000000 in
set_option maxRecDepth 100000 in
theorem varint_Reader_scan.walk (g:Nat) (s0:ByteArray) (p:Nat) (s2:Int) (t:Int × Int × Int) (w0 w:World) (hI:IsS171 w0 w g s0 p s2) (h:varint_Reader_scan.l 11 s0 p 0 0 = some t) (hp:p ≤ s0.size) (hs:s0.size ≤ 140737488351232) :
  Calls Tryd.prog 107 #[.pointer (some ⟨g,0,none⟩)] w (varint_Reader_scan.Post w0 w g s0 p s2 t):=by
 have H:=Hush.mk h
 clear h
 have c0:=cellS171_0 hI.1
 have c1:=cellS171_1 hI.1
 have hI':=Hush.mk hI
 clear hI
 go_enter Tryd.func107,Tryd.ntmps107
 go_wp2
 refine wp_scope_first 0 (varint_Reader_scan.J w g s0 p t) (fun a' _=>10 - (intOf (a'.tmps.getD 6 undef)).toNat) rfl ?pass ?first
 case first=>
  intro hq
  go_wp2
  go_step3
  have hj:varint_Reader_scan.J w g s0 p t { tmps:=#[.pointer (some ⟨g,0,none⟩),undef,.int .u64 0,.int .i64 0,.int .i64 0,.int .u64 0,.int .i64 0,undef,undef,undef,undef,undef,undef,undef,undef,undef,undef,undef,undef,undef,undef,undef,undef,undef,undef,undef,undef,undef,undef,undef,undef,undef,undef,undef,undef,undef,undef,undef,undef,undef,undef,undef,undef,undef,undef,undef,undef,undef,undef,undef,undef,undef,undef,undef,undef,undef,undef,undef,undef,undef,undef,undef],defers:=[] } w:=
   ⟨Drawn0.refl _,11,0,0,_,_,_,_,_,_,_,_,_,_,_,_,_,_,_,_,_,_,_,_,_,_,_,_,_,_,_,_,_,_,_,_,_,_,_,_,_,_,_,_,_,_,_,_,_,_,_,_,_,_,_,_,_,_,_,rfl,by omega,H.out,rfl⟩
  exact (by assumption:∀ a w,Code.wp _ _ _ a w → _) _ _ (hq.out _ _ hj)
 case pass=>
  rintro a' w' ⟨hd,k,n,i,u7,u8,u9,u10,u11,u12,u13,u14,u15,u16,u17,u18,u19,u20,u21,u22,u23,u24,u25,u26,u27,u28,u29,u30,u31,u32,u33,u34,u35,u36,u37,u38,u39,u40,u41,u42,u43,u44,u45,u46,u47,u48,u49,u50,u51,u52,u53,u54,u55,u56,u57,u58,u59,u60,u61,rfl,hi9,hl,hk⟩
  obtain ⟨k,rfl⟩:∃ k',k = k' + 1:=⟨k - 1,by omega⟩
  rw [varint_Reader_scan.l] at hl
  obtain ⟨nd,rfl⟩:=hd.out
  by_cases hlt:s0.size ≤ p + i
  ·rw [if_pos hlt] at hl
   have HL:=Hush.mk hl
   clear hl
   go_wp2
   go_quiet (fail)
   go_wp2
   simp only [Exit.jump]
   go_ret3
   obtain rfl:=Option.some.inj HL.out
   exact ⟨rfl,⟨⟨_,rfl⟩⟩⟩
  ·rw [if_neg hlt] at hl
   have HL:=Hush.mk hl
   clear hl
   have hlt':p + i < s0.size:=by omega
   have hw1:IntKind.i64.wrap ((p:Int) + (i:Int)) = (p:Int) + (i:Int):=IntWalk.i64_in _ (by omega)
   have hix:∀ W,(Instr.index 9 (.string s0) (.int .i64 ((p:Int) + (i:Int)))).run Tryd.prog W = .ok (.int .u8 (bt s0 ((p + i:Nat):Int))) W:=by
    intro W
    rw [run_index_string W 9 s0 .i64 _ Tryd.underlying9,dif_pos ⟨by omega,by omega⟩,bt_at s0 ((p:Int) + (i:Int)) (by omega)]
    simp
   obtain ⟨c,hc⟩:∃ c,c = bt s0 ((p + i:Nat):Int):=⟨_,rfl⟩
   have hcr:=bt_range s0 ((p + i:Nat):Int)
   rw [← hc] at hix hcr
   have HL':Hush ((if i = 9 ∧ 1 < c then some (0,0,8) else if 128 ≤ c then varint_Reader_scan.l k s0 p (Go.bits .or .u64 n (varint_Reader_scan.sh c i)) (i + 1) else if c = 0 ∧ 0 < i then some (0,0,4) else some (Go.bits .or .u64 n (varint_Reader_scan.sh c i),((p + (i + 1):Nat):Int),0)) = some t):=⟨by rw [hc];exact HL.out⟩
   clear HL hc
   obtain ⟨hc0,hc255⟩:=hcr
   by_cases hA:i = 9 ∧ 1 < c
   ·have HL:Hush (some ((0:Int),(0:Int),(8:Int)) = some t):=⟨(if_pos hA).symm.trans HL'.out⟩
    have e9:((i:Int) == 9) = true:=by rw [hA.1];rfl
    have e1:=hA.2
    clear HL' hA
    go_wp2
    go_quiet (fail)
    go_wp2
    go_quiet (fail)
    go_wp2
    simp only [Exit.jump]
    go_ret3
    obtain rfl:=Option.some.inj HL.out
    exact ⟨rfl,⟨⟨_,rfl⟩⟩⟩
   have HL2:=Hush.mk ((if_neg hA).symm.trans HL'.out)
   clear HL'
   by_cases hB:128 ≤ c
   ·have HL:=Hush.mk ((if_pos hB).symm.trans HL2.out)
    have e9:((i:Int) == 9) = false:=by simp;omega
    have hi8:i ≤ 8:=by omega
    clear HL2 hA
    go_wp2
    go_quiet (fail)
    go_wp2
    go_quiet (fail)
    go_wp2
    go_step3
    refine ⟨rfl,⟨⟨⟨_,rfl⟩⟩,k,_,i + 1,_,_,_,_,_,_,_,_,_,_,_,_,_,_,_,_,_,_,_,_,_,_,_,_,_,_,_,_,_,_,_,_,_,_,_,_,_,_,_,_,_,_,_,_,_,_,_,_,_,_,_,_,_,_,_,rfl,by omega,HL.out,by omega⟩,by simp [intOf];omega⟩
   have HL3:=Hush.mk ((if_neg hB).symm.trans HL2.out)
   clear HL2
   have hB':c < 128:=by omega
   clear hB
   by_cases hC:c = 0 ∧ 0 < i
   ·have HL:=Hush.mk ((if_pos hC).symm.trans HL3.out)
    have e0:(c == 0) = true:=by rw [hC.1];rfl
    have e1:c ≤ 1:=by omega
    have ei:=hC.2
    clear HL3 hA hC
    go_wp2
    go_quiet (fail)
    go_wp2
    go_quiet (fail)
    go_wp2
    all_goals
     simp only [Exit.jump]
     go_ret3
     obtain rfl:=Option.some.inj HL.out
     exact ⟨rfl,⟨⟨_,rfl⟩⟩⟩
   have HL:=Hush.mk ((if_neg hC).symm.trans HL3.out)
   clear HL3
   by_cases hD:c = 0
   ·have e0:(c == 0) = true:=by rw [hD];rfl
    have e1:c ≤ 1:=by omega
    have ei:i ≤ 0:=by omega
    have e9:((i:Int) == 9) = false:=by simp;omega
    clear hA hC hD
    go_wp2
    go_quiet (fail)
    go_wp2
    go_quiet (fail)
    go_wp2
    go_quiet (fail)
    go_wp2
    simp only [Exit.jump]
    go_ret3
    obtain rfl:=Option.some.inj HL.out
    exact ⟨rfl,⟨⟨_,rfl⟩⟩⟩
   have e0:(c == 0) = false:=by simp [hD]
   by_cases hE:i = 9
   ·have e9:((i:Int) == 9) = true:=by rw [hE];rfl
    have e1:c ≤ 1:=by omega
    clear hA hC hD hE
    go_wp2
    go_quiet (fail)
    go_wp2
    go_quiet (fail)
    go_wp2
    go_quiet (fail)
    go_wp2
    simp only [Exit.jump]
    go_ret3
    obtain rfl:=Option.some.inj HL.out
    exact ⟨rfl,⟨⟨_,rfl⟩⟩⟩
   ·have e9:((i:Int) == 9) = false:=by simp;omega
    clear hA hC hD hE
    go_wp2
    go_quiet (fail)
    go_wp2
    go_quiet (fail)
    go_wp2
    go_quiet (fail)
    go_wp2
    simp only [Exit.jump]
    go_ret3
    obtain rfl:=Option.some.inj HL.out
    exact ⟨rfl,⟨⟨_,rfl⟩⟩⟩
theorem varint_Reader_scan.calls (g:Nat) (s0_0:ByteArray) (s0_1:Int) (s0_2:Int) (r1:Int) (r2:Int) (r3:Int) (r4:ByteArray) (r5:Int) (r6:Int) (w0 w:World) (hI:IsS171 w0 w g s0_0 s0_1 s0_2) (hB:Below w0.heap.size w0 w) (h:varint_Reader_scan.f s0_0 s0_1 s0_2 = some (r1,r2,r3,r4,r5,r6)) :
  Calls Tryd.prog 107 #[.pointer (some ⟨g,0,none⟩)] w fun e w'=>e = .returned (.tuple #[.int .u64 r1,.int .i64 r2,.int .i64 r3]) ∧ IsS171 w0 w' g r4 r5 r6 ∧ Below w0.heap.size w0 w' ∧ KeepBut w w' g none:=by
 unfold varint_Reader_scan.f at h
 by_cases hc:0 ≤ s0_1 ∧ s0_1 ≤ s0_0.size ∧ s0_0.size ≤ 140737488351232
 ·rw [if_pos hc] at h
  obtain ⟨t,ht,h⟩:=Option.bind_eq_some_iff.mp h
  obtain ⟨h0,h1,h2⟩:=hc
  simp only [Option.some.injEq,Prod.mk.injEq] at h
  obtain ⟨rfl,rfl,rfl,rfl,rfl,rfl⟩:=h
  obtain ⟨p,rfl⟩:=Int.eq_ofNat_of_zero_le h0
  refine (varint_Reader_scan.walk g s0_0 p s0_2 t w0 w hI (by simpa using ht) (by omega) h2).mono ?_
  rintro e w' ⟨rfl,hd⟩
  obtain ⟨nd,rfl⟩:=hd.out
  exact ⟨rfl,hI.drewN nd,pw_below_drewN hB nd,keep_drewN (KeepBut.refl w g none) nd⟩
 ·rw [if_neg hc] at h
  cases h
end Go.Proofs.YteilnbnnhocciaaDoor.KV

/-! KV35 -/
namespace Go.Proofs.YteilnbnnhocciaaDoor.KV
open Go.RowKit Go.Proofs.YteilnbnnhocciaaDoorW.PrintWords Go.Proofs.YteilnbnnhocciaaDoorW.PrintLast Go.Proofs.YteilnbnnhocciaaDoorW.PrintMore Go.Proofs.YteilnbnnhocciaaDoorM
attribute [local go_sem] max2_int min2_int max_two min_two max_three min_three max_four min_four
def varint_Reader_Num.f (s0_0:ByteArray) (s0_1:Int) (s0_2:Int):Option (Int × ByteArray × Int × Int):=(varint_Reader_ok.f s0_0 s0_1 s0_2).bind fun bt132=>(if bt132.1 = true then ((varint_Reader_scan.f bt132.2.1 bt132.2.2.1 bt132.2.2.2).bind fun bt136=>(if bt136.2.2.1 = 0 then (some (bt136.1,bt136.2.2.2.1,bt136.2.1,bt136.2.2.2.2.2)) else (some (0,bt136.2.2.2.1,bt136.2.2.2.2.1,bt136.2.2.1)))) else (some (0,bt132.2.1,bt132.2.2.1,bt132.2.2.2)))
set_option maxHeartbeats 8000000 in
set_option maxRecDepth 100000 in
theorem varint_Reader_Num.calls (g:Nat) (s0_0:ByteArray) (s0_1:Int) (s0_2:Int) (r1:Int) (r2:ByteArray) (r3:Int) (r4:Int) (w0 w:World) (hI:IsS171 w0 w g s0_0 s0_1 s0_2) (hB:Below w0.heap.size w0 w) (h:varint_Reader_Num.f s0_0 s0_1 s0_2 = some (r1,r2,r3,r4)) :
  Calls Tryd.prog 56 #[.pointer (some ⟨g,0,none⟩)] w fun e w'=>e = .returned (.int .u64 r1) ∧ IsS171 w0 w' g r2 r3 r4 ∧ Below w0.heap.size w0 w' ∧ KeepBut w w' g none:=by
 have HI0:=Aside0.mk hI
 have HK:=Aside0.mk (KeepBut.refl w g none)
 have HL:=Aside0.mk hB.size
 clear hI
 have HW0:=Aside0.mk hB.size
 have HB:=Aside0.mk hB
 clear hB
 have H:((varint_Reader_ok.f s0_0 s0_1 s0_2).bind fun bt132=>(if bt132.1 = true then ((varint_Reader_scan.f bt132.2.1 bt132.2.2.1 bt132.2.2.2).bind fun bt136=>(if bt136.2.2.1 = 0 then (some (bt136.1,bt136.2.2.2.1,bt136.2.1,bt136.2.2.2.2.2)) else (some (0,bt136.2.2.2.1,bt136.2.2.2.2.1,bt136.2.2.1)))) else (some (0,bt132.2.1,bt132.2.2.1,bt132.2.2.2)))) = some (r1,r2,r3,r4):=h
 clear h
 replace H:=Option.bind_eq_some_iff.mp H
 obtain ⟨⟨t132,t133,t134,t135⟩,A20,H⟩:=H
 replace H:(if t132 = true then ((varint_Reader_scan.f t133 t134 t135).bind fun bt136=>(if bt136.2.2.1 = 0 then (some (bt136.1,bt136.2.2.2.1,bt136.2.1,bt136.2.2.2.2.2)) else (some (0,bt136.2.2.2.1,bt136.2.2.2.2.1,bt136.2.2.1)))) else (some (0,t133,t134,t135))) = some (r1,r2,r3,r4):=H
 have A2:=Aside0.mk A20
 clear A20
 by_cases c3:t132 = true
 ·subst c3
  have H1:((varint_Reader_scan.f t133 t134 t135).bind fun bt136=>(if bt136.2.2.1 = 0 then (some (bt136.1,bt136.2.2.2.1,bt136.2.1,bt136.2.2.2.2.2)) else (some (0,bt136.2.2.2.1,bt136.2.2.2.2.1,bt136.2.2.1)))) = some (r1,r2,r3,r4):=by rw [if_pos rfl] at H;exact H
  clear H
  have H:=H1
  clear H1
  replace H:=Option.bind_eq_some_iff.mp H
  obtain ⟨⟨t136,t137,t138,t139,t140,t141⟩,A40,H⟩:=H
  replace H:(if t138 = 0 then (some (t136,t139,t137,t141)) else (some (0,t139,t140,t138))) = some (r1,r2,r3,r4):=H
  have A4:=Aside0.mk A40
  clear A40
  by_cases c5:t138 = 0
  ·rw [if_pos c5] at H
   have c5b0:(t138 == 0) = true:=beq_iff_eq.mpr c5
   have c5b1:(t138 != 0) = false:=bne_eq_false_iff_eq.mpr c5
   clear c5
   simp only [Option.some.injEq,Prod.mk.injEq] at H
   obtain ⟨rfl,rfl,rfl,rfl⟩:=H
   go_enter Tryd.func56,Tryd.ntmps56
   go_wp2_with (first | ((with_reducible refine gate_callee (f:=106) rfl ?_);refine goesL_ (some 7) rfl rfl Tryd.func106 (by kernel_rfl) rfl #[.pointer (some ⟨g,0,none⟩)] rfl (by (try simp only [List.map_toArray,List.map_cons,List.map_nil]);first | done | rfl | (simp only [List.length_drop,List.length_take];rfl)) ?_;(with_reducible refine (varint_Reader_ok.calls g s0_0 s0_1 s0_2 true t133 t134 t135 w0 _ ?side1 ?side2 A2.out).mono ?_);(case side1=>repeat (first | (with_reducible first | exact HI0.out | apply IsS171.alloc | apply IsS171.drewN | apply IsS171.drew | apply IsS171.set_0 | apply IsS171.set_1 | apply IsS171.set_2) | exact HI0.out));(case side2=>repeat (first | (with_reducible first | exact HB.out | apply below_alloc | apply pw_below_drewN | apply below_drew1 | refine below_set ?_ (IsS171.ge HI0.out)) | exact HB.out));rintro e w6 ⟨rfl,hi,hb,hk⟩;refine ⟨_,rfl,?_⟩;have n0_:=Aside0.mk (KeepBut.trans (by repeat (first | (with_reducible first | exact HK.out | apply KeepBut.set_ | apply keep_drewN | apply keep_drew | apply keep_alloc) | exact HK.out)) hk (.inl rfl));have n1_:=Aside0.mk (hb);have n2_:=Aside0.mk (hi);clear HK;clear HB;clear HI0;have HK:=n0_;have HB:=n1_;have HI0:=n2_;clear n0_ n1_ n2_;(try clear hb);(try clear hb2);(try clear hk);(try clear hi)) | ((with_reducible refine gate_callee (f:=107) rfl ?_);refine goesL_ (some 11) rfl rfl Tryd.func107 (by kernel_rfl) rfl #[.pointer (some ⟨g,0,none⟩)] rfl (by (try simp only [List.map_toArray,List.map_cons,List.map_nil]);first | done | rfl | (simp only [List.length_drop,List.length_take];rfl)) ?_;(with_reducible refine (varint_Reader_scan.calls g t133 t134 t135 t136 t137 t138 t139 t140 t141 w0 _ ?side1 ?side2 A4.out).mono ?_);(case side1=>repeat (first | (with_reducible first | exact HI0.out | apply IsS171.alloc | apply IsS171.drewN | apply IsS171.drew | apply IsS171.set_0 | apply IsS171.set_1 | apply IsS171.set_2) | exact HI0.out));(case side2=>repeat (first | (with_reducible first | exact HB.out | apply below_alloc | apply pw_below_drewN | apply below_drew1 | refine below_set ?_ (IsS171.ge HI0.out)) | exact HB.out));rintro e w7 ⟨rfl,hi,hb,hk⟩;refine ⟨_,rfl,?_⟩;have n0_:=Aside0.mk (KeepBut.trans (by repeat (first | (with_reducible first | exact HK.out | apply KeepBut.set_ | apply keep_drewN | apply keep_drew | apply keep_alloc) | exact HK.out)) hk (.inl rfl));have n1_:=Aside0.mk (hb);have n2_:=Aside0.mk (hi);clear HK;clear HB;clear HI0;have HK:=n0_;have HB:=n1_;have HI0:=n2_;clear n0_ n1_ n2_;(try clear hb);(try clear hb2);(try clear hk);(try clear hi);obtain ⟨HGz8,hgz8⟩:=HI0.out;have hcz8_0:=cellS171_0 HGz8;have hcz8_1:=cellS171_1 HGz8;have hcz8_2:=cellS171_2 HGz8;have hfz8_0:=blk_frozen HGz8 0;have hfz8_1:=blk_frozen HGz8 1;have hfz8_2:=blk_frozen HGz8 2;clear HGz8 hgz8))
   go_ret
   exact ⟨by first | rfl | (simp [errW_none,errW_some] <;> rfl) | (simp [*,errW_none,errW_some] <;> rfl),by repeat (first | (with_reducible first | exact HI0.out | apply IsS171.alloc | apply IsS171.drewN | apply IsS171.drew | apply IsS171.set_0 | apply IsS171.set_1 | apply IsS171.set_2) | exact HI0.out),by repeat (first | (with_reducible first | exact HB.out | apply below_alloc | apply pw_below_drewN | apply below_drew1 | refine below_set ?_ (IsS171.ge HI0.out)) | exact HB.out),by repeat (first | (with_reducible first | exact HK.out | apply KeepBut.set_ | apply keep_drewN | apply keep_drew | apply keep_alloc) | exact HK.out)⟩
  ·rw [if_neg c5] at H
   have c5b0:(t138 == 0) = false:=beq_eq_false_iff_ne.mpr c5
   have c5b1:(t138 != 0) = true:=bne_iff_ne.mpr c5
   simp only [Option.some.injEq,Prod.mk.injEq] at H
   obtain ⟨rfl,rfl,rfl,rfl⟩:=H
   go_enter Tryd.func56,Tryd.ntmps56
   go_wp2_with (first | ((with_reducible refine gate_callee (f:=106) rfl ?_);refine goesL_ (some 7) rfl rfl Tryd.func106 (by kernel_rfl) rfl #[.pointer (some ⟨g,0,none⟩)] rfl (by (try simp only [List.map_toArray,List.map_cons,List.map_nil]);first | done | rfl | (simp only [List.length_drop,List.length_take];rfl)) ?_;(with_reducible refine (varint_Reader_ok.calls g s0_0 s0_1 s0_2 true t133 t134 t135 w0 _ ?side1 ?side2 A2.out).mono ?_);(case side1=>repeat (first | (with_reducible first | exact HI0.out | apply IsS171.alloc | apply IsS171.drewN | apply IsS171.drew | apply IsS171.set_0 | apply IsS171.set_1 | apply IsS171.set_2) | exact HI0.out));(case side2=>repeat (first | (with_reducible first | exact HB.out | apply below_alloc | apply pw_below_drewN | apply below_drew1 | refine below_set ?_ (IsS171.ge HI0.out)) | exact HB.out));rintro e w9 ⟨rfl,hi,hb,hk⟩;refine ⟨_,rfl,?_⟩;have n0_:=Aside0.mk (KeepBut.trans (by repeat (first | (with_reducible first | exact HK.out | apply KeepBut.set_ | apply keep_drewN | apply keep_drew | apply keep_alloc) | exact HK.out)) hk (.inl rfl));have n1_:=Aside0.mk (hb);have n2_:=Aside0.mk (hi);clear HK;clear HB;clear HI0;have HK:=n0_;have HB:=n1_;have HI0:=n2_;clear n0_ n1_ n2_;(try clear hb);(try clear hb2);(try clear hk);(try clear hi)) | ((with_reducible refine gate_callee (f:=107) rfl ?_);refine goesL_ (some 11) rfl rfl Tryd.func107 (by kernel_rfl) rfl #[.pointer (some ⟨g,0,none⟩)] rfl (by (try simp only [List.map_toArray,List.map_cons,List.map_nil]);first | done | rfl | (simp only [List.length_drop,List.length_take];rfl)) ?_;(with_reducible refine (varint_Reader_scan.calls g t133 t134 t135 t136 t137 t138 t139 t140 t141 w0 _ ?side1 ?side2 A4.out).mono ?_);(case side1=>repeat (first | (with_reducible first | exact HI0.out | apply IsS171.alloc | apply IsS171.drewN | apply IsS171.drew | apply IsS171.set_0 | apply IsS171.set_1 | apply IsS171.set_2) | exact HI0.out));(case side2=>repeat (first | (with_reducible first | exact HB.out | apply below_alloc | apply pw_below_drewN | apply below_drew1 | refine below_set ?_ (IsS171.ge HI0.out)) | exact HB.out));rintro e w10 ⟨rfl,hi,hb,hk⟩;refine ⟨_,rfl,?_⟩;have n0_:=Aside0.mk (KeepBut.trans (by repeat (first | (with_reducible first | exact HK.out | apply KeepBut.set_ | apply keep_drewN | apply keep_drew | apply keep_alloc) | exact HK.out)) hk (.inl rfl));have n1_:=Aside0.mk (hb);have n2_:=Aside0.mk (hi);clear HK;clear HB;clear HI0;have HK:=n0_;have HB:=n1_;have HI0:=n2_;clear n0_ n1_ n2_;(try clear hb);(try clear hb2);(try clear hk);(try clear hi);obtain ⟨HGz11,hgz11⟩:=HI0.out;have hcz11_0:=cellS171_0 HGz11;have hcz11_1:=cellS171_1 HGz11;have hcz11_2:=cellS171_2 HGz11;have hfz11_0:=blk_frozen HGz11 0;have hfz11_1:=blk_frozen HGz11 1;have hfz11_2:=blk_frozen HGz11 2;clear HGz11 hgz11))
   go_ret
   exact ⟨by first | rfl | (simp [errW_none,errW_some] <;> rfl) | (simp [*,errW_none,errW_some] <;> rfl),by repeat (first | (with_reducible first | exact HI0.out | apply IsS171.alloc | apply IsS171.drewN | apply IsS171.drew | apply IsS171.set_0 | apply IsS171.set_1 | apply IsS171.set_2) | exact HI0.out),by repeat (first | (with_reducible first | exact HB.out | apply below_alloc | apply pw_below_drewN | apply below_drew1 | refine below_set ?_ (IsS171.ge HI0.out)) | exact HB.out),by repeat (first | (with_reducible first | exact HK.out | apply KeepBut.set_ | apply keep_drewN | apply keep_drew | apply keep_alloc) | exact HK.out)⟩
 ·replace c3:=Bool.eq_false_iff.mpr c3
  subst c3
  have H1:(some (0,t133,t134,t135)) = some (r1,r2,r3,r4):=by rw [if_neg (show ¬ (false = true) by decide)] at H;exact H
  clear H
  have H:=H1
  clear H1
  simp only [Option.some.injEq,Prod.mk.injEq] at H
  obtain ⟨rfl,rfl,rfl,rfl⟩:=H
  go_enter Tryd.func56,Tryd.ntmps56
  go_wp2_with (first | ((with_reducible refine gate_callee (f:=106) rfl ?_);refine goesL_ (some 7) rfl rfl Tryd.func106 (by kernel_rfl) rfl #[.pointer (some ⟨g,0,none⟩)] rfl (by (try simp only [List.map_toArray,List.map_cons,List.map_nil]);first | done | rfl | (simp only [List.length_drop,List.length_take];rfl)) ?_;(with_reducible refine (varint_Reader_ok.calls g s0_0 s0_1 s0_2 false t133 t134 t135 w0 _ ?side1 ?side2 A2.out).mono ?_);(case side1=>repeat (first | (with_reducible first | exact HI0.out | apply IsS171.alloc | apply IsS171.drewN | apply IsS171.drew | apply IsS171.set_0 | apply IsS171.set_1 | apply IsS171.set_2) | exact HI0.out));(case side2=>repeat (first | (with_reducible first | exact HB.out | apply below_alloc | apply pw_below_drewN | apply below_drew1 | refine below_set ?_ (IsS171.ge HI0.out)) | exact HB.out));rintro e w12 ⟨rfl,hi,hb,hk⟩;refine ⟨_,rfl,?_⟩;have n0_:=Aside0.mk (KeepBut.trans (by repeat (first | (with_reducible first | exact HK.out | apply KeepBut.set_ | apply keep_drewN | apply keep_drew | apply keep_alloc) | exact HK.out)) hk (.inl rfl));have n1_:=Aside0.mk (hb);have n2_:=Aside0.mk (hi);clear HK;clear HB;clear HI0;have HK:=n0_;have HB:=n1_;have HI0:=n2_;clear n0_ n1_ n2_;(try clear hb);(try clear hb2);(try clear hk);(try clear hi)))
  go_ret
  exact ⟨by first | rfl | (simp [errW_none,errW_some] <;> rfl) | (simp [*,errW_none,errW_some] <;> rfl),by repeat (first | (with_reducible first | exact HI0.out | apply IsS171.alloc | apply IsS171.drewN | apply IsS171.drew | apply IsS171.set_0 | apply IsS171.set_1 | apply IsS171.set_2) | exact HI0.out),by repeat (first | (with_reducible first | exact HB.out | apply below_alloc | apply pw_below_drewN | apply below_drew1 | refine below_set ?_ (IsS171.ge HI0.out)) | exact HB.out),by repeat (first | (with_reducible first | exact HK.out | apply KeepBut.set_ | apply keep_drewN | apply keep_drew | apply keep_alloc) | exact HK.out)⟩
end Go.Proofs.YteilnbnnhocciaaDoor.KV

/-! KV36 -/
namespace Go.Proofs.YteilnbnnhocciaaDoor.KV
open Go.RowKit Go.Proofs.YteilnbnnhocciaaDoorW.PrintWords Go.Proofs.YteilnbnnhocciaaDoorW.PrintLast Go.Proofs.YteilnbnnhocciaaDoorW.PrintMore Go.Proofs.YteilnbnnhocciaaDoorM
attribute [local go_sem] max2_int min2_int max_two min_two max_three min_three max_four min_four
def varint_Reader_Fail.f (s0_0:ByteArray) (s0_1:Int) (s0_2:Int) (a1:Int):Option (ByteArray × Int × Int):=(varint_Reader_ok.f s0_0 s0_1 s0_2).bind fun bt142=>(if bt142.1 = true then (some (bt142.2.1,bt142.2.2.1,a1)) else (some (bt142.2.1,bt142.2.2.1,bt142.2.2.2)))
set_option maxHeartbeats 8000000 in
set_option maxRecDepth 100000 in
theorem varint_Reader_Fail.calls (g:Nat) (s0_0:ByteArray) (s0_1:Int) (s0_2:Int) (a1:Int) (r1:ByteArray) (r2:Int) (r3:Int) (w0 w:World) (hI:IsS171 w0 w g s0_0 s0_1 s0_2) (hB:Below w0.heap.size w0 w) (h:varint_Reader_Fail.f s0_0 s0_1 s0_2 a1 = some (r1,r2,r3)) :
  Calls Tryd.prog 108 #[.pointer (some ⟨g,0,none⟩),.int .i64 a1] w fun e w'=>e = .returned (.tuple #[]) ∧ IsS171 w0 w' g r1 r2 r3 ∧ Below w0.heap.size w0 w' ∧ KeepBut w w' g none:=by
 have HI0:=Aside0.mk hI
 have HK:=Aside0.mk (KeepBut.refl w g none)
 have HL:=Aside0.mk hB.size
 clear hI
 have HW0:=Aside0.mk hB.size
 have HB:=Aside0.mk hB
 clear hB
 have H:((varint_Reader_ok.f s0_0 s0_1 s0_2).bind fun bt142=>(if bt142.1 = true then (some (bt142.2.1,bt142.2.2.1,a1)) else (some (bt142.2.1,bt142.2.2.1,bt142.2.2.2)))) = some (r1,r2,r3):=h
 clear h
 replace H:=Option.bind_eq_some_iff.mp H
 obtain ⟨⟨t142,t143,t144,t145⟩,A30,H⟩:=H
 replace H:(if t142 = true then (some (t143,t144,a1)) else (some (t143,t144,t145))) = some (r1,r2,r3):=H
 have A3:=Aside0.mk A30
 clear A30
 by_cases c4:t142 = true
 ·subst c4
  have H1:(some (t143,t144,a1)) = some (r1,r2,r3):=by rw [if_pos rfl] at H;exact H
  clear H
  have H:=H1
  clear H1
  simp only [Option.some.injEq,Prod.mk.injEq] at H
  obtain ⟨rfl,rfl,rfl⟩:=H
  go_enter Tryd.func108,Tryd.ntmps108
  go_wp2_with (first | ((with_reducible refine gate_callee (f:=106) rfl ?_);refine goesL_ (some 5) rfl rfl Tryd.func106 (by kernel_rfl) rfl #[.pointer (some ⟨g,0,none⟩)] rfl (by (try simp only [List.map_toArray,List.map_cons,List.map_nil]);first | done | rfl | (simp only [List.length_drop,List.length_take];rfl)) ?_;(with_reducible refine (varint_Reader_ok.calls g s0_0 s0_1 s0_2 true t143 t144 t145 w0 _ ?side1 ?side2 A3.out).mono ?_);(case side1=>repeat (first | (with_reducible first | exact HI0.out | apply IsS171.alloc | apply IsS171.drewN | apply IsS171.drew | apply IsS171.set_0 | apply IsS171.set_1 | apply IsS171.set_2) | exact HI0.out));(case side2=>repeat (first | (with_reducible first | exact HB.out | apply below_alloc | apply pw_below_drewN | apply below_drew1 | refine below_set ?_ (IsS171.ge HI0.out)) | exact HB.out));rintro e w5 ⟨rfl,hi,hb,hk⟩;refine ⟨_,rfl,?_⟩;have n0_:=Aside0.mk (KeepBut.trans (by repeat (first | (with_reducible first | exact HK.out | apply KeepBut.set_ | apply keep_drewN | apply keep_drew | apply keep_alloc) | exact HK.out)) hk (.inl rfl));have n1_:=Aside0.mk (hb);have n2_:=Aside0.mk (hi);clear HK;clear HB;clear HI0;have HK:=n0_;have HB:=n1_;have HI0:=n2_;clear n0_ n1_ n2_;(try clear hb);(try clear hb2);(try clear hk);(try clear hi);obtain ⟨HGz6,hgz6⟩:=HI0.out;have hcz6_0:=cellS171_0 HGz6;have hcz6_1:=cellS171_1 HGz6;have hcz6_2:=cellS171_2 HGz6;have hfz6_0:=blk_frozen HGz6 0;have hfz6_1:=blk_frozen HGz6 1;have hfz6_2:=blk_frozen HGz6 2;clear HGz6 hgz6))
  first | go_end0 | ((try simp only [Exit.inBlock,Exit.then]);refine bodyPost_ret (results_none rfl _ _ _) rfl ?_)
  exact ⟨by first | rfl | (simp [errW_none,errW_some] <;> rfl) | (simp [*,errW_none,errW_some] <;> rfl),by repeat (first | (with_reducible first | exact HI0.out | apply IsS171.alloc | apply IsS171.drewN | apply IsS171.drew | apply IsS171.set_0 | apply IsS171.set_1 | apply IsS171.set_2) | exact HI0.out),by repeat (first | (with_reducible first | exact HB.out | apply below_alloc | apply pw_below_drewN | apply below_drew1 | refine below_set ?_ (IsS171.ge HI0.out)) | exact HB.out),by repeat (first | (with_reducible first | exact HK.out | apply KeepBut.set_ | apply keep_drewN | apply keep_drew | apply keep_alloc) | exact HK.out)⟩
 ·replace c4:=Bool.eq_false_iff.mpr c4
  subst c4
  have H1:(some (t143,t144,t145)) = some (r1,r2,r3):=by rw [if_neg (show ¬ (false = true) by decide)] at H;exact H
  clear H
  have H:=H1
  clear H1
  simp only [Option.some.injEq,Prod.mk.injEq] at H
  obtain ⟨rfl,rfl,rfl⟩:=H
  go_enter Tryd.func108,Tryd.ntmps108
  go_wp2_with (first | ((with_reducible refine gate_callee (f:=106) rfl ?_);refine goesL_ (some 5) rfl rfl Tryd.func106 (by kernel_rfl) rfl #[.pointer (some ⟨g,0,none⟩)] rfl (by (try simp only [List.map_toArray,List.map_cons,List.map_nil]);first | done | rfl | (simp only [List.length_drop,List.length_take];rfl)) ?_;(with_reducible refine (varint_Reader_ok.calls g s0_0 s0_1 s0_2 false t143 t144 t145 w0 _ ?side1 ?side2 A3.out).mono ?_);(case side1=>repeat (first | (with_reducible first | exact HI0.out | apply IsS171.alloc | apply IsS171.drewN | apply IsS171.drew | apply IsS171.set_0 | apply IsS171.set_1 | apply IsS171.set_2) | exact HI0.out));(case side2=>repeat (first | (with_reducible first | exact HB.out | apply below_alloc | apply pw_below_drewN | apply below_drew1 | refine below_set ?_ (IsS171.ge HI0.out)) | exact HB.out));rintro e w7 ⟨rfl,hi,hb,hk⟩;refine ⟨_,rfl,?_⟩;have n0_:=Aside0.mk (KeepBut.trans (by repeat (first | (with_reducible first | exact HK.out | apply KeepBut.set_ | apply keep_drewN | apply keep_drew | apply keep_alloc) | exact HK.out)) hk (.inl rfl));have n1_:=Aside0.mk (hb);have n2_:=Aside0.mk (hi);clear HK;clear HB;clear HI0;have HK:=n0_;have HB:=n1_;have HI0:=n2_;clear n0_ n1_ n2_;(try clear hb);(try clear hb2);(try clear hk);(try clear hi)))
  first | go_end0 | ((try simp only [Exit.inBlock,Exit.then]);refine bodyPost_ret (results_none rfl _ _ _) rfl ?_)
  exact ⟨by first | rfl | (simp [errW_none,errW_some] <;> rfl) | (simp [*,errW_none,errW_some] <;> rfl),by repeat (first | (with_reducible first | exact HI0.out | apply IsS171.alloc | apply IsS171.drewN | apply IsS171.drew | apply IsS171.set_0 | apply IsS171.set_1 | apply IsS171.set_2) | exact HI0.out),by repeat (first | (with_reducible first | exact HB.out | apply below_alloc | apply pw_below_drewN | apply below_drew1 | refine below_set ?_ (IsS171.ge HI0.out)) | exact HB.out),by repeat (first | (with_reducible first | exact HK.out | apply KeepBut.set_ | apply keep_drewN | apply keep_drew | apply keep_alloc) | exact HK.out)⟩
end Go.Proofs.YteilnbnnhocciaaDoor.KV

/-! KV37 -/
namespace Go.Proofs.YteilnbnnhocciaaDoor.KV
open Go.RowKit Go.Proofs.YteilnbnnhocciaaDoorW.PrintWords Go.Proofs.YteilnbnnhocciaaDoorW.PrintLast Go.Proofs.YteilnbnnhocciaaDoorW.PrintMore Go.Proofs.YteilnbnnhocciaaDoorM
attribute [local go_sem] max2_int min2_int max_two min_two max_three min_three max_four min_four
def edit_count.f (s0_0:ByteArray) (s0_1:Int) (s0_2:Int):Option (Int × ByteArray × Int × Int):=(varint_Reader_Num.f s0_0 s0_1 s0_2).bind fun bt146=>(if bt146.1 > 200 then ((varint_Reader_Fail.f bt146.2.1 bt146.2.2.1 bt146.2.2.2 6).bind fun bt150=>(some (bt146.1,bt150.1,bt150.2.1,bt150.2.2))) else (some (bt146.1,bt146.2.1,bt146.2.2.1,bt146.2.2.2)))
set_option maxHeartbeats 8000000 in
set_option maxRecDepth 100000 in
theorem edit_count.calls (g:Nat) (s0_0:ByteArray) (s0_1:Int) (s0_2:Int) (r1:Int) (r2:ByteArray) (r3:Int) (r4:Int) (w0 w:World) (hI:IsS171 w0 w g s0_0 s0_1 s0_2) (hB:Below w0.heap.size w0 w) (h:edit_count.f s0_0 s0_1 s0_2 = some (r1,r2,r3,r4)) :
  Calls Tryd.prog 57 #[.pointer (some ⟨g,0,none⟩)] w fun e w'=>e = .returned (.int .u64 r1) ∧ IsS171 w0 w' g r2 r3 r4 ∧ Below w0.heap.size w0 w' ∧ KeepBut w w' g none:=by
 have HI0:=Aside0.mk hI
 have HK:=Aside0.mk (KeepBut.refl w g none)
 have HL:=Aside0.mk hB.size
 clear hI
 have HW0:=Aside0.mk hB.size
 have HB:=Aside0.mk hB
 clear hB
 have H:((varint_Reader_Num.f s0_0 s0_1 s0_2).bind fun bt146=>(if bt146.1 > 200 then ((varint_Reader_Fail.f bt146.2.1 bt146.2.2.1 bt146.2.2.2 6).bind fun bt150=>(some (bt146.1,bt150.1,bt150.2.1,bt150.2.2))) else (some (bt146.1,bt146.2.1,bt146.2.2.1,bt146.2.2.2)))) = some (r1,r2,r3,r4):=h
 clear h
 replace H:=Option.bind_eq_some_iff.mp H
 obtain ⟨⟨t146,t147,t148,t149⟩,A20,H⟩:=H
 replace H:(if t146 > 200 then ((varint_Reader_Fail.f t147 t148 t149 6).bind fun bt150=>(some (t146,bt150.1,bt150.2.1,bt150.2.2))) else (some (t146,t147,t148,t149))) = some (r1,r2,r3,r4):=H
 have A2:=Aside0.mk A20
 clear A20
 by_cases c3:t146 > 200
 ·rw [if_pos c3] at H
  have c3b0:decide (200 < t146) = true:=decide_eq_true c3
  clear c3
  replace H:=Option.bind_eq_some_iff.mp H
  obtain ⟨⟨t150,t151,t152⟩,A40,H⟩:=H
  replace H:(some (t146,t150,t151,t152)) = some (r1,r2,r3,r4):=H
  have A4:=Aside0.mk A40
  clear A40
  simp only [Option.some.injEq,Prod.mk.injEq] at H
  obtain ⟨rfl,rfl,rfl,rfl⟩:=H
  go_enter Tryd.func57,Tryd.ntmps57
  go_wp2_with (first | ((with_reducible refine gate_callee (f:=56) rfl ?_);refine goesL_ (some 5) rfl rfl Tryd.func56 (by kernel_rfl) rfl #[.pointer (some ⟨g,0,none⟩)] rfl (by (try simp only [List.map_toArray,List.map_cons,List.map_nil]);first | done | rfl | (simp only [List.length_drop,List.length_take];rfl)) ?_;(with_reducible refine (varint_Reader_Num.calls g s0_0 s0_1 s0_2 t146 t147 t148 t149 w0 _ ?side1 ?side2 A2.out).mono ?_);(case side1=>repeat (first | (with_reducible first | exact HI0.out | apply IsS171.alloc | apply IsS171.drewN | apply IsS171.drew | apply IsS171.set_0 | apply IsS171.set_1 | apply IsS171.set_2) | exact HI0.out));(case side2=>repeat (first | (with_reducible first | exact HB.out | apply below_alloc | apply pw_below_drewN | apply below_drew1 | refine below_set ?_ (IsS171.ge HI0.out)) | exact HB.out));rintro e w5 ⟨rfl,hi,hb,hk⟩;refine ⟨_,rfl,?_⟩;have n0_:=Aside0.mk (KeepBut.trans (by repeat (first | (with_reducible first | exact HK.out | apply KeepBut.set_ | apply keep_drewN | apply keep_drew | apply keep_alloc) | exact HK.out)) hk (.inl rfl));have n1_:=Aside0.mk (hb);have n2_:=Aside0.mk (hi);clear HK;clear HB;clear HI0;have HK:=n0_;have HB:=n1_;have HI0:=n2_;clear n0_ n1_ n2_;(try clear hb);(try clear hb2);(try clear hk);(try clear hi)) | ((with_reducible refine gate_callee (f:=108) rfl ?_);refine goesL_ (some 9) rfl rfl Tryd.func108 (by kernel_rfl) rfl #[.pointer (some ⟨g,0,none⟩),.int .i64 6] rfl (by (try simp only [List.map_toArray,List.map_cons,List.map_nil]);first | done | rfl | (simp only [List.length_drop,List.length_take];rfl)) ?_;(with_reducible refine (varint_Reader_Fail.calls g t147 t148 t149 6 t150 t151 t152 w0 _ ?side1 ?side2 A4.out).mono ?_);(case side1=>repeat (first | (with_reducible first | exact HI0.out | apply IsS171.alloc | apply IsS171.drewN | apply IsS171.drew | apply IsS171.set_0 | apply IsS171.set_1 | apply IsS171.set_2) | exact HI0.out));(case side2=>repeat (first | (with_reducible first | exact HB.out | apply below_alloc | apply pw_below_drewN | apply below_drew1 | refine below_set ?_ (IsS171.ge HI0.out)) | exact HB.out));rintro e w6 ⟨rfl,hi,hb,hk⟩;refine ⟨_,rfl,?_⟩;have n0_:=Aside0.mk (KeepBut.trans (by repeat (first | (with_reducible first | exact HK.out | apply KeepBut.set_ | apply keep_drewN | apply keep_drew | apply keep_alloc) | exact HK.out)) hk (.inl rfl));have n1_:=Aside0.mk (hb);have n2_:=Aside0.mk (hi);clear HK;clear HB;clear HI0;have HK:=n0_;have HB:=n1_;have HI0:=n2_;clear n0_ n1_ n2_;(try clear hb);(try clear hb2);(try clear hk);(try clear hi)))
  go_ret
  exact ⟨by first | rfl | (simp [errW_none,errW_some] <;> rfl) | (simp [*,errW_none,errW_some] <;> rfl),by repeat (first | (with_reducible first | exact HI0.out | apply IsS171.alloc | apply IsS171.drewN | apply IsS171.drew | apply IsS171.set_0 | apply IsS171.set_1 | apply IsS171.set_2) | exact HI0.out),by repeat (first | (with_reducible first | exact HB.out | apply below_alloc | apply pw_below_drewN | apply below_drew1 | refine below_set ?_ (IsS171.ge HI0.out)) | exact HB.out),by repeat (first | (with_reducible first | exact HK.out | apply KeepBut.set_ | apply keep_drewN | apply keep_drew | apply keep_alloc) | exact HK.out)⟩
 ·rw [if_neg c3] at H
  have c3b0:decide (200 < t146) = false:=decide_eq_false c3
  clear c3
  simp only [Option.some.injEq,Prod.mk.injEq] at H
  obtain ⟨rfl,rfl,rfl,rfl⟩:=H
  go_enter Tryd.func57,Tryd.ntmps57
  go_wp2_with (first | ((with_reducible refine gate_callee (f:=56) rfl ?_);refine goesL_ (some 5) rfl rfl Tryd.func56 (by kernel_rfl) rfl #[.pointer (some ⟨g,0,none⟩)] rfl (by (try simp only [List.map_toArray,List.map_cons,List.map_nil]);first | done | rfl | (simp only [List.length_drop,List.length_take];rfl)) ?_;(with_reducible refine (varint_Reader_Num.calls g s0_0 s0_1 s0_2 t146 t147 t148 t149 w0 _ ?side1 ?side2 A2.out).mono ?_);(case side1=>repeat (first | (with_reducible first | exact HI0.out | apply IsS171.alloc | apply IsS171.drewN | apply IsS171.drew | apply IsS171.set_0 | apply IsS171.set_1 | apply IsS171.set_2) | exact HI0.out));(case side2=>repeat (first | (with_reducible first | exact HB.out | apply below_alloc | apply pw_below_drewN | apply below_drew1 | refine below_set ?_ (IsS171.ge HI0.out)) | exact HB.out));rintro e w7 ⟨rfl,hi,hb,hk⟩;refine ⟨_,rfl,?_⟩;have n0_:=Aside0.mk (KeepBut.trans (by repeat (first | (with_reducible first | exact HK.out | apply KeepBut.set_ | apply keep_drewN | apply keep_drew | apply keep_alloc) | exact HK.out)) hk (.inl rfl));have n1_:=Aside0.mk (hb);have n2_:=Aside0.mk (hi);clear HK;clear HB;clear HI0;have HK:=n0_;have HB:=n1_;have HI0:=n2_;clear n0_ n1_ n2_;(try clear hb);(try clear hb2);(try clear hk);(try clear hi)))
  go_ret
  exact ⟨by first | rfl | (simp [errW_none,errW_some] <;> rfl) | (simp [*,errW_none,errW_some] <;> rfl),by repeat (first | (with_reducible first | exact HI0.out | apply IsS171.alloc | apply IsS171.drewN | apply IsS171.drew | apply IsS171.set_0 | apply IsS171.set_1 | apply IsS171.set_2) | exact HI0.out),by repeat (first | (with_reducible first | exact HB.out | apply below_alloc | apply pw_below_drewN | apply below_drew1 | refine below_set ?_ (IsS171.ge HI0.out)) | exact HB.out),by repeat (first | (with_reducible first | exact HK.out | apply KeepBut.set_ | apply keep_drewN | apply keep_drew | apply keep_alloc) | exact HK.out)⟩
end Go.Proofs.YteilnbnnhocciaaDoor.KV

/-! KV38 -/
namespace Go.Proofs.YteilnbnnhocciaaDoor.KV
open Go.RowKit Go.Proofs.YteilnbnnhocciaaDoorW.PrintWords Go.Proofs.YteilnbnnhocciaaDoorW.PrintLast Go.Proofs.YteilnbnnhocciaaDoorW.PrintMore Go.Proofs.YteilnbnnhocciaaDoorM
attribute [local go_sem] max2_int min2_int max_two min_two max_three min_three max_four min_four
def varint_Reader_Err.f (s0_0:ByteArray) (s0_1:Int) (s0_2:Int):Option (Int × ByteArray × Int × Int):=some (s0_2,s0_0,s0_1,s0_2)
set_option maxHeartbeats 8000000 in
set_option maxRecDepth 100000 in
theorem varint_Reader_Err.calls (g:Nat) (s0_0:ByteArray) (s0_1:Int) (s0_2:Int) (r1:Int) (r2:ByteArray) (r3:Int) (r4:Int) (w0 w:World) (hI:IsS171 w0 w g s0_0 s0_1 s0_2) (hB:Below w0.heap.size w0 w) (h:varint_Reader_Err.f s0_0 s0_1 s0_2 = some (r1,r2,r3,r4)) :
  Calls Tryd.prog 58 #[.pointer (some ⟨g,0,none⟩)] w fun e w'=>e = .returned (.int .i64 r1) ∧ IsS171 w0 w' g r2 r3 r4 ∧ Below w0.heap.size w0 w' ∧ KeepBut w w' g none:=by
 have HI0:=Aside0.mk hI
 have HK:=Aside0.mk (KeepBut.refl w g none)
 have HL:=Aside0.mk hB.size
 clear hI
 have HW0:=Aside0.mk hB.size
 have HB:=Aside0.mk hB
 clear hB
 have H:(some (s0_2,s0_0,s0_1,s0_2)) = some (r1,r2,r3,r4):=h
 clear h
 simp only [Option.some.injEq,Prod.mk.injEq] at H
 obtain ⟨rfl,rfl,rfl,rfl⟩:=H
 obtain ⟨HGz2,hgz2⟩:=HI0.out
 have hcz2_0:=cellS171_0 HGz2
 have hcz2_1:=cellS171_1 HGz2
 have hcz2_2:=cellS171_2 HGz2
 have hfz2_0:=blk_frozen HGz2 0
 have hfz2_1:=blk_frozen HGz2 1
 have hfz2_2:=blk_frozen HGz2 2
 clear HGz2 hgz2
 go_enter Tryd.func58,Tryd.ntmps58
 go_wp2
 go_ret
 exact ⟨by first | rfl | (simp [errW_none,errW_some] <;> rfl) | (simp [*,errW_none,errW_some] <;> rfl),by repeat (first | (with_reducible first | exact HI0.out | apply IsS171.alloc | apply IsS171.drewN | apply IsS171.drew | apply IsS171.set_0 | apply IsS171.set_1 | apply IsS171.set_2) | exact HI0.out),by repeat (first | (with_reducible first | exact HB.out | apply below_alloc | apply pw_below_drewN | apply below_drew1 | refine below_set ?_ (IsS171.ge HI0.out)) | exact HB.out),by repeat (first | (with_reducible first | exact HK.out | apply KeepBut.set_ | apply keep_drewN | apply keep_drew | apply keep_alloc) | exact HK.out)⟩
end Go.Proofs.YteilnbnnhocciaaDoor.KV

/-! KV39 -/
namespace Go.Proofs.YteilnbnnhocciaaDoor.KV
open Go.RowKit Go.Proofs.YteilnbnnhocciaaDoorW.PrintWords Go.Proofs.YteilnbnnhocciaaDoorW.PrintLast Go.Proofs.YteilnbnnhocciaaDoorW.PrintMore Go.Proofs.YteilnbnnhocciaaDoorM
attribute [local go_sem] max2_int min2_int max_two min_two max_three min_three max_four min_four
def edit_levelOf.f (s0_0:ByteArray) (s0_1:Int) (s0_2:Int):Option (Int × ByteArray × Int × Int):=(varint_Reader_Num.f s0_0 s0_1 s0_2).bind fun bt153=>(if bt153.1 ≥ 4 then ((varint_Reader_Fail.f bt153.2.1 bt153.2.2.1 bt153.2.2.2 21).bind fun bt157=>(some (0,bt157.1,bt157.2.1,bt157.2.2))) else (some (wrap64 (bt153.1),bt153.2.1,bt153.2.2.1,bt153.2.2.2)))
set_option maxHeartbeats 8000000 in
set_option maxRecDepth 100000 in
theorem edit_levelOf.calls (g:Nat) (s0_0:ByteArray) (s0_1:Int) (s0_2:Int) (r1:Int) (r2:ByteArray) (r3:Int) (r4:Int) (w0 w:World) (hI:IsS171 w0 w g s0_0 s0_1 s0_2) (hB:Below w0.heap.size w0 w) (h:edit_levelOf.f s0_0 s0_1 s0_2 = some (r1,r2,r3,r4)) :
  Calls Tryd.prog 59 #[.pointer (some ⟨g,0,none⟩)] w fun e w'=>e = .returned (.int .i64 r1) ∧ IsS171 w0 w' g r2 r3 r4 ∧ Below w0.heap.size w0 w' ∧ KeepBut w w' g none:=by
 have HI0:=Aside0.mk hI
 have HK:=Aside0.mk (KeepBut.refl w g none)
 have HL:=Aside0.mk hB.size
 clear hI
 have HW0:=Aside0.mk hB.size
 have HB:=Aside0.mk hB
 clear hB
 have H:((varint_Reader_Num.f s0_0 s0_1 s0_2).bind fun bt153=>(if bt153.1 ≥ 4 then ((varint_Reader_Fail.f bt153.2.1 bt153.2.2.1 bt153.2.2.2 21).bind fun bt157=>(some (0,bt157.1,bt157.2.1,bt157.2.2))) else (some (wrap64 (bt153.1),bt153.2.1,bt153.2.2.1,bt153.2.2.2)))) = some (r1,r2,r3,r4):=h
 clear h
 replace H:=Option.bind_eq_some_iff.mp H
 obtain ⟨⟨t153,t154,t155,t156⟩,A20,H⟩:=H
 replace H:(if t153 ≥ 4 then ((varint_Reader_Fail.f t154 t155 t156 21).bind fun bt157=>(some (0,bt157.1,bt157.2.1,bt157.2.2))) else (some (wrap64 (t153),t154,t155,t156))) = some (r1,r2,r3,r4):=H
 have A2:=Aside0.mk A20
 clear A20
 by_cases c3:t153 ≥ 4
 ·rw [if_pos c3] at H
  have c3b0:decide (4 ≤ t153) = true:=decide_eq_true c3
  clear c3
  replace H:=Option.bind_eq_some_iff.mp H
  obtain ⟨⟨t157,t158,t159⟩,A40,H⟩:=H
  replace H:(some (0,t157,t158,t159)) = some (r1,r2,r3,r4):=H
  have A4:=Aside0.mk A40
  clear A40
  simp only [Option.some.injEq,Prod.mk.injEq] at H
  obtain ⟨rfl,rfl,rfl,rfl⟩:=H
  go_enter Tryd.func59,Tryd.ntmps59
  go_wp2_with (first | ((with_reducible refine gate_callee (f:=56) rfl ?_);refine goesL_ (some 5) rfl rfl Tryd.func56 (by kernel_rfl) rfl #[.pointer (some ⟨g,0,none⟩)] rfl (by (try simp only [List.map_toArray,List.map_cons,List.map_nil]);first | done | rfl | (simp only [List.length_drop,List.length_take];rfl)) ?_;(with_reducible refine (varint_Reader_Num.calls g s0_0 s0_1 s0_2 t153 t154 t155 t156 w0 _ ?side1 ?side2 A2.out).mono ?_);(case side1=>repeat (first | (with_reducible first | exact HI0.out | apply IsS171.alloc | apply IsS171.drewN | apply IsS171.drew | apply IsS171.set_0 | apply IsS171.set_1 | apply IsS171.set_2) | exact HI0.out));(case side2=>repeat (first | (with_reducible first | exact HB.out | apply below_alloc | apply pw_below_drewN | apply below_drew1 | refine below_set ?_ (IsS171.ge HI0.out)) | exact HB.out));rintro e w5 ⟨rfl,hi,hb,hk⟩;refine ⟨_,rfl,?_⟩;have n0_:=Aside0.mk (KeepBut.trans (by repeat (first | (with_reducible first | exact HK.out | apply KeepBut.set_ | apply keep_drewN | apply keep_drew | apply keep_alloc) | exact HK.out)) hk (.inl rfl));have n1_:=Aside0.mk (hb);have n2_:=Aside0.mk (hi);clear HK;clear HB;clear HI0;have HK:=n0_;have HB:=n1_;have HI0:=n2_;clear n0_ n1_ n2_;(try clear hb);(try clear hb2);(try clear hk);(try clear hi)) | ((with_reducible refine gate_callee (f:=108) rfl ?_);refine goesL_ (some 9) rfl rfl Tryd.func108 (by kernel_rfl) rfl #[.pointer (some ⟨g,0,none⟩),.int .i64 21] rfl (by (try simp only [List.map_toArray,List.map_cons,List.map_nil]);first | done | rfl | (simp only [List.length_drop,List.length_take];rfl)) ?_;(with_reducible refine (varint_Reader_Fail.calls g t154 t155 t156 21 t157 t158 t159 w0 _ ?side1 ?side2 A4.out).mono ?_);(case side1=>repeat (first | (with_reducible first | exact HI0.out | apply IsS171.alloc | apply IsS171.drewN | apply IsS171.drew | apply IsS171.set_0 | apply IsS171.set_1 | apply IsS171.set_2) | exact HI0.out));(case side2=>repeat (first | (with_reducible first | exact HB.out | apply below_alloc | apply pw_below_drewN | apply below_drew1 | refine below_set ?_ (IsS171.ge HI0.out)) | exact HB.out));rintro e w6 ⟨rfl,hi,hb,hk⟩;refine ⟨_,rfl,?_⟩;have n0_:=Aside0.mk (KeepBut.trans (by repeat (first | (with_reducible first | exact HK.out | apply KeepBut.set_ | apply keep_drewN | apply keep_drew | apply keep_alloc) | exact HK.out)) hk (.inl rfl));have n1_:=Aside0.mk (hb);have n2_:=Aside0.mk (hi);clear HK;clear HB;clear HI0;have HK:=n0_;have HB:=n1_;have HI0:=n2_;clear n0_ n1_ n2_;(try clear hb);(try clear hb2);(try clear hk);(try clear hi)))
  go_ret
  exact ⟨by first | rfl | (simp [errW_none,errW_some] <;> rfl) | (simp [*,errW_none,errW_some] <;> rfl),by repeat (first | (with_reducible first | exact HI0.out | apply IsS171.alloc | apply IsS171.drewN | apply IsS171.drew | apply IsS171.set_0 | apply IsS171.set_1 | apply IsS171.set_2) | exact HI0.out),by repeat (first | (with_reducible first | exact HB.out | apply below_alloc | apply pw_below_drewN | apply below_drew1 | refine below_set ?_ (IsS171.ge HI0.out)) | exact HB.out),by repeat (first | (with_reducible first | exact HK.out | apply KeepBut.set_ | apply keep_drewN | apply keep_drew | apply keep_alloc) | exact HK.out)⟩
 ·rw [if_neg c3] at H
  have c3b0:decide (4 ≤ t153) = false:=decide_eq_false c3
  clear c3
  simp only [Option.some.injEq,Prod.mk.injEq] at H
  obtain ⟨rfl,rfl,rfl,rfl⟩:=H
  go_enter Tryd.func59,Tryd.ntmps59
  go_wp2_with (first | ((with_reducible refine gate_callee (f:=56) rfl ?_);refine goesL_ (some 5) rfl rfl Tryd.func56 (by kernel_rfl) rfl #[.pointer (some ⟨g,0,none⟩)] rfl (by (try simp only [List.map_toArray,List.map_cons,List.map_nil]);first | done | rfl | (simp only [List.length_drop,List.length_take];rfl)) ?_;(with_reducible refine (varint_Reader_Num.calls g s0_0 s0_1 s0_2 t153 t154 t155 t156 w0 _ ?side1 ?side2 A2.out).mono ?_);(case side1=>repeat (first | (with_reducible first | exact HI0.out | apply IsS171.alloc | apply IsS171.drewN | apply IsS171.drew | apply IsS171.set_0 | apply IsS171.set_1 | apply IsS171.set_2) | exact HI0.out));(case side2=>repeat (first | (with_reducible first | exact HB.out | apply below_alloc | apply pw_below_drewN | apply below_drew1 | refine below_set ?_ (IsS171.ge HI0.out)) | exact HB.out));rintro e w7 ⟨rfl,hi,hb,hk⟩;refine ⟨_,rfl,?_⟩;have n0_:=Aside0.mk (KeepBut.trans (by repeat (first | (with_reducible first | exact HK.out | apply KeepBut.set_ | apply keep_drewN | apply keep_drew | apply keep_alloc) | exact HK.out)) hk (.inl rfl));have n1_:=Aside0.mk (hb);have n2_:=Aside0.mk (hi);clear HK;clear HB;clear HI0;have HK:=n0_;have HB:=n1_;have HI0:=n2_;clear n0_ n1_ n2_;(try clear hb);(try clear hb2);(try clear hk);(try clear hi)))
  go_ret
  exact ⟨by first | rfl | (simp [errW_none,errW_some] <;> rfl) | (simp [*,errW_none,errW_some] <;> rfl),by repeat (first | (with_reducible first | exact HI0.out | apply IsS171.alloc | apply IsS171.drewN | apply IsS171.drew | apply IsS171.set_0 | apply IsS171.set_1 | apply IsS171.set_2) | exact HI0.out),by repeat (first | (with_reducible first | exact HB.out | apply below_alloc | apply pw_below_drewN | apply below_drew1 | refine below_set ?_ (IsS171.ge HI0.out)) | exact HB.out),by repeat (first | (with_reducible first | exact HK.out | apply KeepBut.set_ | apply keep_drewN | apply keep_drew | apply keep_alloc) | exact HK.out)⟩
end Go.Proofs.YteilnbnnhocciaaDoor.KV

/-! KV40 -/
namespace Go.Proofs.YteilnbnnhocciaaDoor.KV
open Go.RowKit Go.Proofs.YteilnbnnhocciaaDoorW.PrintWords Go.Proofs.YteilnbnnhocciaaDoorW.PrintLast Go.Proofs.YteilnbnnhocciaaDoorW.PrintMore Go.Proofs.YteilnbnnhocciaaDoorM
attribute [local go_sem] max2_int min2_int max_two min_two max_three min_three max_four min_four
def varint_Reader_Take.f (s0_0:ByteArray) (s0_1:Int) (s0_2:Int) (a1:Int):Option (ByteArray × ByteArray × Int × Int):=(varint_Reader_ok.f s0_0 s0_1 s0_2).bind fun bt160=>(if bt160.1 = true then (if a1 < 0 then (some ((⟨#[]⟩:ByteArray),bt160.2.1,bt160.2.2.1,3)) else (if a1 > (wrap64 ((bt160.2.1.size:Int) - bt160.2.2.1)) then (some ((⟨#[]⟩:ByteArray),bt160.2.1,bt160.2.2.1,3)) else (if 0 ≤ bt160.2.2.1 then (if bt160.2.2.1 ≤ (wrap64 (bt160.2.2.1 + a1)) then (if (wrap64 (bt160.2.2.1 + a1)) ≤ (bt160.2.1.size:Int) then (some (bt160.2.1.extract (bt160.2.2.1:Int).toNat ((wrap64 (bt160.2.2.1 + a1)):Int).toNat,bt160.2.1,wrap64 (bt160.2.2.1 + a1),bt160.2.2.2)) else (none)) else (none)) else (none)))) else (some ((⟨#[]⟩:ByteArray),bt160.2.1,bt160.2.2.1,bt160.2.2.2)))
set_option maxHeartbeats 8000000 in
set_option maxRecDepth 100000 in
theorem varint_Reader_Take.calls (g:Nat) (s0_0:ByteArray) (s0_1:Int) (s0_2:Int) (a1:Int) (r1:ByteArray) (r2:ByteArray) (r3:Int) (r4:Int) (w0 w:World) (hI:IsS171 w0 w g s0_0 s0_1 s0_2) (hB:Below w0.heap.size w0 w) (h:varint_Reader_Take.f s0_0 s0_1 s0_2 a1 = some (r1,r2,r3,r4)) :
  Calls Tryd.prog 109 #[.pointer (some ⟨g,0,none⟩),.int .i64 a1] w fun e w'=>e = .returned (.string r1) ∧ IsS171 w0 w' g r2 r3 r4 ∧ Below w0.heap.size w0 w' ∧ KeepBut w w' g none:=by
 have HI0:=Aside0.mk hI
 have HK:=Aside0.mk (KeepBut.refl w g none)
 have HL:=Aside0.mk hB.size
 clear hI
 have HW0:=Aside0.mk hB.size
 have HB:=Aside0.mk hB
 clear hB
 have H:((varint_Reader_ok.f s0_0 s0_1 s0_2).bind fun bt160=>(if bt160.1 = true then (if a1 < 0 then (some ((⟨#[]⟩:ByteArray),bt160.2.1,bt160.2.2.1,3)) else (if a1 > (wrap64 ((bt160.2.1.size:Int) - bt160.2.2.1)) then (some ((⟨#[]⟩:ByteArray),bt160.2.1,bt160.2.2.1,3)) else (if 0 ≤ bt160.2.2.1 then (if bt160.2.2.1 ≤ (wrap64 (bt160.2.2.1 + a1)) then (if (wrap64 (bt160.2.2.1 + a1)) ≤ (bt160.2.1.size:Int) then (some (bt160.2.1.extract (bt160.2.2.1:Int).toNat ((wrap64 (bt160.2.2.1 + a1)):Int).toNat,bt160.2.1,wrap64 (bt160.2.2.1 + a1),bt160.2.2.2)) else (none)) else (none)) else (none)))) else (some ((⟨#[]⟩:ByteArray),bt160.2.1,bt160.2.2.1,bt160.2.2.2)))) = some (r1,r2,r3,r4):=h
 clear h
 replace H:=Option.bind_eq_some_iff.mp H
 obtain ⟨⟨t160,t161,t162,t163⟩,A30,H⟩:=H
 replace H:(if t160 = true then (if a1 < 0 then (some ((⟨#[]⟩:ByteArray),t161,t162,3)) else (if a1 > (wrap64 ((t161.size:Int) - t162)) then (some ((⟨#[]⟩:ByteArray),t161,t162,3)) else (if 0 ≤ t162 then (if t162 ≤ (wrap64 (t162 + a1)) then (if (wrap64 (t162 + a1)) ≤ (t161.size:Int) then (some (t161.extract (t162:Int).toNat ((wrap64 (t162 + a1)):Int).toNat,t161,wrap64 (t162 + a1),t163)) else (none)) else (none)) else (none)))) else (some ((⟨#[]⟩:ByteArray),t161,t162,t163))) = some (r1,r2,r3,r4):=H
 have A3:=Aside0.mk A30
 clear A30
 by_cases c4:t160 = true
 ·subst c4
  have H1:(if a1 < 0 then (some ((⟨#[]⟩:ByteArray),t161,t162,3)) else (if a1 > (wrap64 ((t161.size:Int) - t162)) then (some ((⟨#[]⟩:ByteArray),t161,t162,3)) else (if 0 ≤ t162 then (if t162 ≤ (wrap64 (t162 + a1)) then (if (wrap64 (t162 + a1)) ≤ (t161.size:Int) then (some (t161.extract (t162:Int).toNat ((wrap64 (t162 + a1)):Int).toNat,t161,wrap64 (t162 + a1),t163)) else (none)) else (none)) else (none)))) = some (r1,r2,r3,r4):=by rw [if_pos rfl] at H;exact H
  clear H
  have H:=H1
  clear H1
  by_cases c5:a1 < 0
  ·rw [if_pos c5] at H
   have c5b0:decide (a1 < 0) = true:=decide_eq_true c5
   clear c5
   simp only [Option.some.injEq,Prod.mk.injEq] at H
   obtain ⟨rfl,rfl,rfl,rfl⟩:=H
   go_enter Tryd.func109,Tryd.ntmps109
   go_wp2_with (first | (go_at_call 106;(with_reducible refine (varint_Reader_ok.calls g s0_0 s0_1 s0_2 true t161 t162 t163 w0 _ ?side1 ?side2 A3.out).mono ?_);(case side1=>repeat (first | (with_reducible first | exact HI0.out | apply IsS171.alloc | apply IsS171.drewN | apply IsS171.drew | apply IsS171.set_0 | apply IsS171.set_1 | apply IsS171.set_2) | exact HI0.out));(case side2=>repeat (first | (with_reducible first | exact HB.out | apply below_alloc | apply pw_below_drewN | apply below_drew1 | refine below_set ?_ (IsS171.ge HI0.out)) | exact HB.out));rintro e w6 ⟨rfl,hi,hb,hk⟩;have n0_:=Aside0.mk (KeepBut.trans (by repeat (first | (with_reducible first | exact HK.out | apply KeepBut.set_ | apply keep_drewN | apply keep_drew | apply keep_alloc) | exact HK.out)) hk (.inl rfl));have n1_:=Aside0.mk (hb);have n2_:=Aside0.mk (hi);clear HK;clear HB;clear HI0;have HK:=n0_;have HB:=n1_;have HI0:=n2_;clear n0_ n1_ n2_;(try clear hb);(try clear hb2);(try clear hk);(try clear hi);obtain ⟨HGz7,hgz7⟩:=HI0.out;have hcz7_0:=cellS171_0 HGz7;have hcz7_1:=cellS171_1 HGz7;have hcz7_2:=cellS171_2 HGz7;have hfz7_0:=blk_frozen HGz7 0;have hfz7_1:=blk_frozen HGz7 1;have hfz7_2:=blk_frozen HGz7 2;clear HGz7 hgz7))
   repeat (go_quiet (first | (go_at_call 106;(with_reducible refine (varint_Reader_ok.calls g s0_0 s0_1 s0_2 true t161 t162 t163 w0 _ ?side1 ?side2 A3.out).mono ?_);(case side1=>repeat (first | (with_reducible first | exact HI0.out | apply IsS171.alloc | apply IsS171.drewN | apply IsS171.drew | apply IsS171.set_0 | apply IsS171.set_1 | apply IsS171.set_2) | exact HI0.out));(case side2=>repeat (first | (with_reducible first | exact HB.out | apply below_alloc | apply pw_below_drewN | apply below_drew1 | refine below_set ?_ (IsS171.ge HI0.out)) | exact HB.out));rintro e w6 ⟨rfl,hi,hb,hk⟩;have n0_:=Aside0.mk (KeepBut.trans (by repeat (first | (with_reducible first | exact HK.out | apply KeepBut.set_ | apply keep_drewN | apply keep_drew | apply keep_alloc) | exact HK.out)) hk (.inl rfl));have n1_:=Aside0.mk (hb);have n2_:=Aside0.mk (hi);clear HK;clear HB;clear HI0;have HK:=n0_;have HB:=n1_;have HI0:=n2_;clear n0_ n1_ n2_;(try clear hb);(try clear hb2);(try clear hk);(try clear hi);obtain ⟨HGz7,hgz7⟩:=HI0.out;have hcz7_0:=cellS171_0 HGz7;have hcz7_1:=cellS171_1 HGz7;have hcz7_2:=cellS171_2 HGz7;have hfz7_0:=blk_frozen HGz7 0;have hfz7_1:=blk_frozen HGz7 1;have hfz7_2:=blk_frozen HGz7 2;clear HGz7 hgz7));try go_wp2_with (first | (go_at_call 106;(with_reducible refine (varint_Reader_ok.calls g s0_0 s0_1 s0_2 true t161 t162 t163 w0 _ ?side1 ?side2 A3.out).mono ?_);(case side1=>repeat (first | (with_reducible first | exact HI0.out | apply IsS171.alloc | apply IsS171.drewN | apply IsS171.drew | apply IsS171.set_0 | apply IsS171.set_1 | apply IsS171.set_2) | exact HI0.out));(case side2=>repeat (first | (with_reducible first | exact HB.out | apply below_alloc | apply pw_below_drewN | apply below_drew1 | refine below_set ?_ (IsS171.ge HI0.out)) | exact HB.out));rintro e w6 ⟨rfl,hi,hb,hk⟩;have n0_:=Aside0.mk (KeepBut.trans (by repeat (first | (with_reducible first | exact HK.out | apply KeepBut.set_ | apply keep_drewN | apply keep_drew | apply keep_alloc) | exact HK.out)) hk (.inl rfl));have n1_:=Aside0.mk (hb);have n2_:=Aside0.mk (hi);clear HK;clear HB;clear HI0;have HK:=n0_;have HB:=n1_;have HI0:=n2_;clear n0_ n1_ n2_;(try clear hb);(try clear hb2);(try clear hk);(try clear hi);obtain ⟨HGz7,hgz7⟩:=HI0.out;have hcz7_0:=cellS171_0 HGz7;have hcz7_1:=cellS171_1 HGz7;have hcz7_2:=cellS171_2 HGz7;have hfz7_0:=blk_frozen HGz7 0;have hfz7_1:=blk_frozen HGz7 1;have hfz7_2:=blk_frozen HGz7 2;clear HGz7 hgz7)))
   go_ret
   exact ⟨by first | rfl | (simp [errW_none,errW_some] <;> rfl) | (simp [*,errW_none,errW_some] <;> rfl),by repeat (first | (with_reducible first | exact HI0.out | apply IsS171.alloc | apply IsS171.drewN | apply IsS171.drew | apply IsS171.set_0 | apply IsS171.set_1 | apply IsS171.set_2) | exact HI0.out),by repeat (first | (with_reducible first | exact HB.out | apply below_alloc | apply pw_below_drewN | apply below_drew1 | refine below_set ?_ (IsS171.ge HI0.out)) | exact HB.out),by repeat (first | (with_reducible first | exact HK.out | apply KeepBut.set_ | apply keep_drewN | apply keep_drew | apply keep_alloc) | exact HK.out)⟩
  ·rw [if_neg c5] at H
   have c5b0:decide (a1 < 0) = false:=decide_eq_false c5
   clear c5
   by_cases c8:a1 > (wrap64 ((t161.size:Int) - t162))
   ·rw [if_pos c8] at H
    have c8b0:decide ((wrap64 ((t161.size:Int) - t162)) < a1) = true:=decide_eq_true c8
    clear c8
    simp only [Option.some.injEq,Prod.mk.injEq] at H
    obtain ⟨rfl,rfl,rfl,rfl⟩:=H
    go_enter Tryd.func109,Tryd.ntmps109
    go_wp2_with (first | (go_at_call 106;(with_reducible refine (varint_Reader_ok.calls g s0_0 s0_1 s0_2 true t161 t162 t163 w0 _ ?side1 ?side2 A3.out).mono ?_);(case side1=>repeat (first | (with_reducible first | exact HI0.out | apply IsS171.alloc | apply IsS171.drewN | apply IsS171.drew | apply IsS171.set_0 | apply IsS171.set_1 | apply IsS171.set_2) | exact HI0.out));(case side2=>repeat (first | (with_reducible first | exact HB.out | apply below_alloc | apply pw_below_drewN | apply below_drew1 | refine below_set ?_ (IsS171.ge HI0.out)) | exact HB.out));rintro e w9 ⟨rfl,hi,hb,hk⟩;have n0_:=Aside0.mk (KeepBut.trans (by repeat (first | (with_reducible first | exact HK.out | apply KeepBut.set_ | apply keep_drewN | apply keep_drew | apply keep_alloc) | exact HK.out)) hk (.inl rfl));have n1_:=Aside0.mk (hb);have n2_:=Aside0.mk (hi);clear HK;clear HB;clear HI0;have HK:=n0_;have HB:=n1_;have HI0:=n2_;clear n0_ n1_ n2_;(try clear hb);(try clear hb2);(try clear hk);(try clear hi);obtain ⟨HGz10,hgz10⟩:=HI0.out;have hcz10_0:=cellS171_0 HGz10;have hcz10_1:=cellS171_1 HGz10;have hcz10_2:=cellS171_2 HGz10;have hfz10_0:=blk_frozen HGz10 0;have hfz10_1:=blk_frozen HGz10 1;have hfz10_2:=blk_frozen HGz10 2;clear HGz10 hgz10))
    repeat (go_quiet (first | (go_at_call 106;(with_reducible refine (varint_Reader_ok.calls g s0_0 s0_1 s0_2 true t161 t162 t163 w0 _ ?side1 ?side2 A3.out).mono ?_);(case side1=>repeat (first | (with_reducible first | exact HI0.out | apply IsS171.alloc | apply IsS171.drewN | apply IsS171.drew | apply IsS171.set_0 | apply IsS171.set_1 | apply IsS171.set_2) | exact HI0.out));(case side2=>repeat (first | (with_reducible first | exact HB.out | apply below_alloc | apply pw_below_drewN | apply below_drew1 | refine below_set ?_ (IsS171.ge HI0.out)) | exact HB.out));rintro e w9 ⟨rfl,hi,hb,hk⟩;have n0_:=Aside0.mk (KeepBut.trans (by repeat (first | (with_reducible first | exact HK.out | apply KeepBut.set_ | apply keep_drewN | apply keep_drew | apply keep_alloc) | exact HK.out)) hk (.inl rfl));have n1_:=Aside0.mk (hb);have n2_:=Aside0.mk (hi);clear HK;clear HB;clear HI0;have HK:=n0_;have HB:=n1_;have HI0:=n2_;clear n0_ n1_ n2_;(try clear hb);(try clear hb2);(try clear hk);(try clear hi);obtain ⟨HGz10,hgz10⟩:=HI0.out;have hcz10_0:=cellS171_0 HGz10;have hcz10_1:=cellS171_1 HGz10;have hcz10_2:=cellS171_2 HGz10;have hfz10_0:=blk_frozen HGz10 0;have hfz10_1:=blk_frozen HGz10 1;have hfz10_2:=blk_frozen HGz10 2;clear HGz10 hgz10));try go_wp2_with (first | (go_at_call 106;(with_reducible refine (varint_Reader_ok.calls g s0_0 s0_1 s0_2 true t161 t162 t163 w0 _ ?side1 ?side2 A3.out).mono ?_);(case side1=>repeat (first | (with_reducible first | exact HI0.out | apply IsS171.alloc | apply IsS171.drewN | apply IsS171.drew | apply IsS171.set_0 | apply IsS171.set_1 | apply IsS171.set_2) | exact HI0.out));(case side2=>repeat (first | (with_reducible first | exact HB.out | apply below_alloc | apply pw_below_drewN | apply below_drew1 | refine below_set ?_ (IsS171.ge HI0.out)) | exact HB.out));rintro e w9 ⟨rfl,hi,hb,hk⟩;have n0_:=Aside0.mk (KeepBut.trans (by repeat (first | (with_reducible first | exact HK.out | apply KeepBut.set_ | apply keep_drewN | apply keep_drew | apply keep_alloc) | exact HK.out)) hk (.inl rfl));have n1_:=Aside0.mk (hb);have n2_:=Aside0.mk (hi);clear HK;clear HB;clear HI0;have HK:=n0_;have HB:=n1_;have HI0:=n2_;clear n0_ n1_ n2_;(try clear hb);(try clear hb2);(try clear hk);(try clear hi);obtain ⟨HGz10,hgz10⟩:=HI0.out;have hcz10_0:=cellS171_0 HGz10;have hcz10_1:=cellS171_1 HGz10;have hcz10_2:=cellS171_2 HGz10;have hfz10_0:=blk_frozen HGz10 0;have hfz10_1:=blk_frozen HGz10 1;have hfz10_2:=blk_frozen HGz10 2;clear HGz10 hgz10)))
    go_ret
    exact ⟨by first | rfl | (simp [errW_none,errW_some] <;> rfl) | (simp [*,errW_none,errW_some] <;> rfl),by repeat (first | (with_reducible first | exact HI0.out | apply IsS171.alloc | apply IsS171.drewN | apply IsS171.drew | apply IsS171.set_0 | apply IsS171.set_1 | apply IsS171.set_2) | exact HI0.out),by repeat (first | (with_reducible first | exact HB.out | apply below_alloc | apply pw_below_drewN | apply below_drew1 | refine below_set ?_ (IsS171.ge HI0.out)) | exact HB.out),by repeat (first | (with_reducible first | exact HK.out | apply KeepBut.set_ | apply keep_drewN | apply keep_drew | apply keep_alloc) | exact HK.out)⟩
   ·rw [if_neg c8] at H
    have c8b0:decide ((wrap64 ((t161.size:Int) - t162)) < a1) = false:=decide_eq_false c8
    clear c8
    by_cases c11:0 ≤ t162
    ·rw [if_pos c11] at H
     have c11b0:=eq_true c11
     have c11b1:decide (0 ≤ t162) = true:=decide_eq_true c11
     clear c11
     by_cases c12:t162 ≤ (wrap64 (t162 + a1))
     ·rw [if_pos c12] at H
      have c12b0:=eq_true c12
      have c12b1:decide (t162 ≤ (wrap64 (t162 + a1))) = true:=decide_eq_true c12
      by_cases c13:(wrap64 (t162 + a1)) ≤ (t161.size:Int)
      ·rw [if_pos c13] at H
       have c13b0:=eq_true c13
       have c13b1:decide ((wrap64 (t162 + a1)) ≤ (t161.size:Int)) = true:=decide_eq_true c13
       simp only [Option.some.injEq,Prod.mk.injEq] at H
       obtain ⟨rfl,rfl,rfl,rfl⟩:=H
       go_enter Tryd.func109,Tryd.ntmps109
       go_wp2_with (first | (go_at_call 106;(with_reducible refine (varint_Reader_ok.calls g s0_0 s0_1 s0_2 true t161 t162 t163 w0 _ ?side1 ?side2 A3.out).mono ?_);(case side1=>repeat (first | (with_reducible first | exact HI0.out | apply IsS171.alloc | apply IsS171.drewN | apply IsS171.drew | apply IsS171.set_0 | apply IsS171.set_1 | apply IsS171.set_2) | exact HI0.out));(case side2=>repeat (first | (with_reducible first | exact HB.out | apply below_alloc | apply pw_below_drewN | apply below_drew1 | refine below_set ?_ (IsS171.ge HI0.out)) | exact HB.out));rintro e w14 ⟨rfl,hi,hb,hk⟩;have n0_:=Aside0.mk (KeepBut.trans (by repeat (first | (with_reducible first | exact HK.out | apply KeepBut.set_ | apply keep_drewN | apply keep_drew | apply keep_alloc) | exact HK.out)) hk (.inl rfl));have n1_:=Aside0.mk (hb);have n2_:=Aside0.mk (hi);clear HK;clear HB;clear HI0;have HK:=n0_;have HB:=n1_;have HI0:=n2_;clear n0_ n1_ n2_;(try clear hb);(try clear hb2);(try clear hk);(try clear hi);obtain ⟨HGz15,hgz15⟩:=HI0.out;have hcz15_0:=cellS171_0 HGz15;have hcz15_1:=cellS171_1 HGz15;have hcz15_2:=cellS171_2 HGz15;have hfz15_0:=blk_frozen HGz15 0;have hfz15_1:=blk_frozen HGz15 1;have hfz15_2:=blk_frozen HGz15 2;clear HGz15 hgz15))
       repeat (go_quiet (first | (go_at_call 106;(with_reducible refine (varint_Reader_ok.calls g s0_0 s0_1 s0_2 true t161 t162 t163 w0 _ ?side1 ?side2 A3.out).mono ?_);(case side1=>repeat (first | (with_reducible first | exact HI0.out | apply IsS171.alloc | apply IsS171.drewN | apply IsS171.drew | apply IsS171.set_0 | apply IsS171.set_1 | apply IsS171.set_2) | exact HI0.out));(case side2=>repeat (first | (with_reducible first | exact HB.out | apply below_alloc | apply pw_below_drewN | apply below_drew1 | refine below_set ?_ (IsS171.ge HI0.out)) | exact HB.out));rintro e w14 ⟨rfl,hi,hb,hk⟩;have n0_:=Aside0.mk (KeepBut.trans (by repeat (first | (with_reducible first | exact HK.out | apply KeepBut.set_ | apply keep_drewN | apply keep_drew | apply keep_alloc) | exact HK.out)) hk (.inl rfl));have n1_:=Aside0.mk (hb);have n2_:=Aside0.mk (hi);clear HK;clear HB;clear HI0;have HK:=n0_;have HB:=n1_;have HI0:=n2_;clear n0_ n1_ n2_;(try clear hb);(try clear hb2);(try clear hk);(try clear hi);obtain ⟨HGz15,hgz15⟩:=HI0.out;have hcz15_0:=cellS171_0 HGz15;have hcz15_1:=cellS171_1 HGz15;have hcz15_2:=cellS171_2 HGz15;have hfz15_0:=blk_frozen HGz15 0;have hfz15_1:=blk_frozen HGz15 1;have hfz15_2:=blk_frozen HGz15 2;clear HGz15 hgz15));try go_wp2_with (first | (go_at_call 106;(with_reducible refine (varint_Reader_ok.calls g s0_0 s0_1 s0_2 true t161 t162 t163 w0 _ ?side1 ?side2 A3.out).mono ?_);(case side1=>repeat (first | (with_reducible first | exact HI0.out | apply IsS171.alloc | apply IsS171.drewN | apply IsS171.drew | apply IsS171.set_0 | apply IsS171.set_1 | apply IsS171.set_2) | exact HI0.out));(case side2=>repeat (first | (with_reducible first | exact HB.out | apply below_alloc | apply pw_below_drewN | apply below_drew1 | refine below_set ?_ (IsS171.ge HI0.out)) | exact HB.out));rintro e w14 ⟨rfl,hi,hb,hk⟩;have n0_:=Aside0.mk (KeepBut.trans (by repeat (first | (with_reducible first | exact HK.out | apply KeepBut.set_ | apply keep_drewN | apply keep_drew | apply keep_alloc) | exact HK.out)) hk (.inl rfl));have n1_:=Aside0.mk (hb);have n2_:=Aside0.mk (hi);clear HK;clear HB;clear HI0;have HK:=n0_;have HB:=n1_;have HI0:=n2_;clear n0_ n1_ n2_;(try clear hb);(try clear hb2);(try clear hk);(try clear hi);obtain ⟨HGz15,hgz15⟩:=HI0.out;have hcz15_0:=cellS171_0 HGz15;have hcz15_1:=cellS171_1 HGz15;have hcz15_2:=cellS171_2 HGz15;have hfz15_0:=blk_frozen HGz15 0;have hfz15_1:=blk_frozen HGz15 1;have hfz15_2:=blk_frozen HGz15 2;clear HGz15 hgz15)))
       go_ret
       exact ⟨by first | rfl | (simp [errW_none,errW_some] <;> rfl) | (simp [*,errW_none,errW_some] <;> rfl),by repeat (first | (with_reducible first | exact HI0.out | apply IsS171.alloc | apply IsS171.drewN | apply IsS171.drew | apply IsS171.set_0 | apply IsS171.set_1 | apply IsS171.set_2) | exact HI0.out),by repeat (first | (with_reducible first | exact HB.out | apply below_alloc | apply pw_below_drewN | apply below_drew1 | refine below_set ?_ (IsS171.ge HI0.out)) | exact HB.out),by repeat (first | (with_reducible first | exact HK.out | apply KeepBut.set_ | apply keep_drewN | apply keep_drew | apply keep_alloc) | exact HK.out)⟩
      ·rw [if_neg c13] at H
       exact absurd H (by simp)
     ·rw [if_neg c12] at H
      exact absurd H (by simp)
    ·rw [if_neg c11] at H
     exact absurd H (by simp)
 ·replace c4:=Bool.eq_false_iff.mpr c4
  subst c4
  have H1:(some ((⟨#[]⟩:ByteArray),t161,t162,t163)) = some (r1,r2,r3,r4):=by rw [if_neg (show ¬ (false = true) by decide)] at H;exact H
  clear H
  have H:=H1
  clear H1
  simp only [Option.some.injEq,Prod.mk.injEq] at H
  obtain ⟨rfl,rfl,rfl,rfl⟩:=H
  go_enter Tryd.func109,Tryd.ntmps109
  go_wp2_with (first | (go_at_call 106;(with_reducible refine (varint_Reader_ok.calls g s0_0 s0_1 s0_2 false t161 t162 t163 w0 _ ?side1 ?side2 A3.out).mono ?_);(case side1=>repeat (first | (with_reducible first | exact HI0.out | apply IsS171.alloc | apply IsS171.drewN | apply IsS171.drew | apply IsS171.set_0 | apply IsS171.set_1 | apply IsS171.set_2) | exact HI0.out));(case side2=>repeat (first | (with_reducible first | exact HB.out | apply below_alloc | apply pw_below_drewN | apply below_drew1 | refine below_set ?_ (IsS171.ge HI0.out)) | exact HB.out));rintro e w16 ⟨rfl,hi,hb,hk⟩;have n0_:=Aside0.mk (KeepBut.trans (by repeat (first | (with_reducible first | exact HK.out | apply KeepBut.set_ | apply keep_drewN | apply keep_drew | apply keep_alloc) | exact HK.out)) hk (.inl rfl));have n1_:=Aside0.mk (hb);have n2_:=Aside0.mk (hi);clear HK;clear HB;clear HI0;have HK:=n0_;have HB:=n1_;have HI0:=n2_;clear n0_ n1_ n2_;(try clear hb);(try clear hb2);(try clear hk);(try clear hi)))
  repeat (go_quiet (first | (go_at_call 106;(with_reducible refine (varint_Reader_ok.calls g s0_0 s0_1 s0_2 false t161 t162 t163 w0 _ ?side1 ?side2 A3.out).mono ?_);(case side1=>repeat (first | (with_reducible first | exact HI0.out | apply IsS171.alloc | apply IsS171.drewN | apply IsS171.drew | apply IsS171.set_0 | apply IsS171.set_1 | apply IsS171.set_2) | exact HI0.out));(case side2=>repeat (first | (with_reducible first | exact HB.out | apply below_alloc | apply pw_below_drewN | apply below_drew1 | refine below_set ?_ (IsS171.ge HI0.out)) | exact HB.out));rintro e w16 ⟨rfl,hi,hb,hk⟩;have n0_:=Aside0.mk (KeepBut.trans (by repeat (first | (with_reducible first | exact HK.out | apply KeepBut.set_ | apply keep_drewN | apply keep_drew | apply keep_alloc) | exact HK.out)) hk (.inl rfl));have n1_:=Aside0.mk (hb);have n2_:=Aside0.mk (hi);clear HK;clear HB;clear HI0;have HK:=n0_;have HB:=n1_;have HI0:=n2_;clear n0_ n1_ n2_;(try clear hb);(try clear hb2);(try clear hk);(try clear hi)));try go_wp2_with (first | (go_at_call 106;(with_reducible refine (varint_Reader_ok.calls g s0_0 s0_1 s0_2 false t161 t162 t163 w0 _ ?side1 ?side2 A3.out).mono ?_);(case side1=>repeat (first | (with_reducible first | exact HI0.out | apply IsS171.alloc | apply IsS171.drewN | apply IsS171.drew | apply IsS171.set_0 | apply IsS171.set_1 | apply IsS171.set_2) | exact HI0.out));(case side2=>repeat (first | (with_reducible first | exact HB.out | apply below_alloc | apply pw_below_drewN | apply below_drew1 | refine below_set ?_ (IsS171.ge HI0.out)) | exact HB.out));rintro e w16 ⟨rfl,hi,hb,hk⟩;have n0_:=Aside0.mk (KeepBut.trans (by repeat (first | (with_reducible first | exact HK.out | apply KeepBut.set_ | apply keep_drewN | apply keep_drew | apply keep_alloc) | exact HK.out)) hk (.inl rfl));have n1_:=Aside0.mk (hb);have n2_:=Aside0.mk (hi);clear HK;clear HB;clear HI0;have HK:=n0_;have HB:=n1_;have HI0:=n2_;clear n0_ n1_ n2_;(try clear hb);(try clear hb2);(try clear hk);(try clear hi))))
  go_ret
  exact ⟨by first | rfl | (simp [errW_none,errW_some] <;> rfl) | (simp [*,errW_none,errW_some] <;> rfl),by repeat (first | (with_reducible first | exact HI0.out | apply IsS171.alloc | apply IsS171.drewN | apply IsS171.drew | apply IsS171.set_0 | apply IsS171.set_1 | apply IsS171.set_2) | exact HI0.out),by repeat (first | (with_reducible first | exact HB.out | apply below_alloc | apply pw_below_drewN | apply below_drew1 | refine below_set ?_ (IsS171.ge HI0.out)) | exact HB.out),by repeat (first | (with_reducible first | exact HK.out | apply KeepBut.set_ | apply keep_drewN | apply keep_drew | apply keep_alloc) | exact HK.out)⟩
end Go.Proofs.YteilnbnnhocciaaDoor.KV

/-! KV41 -/
namespace Go.Proofs.YteilnbnnhocciaaDoor.KV
open Go.RowKit Go.Proofs.YteilnbnnhocciaaDoorW.PrintWords Go.Proofs.YteilnbnnhocciaaDoorW.PrintLast Go.Proofs.YteilnbnnhocciaaDoorW.PrintMore Go.Proofs.YteilnbnnhocciaaDoorM
attribute [local go_sem] max2_int min2_int max_two min_two max_three min_three max_four min_four
def varint_Reader_Text.f (s0_0:ByteArray) (s0_1:Int) (s0_2:Int) (a1:Int):Option (ByteArray × ByteArray × Int × Int):=(varint_Reader_Num.f s0_0 s0_1 s0_2).bind fun bt164=>(if bt164.1 > (IntKind.u64.wrap (mx a1 0)) then ((varint_Reader_Fail.f bt164.2.1 bt164.2.2.1 bt164.2.2.2 5).bind fun bt168=>(some ((⟨#[]⟩:ByteArray),bt168.1,bt168.2.1,bt168.2.2))) else ((varint_Reader_Take.f bt164.2.1 bt164.2.2.1 bt164.2.2.2 (wrap64 (bt164.1))).bind fun bt171=>(some (bt171.1,bt171.2.1,bt171.2.2.1,bt171.2.2.2))))
set_option maxHeartbeats 8000000 in
set_option maxRecDepth 100000 in
theorem varint_Reader_Text.calls (g:Nat) (s0_0:ByteArray) (s0_1:Int) (s0_2:Int) (a1:Int) (r1:ByteArray) (r2:ByteArray) (r3:Int) (r4:Int) (w0 w:World) (hI:IsS171 w0 w g s0_0 s0_1 s0_2) (hB:Below w0.heap.size w0 w) (h:varint_Reader_Text.f s0_0 s0_1 s0_2 a1 = some (r1,r2,r3,r4)) :
  Calls Tryd.prog 60 #[.pointer (some ⟨g,0,none⟩),.int .i64 a1] w fun e w'=>e = .returned (.string r1) ∧ IsS171 w0 w' g r2 r3 r4 ∧ Below w0.heap.size w0 w' ∧ KeepBut w w' g none:=by
 have HI0:=Aside0.mk hI
 have HK:=Aside0.mk (KeepBut.refl w g none)
 have HL:=Aside0.mk hB.size
 clear hI
 have HW0:=Aside0.mk hB.size
 have HB:=Aside0.mk hB
 clear hB
 have H:((varint_Reader_Num.f s0_0 s0_1 s0_2).bind fun bt164=>(if bt164.1 > (IntKind.u64.wrap (mx a1 0)) then ((varint_Reader_Fail.f bt164.2.1 bt164.2.2.1 bt164.2.2.2 5).bind fun bt168=>(some ((⟨#[]⟩:ByteArray),bt168.1,bt168.2.1,bt168.2.2))) else ((varint_Reader_Take.f bt164.2.1 bt164.2.2.1 bt164.2.2.2 (wrap64 (bt164.1))).bind fun bt171=>(some (bt171.1,bt171.2.1,bt171.2.2.1,bt171.2.2.2))))) = some (r1,r2,r3,r4):=h
 clear h
 replace H:=Option.bind_eq_some_iff.mp H
 obtain ⟨⟨t164,t165,t166,t167⟩,A30,H⟩:=H
 replace H:(if t164 > (IntKind.u64.wrap (mx a1 0)) then ((varint_Reader_Fail.f t165 t166 t167 5).bind fun bt168=>(some ((⟨#[]⟩:ByteArray),bt168.1,bt168.2.1,bt168.2.2))) else ((varint_Reader_Take.f t165 t166 t167 (wrap64 (t164))).bind fun bt171=>(some (bt171.1,bt171.2.1,bt171.2.2.1,bt171.2.2.2)))) = some (r1,r2,r3,r4):=H
 have A3:=Aside0.mk A30
 clear A30
 obtain ⟨ji4,hji4⟩:∃ j_:Int,(mx a1 0) = j_:=⟨_,rfl⟩
 replace H:(if t164 > (IntKind.u64.wrap (ji4)) then ((varint_Reader_Fail.f t165 t166 t167 5).bind fun bt168=>(some ((⟨#[]⟩:ByteArray),bt168.1,bt168.2.1,bt168.2.2))) else ((varint_Reader_Take.f t165 t166 t167 (wrap64 (t164))).bind fun bt171=>(some (bt171.1,bt171.2.1,bt171.2.2.1,bt171.2.2.2)))) = some (r1,r2,r3,r4):=by first | (rw [hji4] at H;exact H) | (simp only [hji4] at H ⊢;exact H)
 (try rw [hji4] at A3)
 (try (have hji4l:0 ≤ ji4:=by (rw [← hji4];unfold mx;(repeat' split) <;> omega)))
 (try (have hji4m:0 ≤ ji4:=by omega))
 have hji4_:(if a1 < 0 then 0 else a1) = ji4:=hji4
 by_cases c5:t164 > (IntKind.u64.wrap (ji4))
 ·rw [if_pos c5] at H
  have c5b0:decide ((IntKind.u64.wrap (ji4)) < t164) = true:=decide_eq_true c5
  clear c5
  replace H:=Option.bind_eq_some_iff.mp H
  obtain ⟨⟨t168,t169,t170⟩,A60,H⟩:=H
  replace H:(some ((⟨#[]⟩:ByteArray),t168,t169,t170)) = some (r1,r2,r3,r4):=H
  have A6:=Aside0.mk A60
  clear A60
  simp only [Option.some.injEq,Prod.mk.injEq] at H
  obtain ⟨rfl,rfl,rfl,rfl⟩:=H
  go_enter Tryd.func60,Tryd.ntmps60
  go_wp2_with (first | ((with_reducible refine gate_callee (f:=56) rfl ?_);refine goesL_ (some 7) rfl rfl Tryd.func56 (by kernel_rfl) rfl #[.pointer (some ⟨g,0,none⟩)] rfl (by (try simp only [List.map_toArray,List.map_cons,List.map_nil]);first | done | rfl | (simp only [List.length_drop,List.length_take];rfl)) ?_;(with_reducible refine (varint_Reader_Num.calls g s0_0 s0_1 s0_2 t164 t165 t166 t167 w0 _ ?side1 ?side2 A3.out).mono ?_);(case side1=>repeat (first | (with_reducible first | exact HI0.out | apply IsS171.alloc | apply IsS171.drewN | apply IsS171.drew | apply IsS171.set_0 | apply IsS171.set_1 | apply IsS171.set_2) | exact HI0.out));(case side2=>repeat (first | (with_reducible first | exact HB.out | apply below_alloc | apply pw_below_drewN | apply below_drew1 | refine below_set ?_ (IsS171.ge HI0.out)) | exact HB.out));rintro e w7 ⟨rfl,hi,hb,hk⟩;refine ⟨_,rfl,?_⟩;have n0_:=Aside0.mk (KeepBut.trans (by repeat (first | (with_reducible first | exact HK.out | apply KeepBut.set_ | apply keep_drewN | apply keep_drew | apply keep_alloc) | exact HK.out)) hk (.inl rfl));have n1_:=Aside0.mk (hb);have n2_:=Aside0.mk (hi);clear HK;clear HB;clear HI0;have HK:=n0_;have HB:=n1_;have HI0:=n2_;clear n0_ n1_ n2_;(try clear hb);(try clear hb2);(try clear hk);(try clear hi)) | ((with_reducible refine gate_callee (f:=108) rfl ?_);refine goesL_ (some 14) rfl rfl Tryd.func108 (by kernel_rfl) rfl #[.pointer (some ⟨g,0,none⟩),.int .i64 5] rfl (by (try simp only [List.map_toArray,List.map_cons,List.map_nil]);first | done | rfl | (simp only [List.length_drop,List.length_take];rfl)) ?_;(with_reducible refine (varint_Reader_Fail.calls g t165 t166 t167 5 t168 t169 t170 w0 _ ?side1 ?side2 A6.out).mono ?_);(case side1=>repeat (first | (with_reducible first | exact HI0.out | apply IsS171.alloc | apply IsS171.drewN | apply IsS171.drew | apply IsS171.set_0 | apply IsS171.set_1 | apply IsS171.set_2) | exact HI0.out));(case side2=>repeat (first | (with_reducible first | exact HB.out | apply below_alloc | apply pw_below_drewN | apply below_drew1 | refine below_set ?_ (IsS171.ge HI0.out)) | exact HB.out));rintro e w8 ⟨rfl,hi,hb,hk⟩;refine ⟨_,rfl,?_⟩;have n0_:=Aside0.mk (KeepBut.trans (by repeat (first | (with_reducible first | exact HK.out | apply KeepBut.set_ | apply keep_drewN | apply keep_drew | apply keep_alloc) | exact HK.out)) hk (.inl rfl));have n1_:=Aside0.mk (hb);have n2_:=Aside0.mk (hi);clear HK;clear HB;clear HI0;have HK:=n0_;have HB:=n1_;have HI0:=n2_;clear n0_ n1_ n2_;(try clear hb);(try clear hb2);(try clear hk);(try clear hi)))
  go_ret
  exact ⟨by first | rfl | (simp [errW_none,errW_some] <;> rfl) | (simp only [← hji4];first | rfl | (simp [errW_none,errW_some] <;> rfl)) | (simp [*,errW_none,errW_some] <;> rfl),by repeat (first | (with_reducible first | exact HI0.out | apply IsS171.alloc | apply IsS171.drewN | apply IsS171.drew | apply IsS171.set_0 | apply IsS171.set_1 | apply IsS171.set_2) | exact HI0.out),by repeat (first | (with_reducible first | exact HB.out | apply below_alloc | apply pw_below_drewN | apply below_drew1 | refine below_set ?_ (IsS171.ge HI0.out)) | exact HB.out),by repeat (first | (with_reducible first | exact HK.out | apply KeepBut.set_ | apply keep_drewN | apply keep_drew | apply keep_alloc) | exact HK.out)⟩
 ·rw [if_neg c5] at H
  have c5b0:decide ((IntKind.u64.wrap (ji4)) < t164) = false:=decide_eq_false c5
  clear c5
  replace H:=Option.bind_eq_some_iff.mp H
  obtain ⟨⟨t171,t172,t173,t174⟩,A90,H⟩:=H
  replace H:(some (t171,t172,t173,t174)) = some (r1,r2,r3,r4):=H
  have A9:=Aside0.mk A90
  clear A90
  simp only [Option.some.injEq,Prod.mk.injEq] at H
  obtain ⟨rfl,rfl,rfl,rfl⟩:=H
  go_enter Tryd.func60,Tryd.ntmps60
  go_wp2_with (first | ((with_reducible refine gate_callee (f:=56) rfl ?_);refine goesL_ (some 7) rfl rfl Tryd.func56 (by kernel_rfl) rfl #[.pointer (some ⟨g,0,none⟩)] rfl (by (try simp only [List.map_toArray,List.map_cons,List.map_nil]);first | done | rfl | (simp only [List.length_drop,List.length_take];rfl)) ?_;(with_reducible refine (varint_Reader_Num.calls g s0_0 s0_1 s0_2 t164 t165 t166 t167 w0 _ ?side1 ?side2 A3.out).mono ?_);(case side1=>repeat (first | (with_reducible first | exact HI0.out | apply IsS171.alloc | apply IsS171.drewN | apply IsS171.drew | apply IsS171.set_0 | apply IsS171.set_1 | apply IsS171.set_2) | exact HI0.out));(case side2=>repeat (first | (with_reducible first | exact HB.out | apply below_alloc | apply pw_below_drewN | apply below_drew1 | refine below_set ?_ (IsS171.ge HI0.out)) | exact HB.out));rintro e w10 ⟨rfl,hi,hb,hk⟩;refine ⟨_,rfl,?_⟩;have n0_:=Aside0.mk (KeepBut.trans (by repeat (first | (with_reducible first | exact HK.out | apply KeepBut.set_ | apply keep_drewN | apply keep_drew | apply keep_alloc) | exact HK.out)) hk (.inl rfl));have n1_:=Aside0.mk (hb);have n2_:=Aside0.mk (hi);clear HK;clear HB;clear HI0;have HK:=n0_;have HB:=n1_;have HI0:=n2_;clear n0_ n1_ n2_;(try clear hb);(try clear hb2);(try clear hk);(try clear hi)) | ((with_reducible refine gate_callee (f:=109) rfl ?_);refine goesL_ (some 18) rfl rfl Tryd.func109 (by kernel_rfl) rfl #[.pointer (some ⟨g,0,none⟩),.int .i64 (wrap64 (t164))] rfl (by (try simp only [List.map_toArray,List.map_cons,List.map_nil]);first | done | rfl | (simp only [List.length_drop,List.length_take];rfl)) ?_;(with_reducible refine (varint_Reader_Take.calls g t165 t166 t167 (wrap64 (t164)) t171 t172 t173 t174 w0 _ ?side1 ?side2 A9.out).mono ?_);(case side1=>repeat (first | (with_reducible first | exact HI0.out | apply IsS171.alloc | apply IsS171.drewN | apply IsS171.drew | apply IsS171.set_0 | apply IsS171.set_1 | apply IsS171.set_2) | exact HI0.out));(case side2=>repeat (first | (with_reducible first | exact HB.out | apply below_alloc | apply pw_below_drewN | apply below_drew1 | refine below_set ?_ (IsS171.ge HI0.out)) | exact HB.out));rintro e w11 ⟨rfl,hi,hb,hk⟩;refine ⟨_,rfl,?_⟩;have n0_:=Aside0.mk (KeepBut.trans (by repeat (first | (with_reducible first | exact HK.out | apply KeepBut.set_ | apply keep_drewN | apply keep_drew | apply keep_alloc) | exact HK.out)) hk (.inl rfl));have n1_:=Aside0.mk (hb);have n2_:=Aside0.mk (hi);clear HK;clear HB;clear HI0;have HK:=n0_;have HB:=n1_;have HI0:=n2_;clear n0_ n1_ n2_;(try clear hb);(try clear hb2);(try clear hk);(try clear hi)))
  go_ret
  exact ⟨by first | rfl | (simp [errW_none,errW_some] <;> rfl) | (simp only [← hji4];first | rfl | (simp [errW_none,errW_some] <;> rfl)) | (simp [*,errW_none,errW_some] <;> rfl),by repeat (first | (with_reducible first | exact HI0.out | apply IsS171.alloc | apply IsS171.drewN | apply IsS171.drew | apply IsS171.set_0 | apply IsS171.set_1 | apply IsS171.set_2) | exact HI0.out),by repeat (first | (with_reducible first | exact HB.out | apply below_alloc | apply pw_below_drewN | apply below_drew1 | refine below_set ?_ (IsS171.ge HI0.out)) | exact HB.out),by repeat (first | (with_reducible first | exact HK.out | apply KeepBut.set_ | apply keep_drewN | apply keep_drew | apply keep_alloc) | exact HK.out)⟩
end Go.Proofs.YteilnbnnhocciaaDoor.KV

/-! KV42 -/
namespace Go.Proofs.YteilnbnnhocciaaDoor.KV
open Go.RowKit Go.Proofs.YteilnbnnhocciaaDoorW.PrintWords Go.Proofs.YteilnbnnhocciaaDoorW.PrintLast Go.Proofs.YteilnbnnhocciaaDoorW.PrintMore Go.Proofs.YteilnbnnhocciaaDoorM
attribute [local go_sem] max2_int min2_int max_two min_two max_three min_three max_four min_four
def varint_Reader_Left.f (s0_0:ByteArray) (s0_1:Int) (s0_2:Int):Option (Int × ByteArray × Int × Int):=some (wrap64 ((s0_0.size:Int) - s0_1),s0_0,s0_1,s0_2)
set_option maxHeartbeats 8000000 in
set_option maxRecDepth 100000 in
theorem varint_Reader_Left.calls (g:Nat) (s0_0:ByteArray) (s0_1:Int) (s0_2:Int) (r1:Int) (r2:ByteArray) (r3:Int) (r4:Int) (w0 w:World) (hI:IsS171 w0 w g s0_0 s0_1 s0_2) (hB:Below w0.heap.size w0 w) (h:varint_Reader_Left.f s0_0 s0_1 s0_2 = some (r1,r2,r3,r4)) :
  Calls Tryd.prog 110 #[.pointer (some ⟨g,0,none⟩)] w fun e w'=>e = .returned (.int .i64 r1) ∧ IsS171 w0 w' g r2 r3 r4 ∧ Below w0.heap.size w0 w' ∧ KeepBut w w' g none:=by
 have HI0:=Aside0.mk hI
 have HK:=Aside0.mk (KeepBut.refl w g none)
 have HL:=Aside0.mk hB.size
 clear hI
 have HW0:=Aside0.mk hB.size
 have HB:=Aside0.mk hB
 clear hB
 have H:(some (wrap64 ((s0_0.size:Int) - s0_1),s0_0,s0_1,s0_2)) = some (r1,r2,r3,r4):=h
 clear h
 simp only [Option.some.injEq,Prod.mk.injEq] at H
 obtain ⟨rfl,rfl,rfl,rfl⟩:=H
 obtain ⟨HGz2,hgz2⟩:=HI0.out
 have hcz2_0:=cellS171_0 HGz2
 have hcz2_1:=cellS171_1 HGz2
 have hcz2_2:=cellS171_2 HGz2
 have hfz2_0:=blk_frozen HGz2 0
 have hfz2_1:=blk_frozen HGz2 1
 have hfz2_2:=blk_frozen HGz2 2
 clear HGz2 hgz2
 go_enter Tryd.func110,Tryd.ntmps110
 go_wp2
 repeat (go_quiet (fail);try go_wp2)
 go_ret
 exact ⟨by first | rfl | (simp [errW_none,errW_some] <;> rfl) | (simp [*,errW_none,errW_some] <;> rfl),by repeat (first | (with_reducible first | exact HI0.out | apply IsS171.alloc | apply IsS171.drewN | apply IsS171.drew | apply IsS171.set_0 | apply IsS171.set_1 | apply IsS171.set_2) | exact HI0.out),by repeat (first | (with_reducible first | exact HB.out | apply below_alloc | apply pw_below_drewN | apply below_drew1 | refine below_set ?_ (IsS171.ge HI0.out)) | exact HB.out),by repeat (first | (with_reducible first | exact HK.out | apply KeepBut.set_ | apply keep_drewN | apply keep_drew | apply keep_alloc) | exact HK.out)⟩
end Go.Proofs.YteilnbnnhocciaaDoor.KV
