/- VersionWhole: the card of the statement VersionWhole, with no condition: what a pick has is all that overlaps it, a version made of another one's files is that one, edits change no version. (part 8 of 8; packed by program out of the texts named below) -/
import Derived.Test.YteilnbnnhocciaaDoorXJ7
import Derived.Deep.AppendLies
import Derived.Deep.CutRange
import Derived.Test.YteilnbnnhocciaaDoorTie
import Derived.Test.YteilnbnnhocciaaDoorCards
import Derived.SevenTiedAt
set_option linter.unusedVariables false
set_option linter.unusedSimpArgs false

/-! V61 -/
namespace Go.Proofs.YteilnbnnhocciaaDoor.V
open Go.Proofs Go.Sort Go.Lib Go.RowKit Go.BigFrame Go.Proofs.YteilnbnnhocciaaDoorM Go.Proofs.YteilnbnnhocciaaDoorW.PrintWords Go.Proofs.YteilnbnnhocciaaDoorW.PrintLast Go.Proofs.YteilnbnnhocciaaDoorW.PrintMore Go.Proofs.YteilnbnnhocciaaDoor.KV
theorem editSame_on (l:List S107) (B B':Option Addr) (d d':Nat) (w:World) (hB:Kd.C k107 w B l.length l) (hd:l.length ≤ d) (hB':Kd.C k107 w B' l.length l) (hd':l.length ≤ d') (hl:l.length ≤ 9223372036854775806) :
  Calls Tryd.prog 23 #[.agg #[.int .u64 0,.int .u64 0,.int .u64 0,.slice B l.length d,.slice none 0 0],.agg #[.int .u64 0,.int .u64 0,.int .u64 0,.slice B' l.length d',.slice none 0 0]] w fun e w'=>e = .returned (.bool true) ∧ RowKit.Below w.heap.size w w':=
 edit_Same.calls (l.length + 2) 0 0 0 B d l none 0 [] 0 0 0 B' d' l none 0 [] true w hB hd ⟨rfl,by simp,fun h=>by simp at h⟩ (by simp) hB' hd' ⟨rfl,by simp,fun h=>by simp at h⟩ (by simp) (editSame_refl l hl)
abbrev S8 (F:Nat → List FileV) (A:Nat → Option Addr) (c:Nat → Nat) (A':Nat → Option Addr) (c':Nat → Nat) (w W:World):Prop:=W.cell? ⟨w.heap.size,0,none⟩ = some (.slice (A 0) (F 0).length (c 0)) ∧ W.cell? ⟨w.heap.size,1,none⟩ = some (.slice (A 1) (F 1).length (c 1)) ∧ W.cell? ⟨w.heap.size,2,none⟩ = some (.slice (A 2) (F 2).length (c 2)) ∧ W.cell? ⟨w.heap.size,3,none⟩ = some (.slice (A 3) (F 3).length (c 3)) ∧ W.cell? ⟨w.heap.size + 1,0,none⟩ = some (.slice (A' 0) (F 0).length (c' 0)) ∧ W.cell? ⟨w.heap.size + 1,1,none⟩ = some (.slice (A' 1) (F 1).length (c' 1)) ∧ W.cell? ⟨w.heap.size + 1,2,none⟩ = some (.slice (A' 2) (F 2).length (c' 2)) ∧ W.cell? ⟨w.heap.size + 1,3,none⟩ = some (.slice (A' 3) (F 3).length (c' 3))
set_option maxHeartbeats 8000000 in
set_option maxRecDepth 100000 in
theorem verSame_on (F:Nat → List FileV) (A A':Nat → Option Addr) (c c':Nat → Nat) (w:World) (h:VerIn w F A c) (h':VerIn w F A' c') (hl:∀ i,(F i).length ≤ 100000) :
  Calls Tryd.prog 49 #[.agg #[.slice (A 0) (F 0).length (c 0),.slice (A 1) (F 1).length (c 1),.slice (A 2) (F 2).length (c 2),.slice (A 3) (F 3).length (c 3)],.agg #[.slice (A' 0) (F 0).length (c' 0),.slice (A' 1) (F 1).length (c' 1),.slice (A' 2) (F 2).length (c' 2),.slice (A' 3) (F 3).length (c' 3)]] w fun e w'=>e = .returned (.bool true) ∧ RowKit.Below w.heap.size w w':=by
 have mixed:Tryd.prog.follows .mixedOrders = true:=by kernel_rfl
 have HLEN:Hush ((allCome F).length ≤ 9223372036854775806):=⟨by
  have h0:=hl 0
  have h1:=hl 1
  have h2:=hl 2
  have h3:=hl 3
  rw [← allLen_come]
  simp only [allLen]
  omega⟩
 obtain ⟨n,hn⟩:∃ n,n = (allCome F).length:=⟨_,rfl⟩
 obtain ⟨w1,hw1⟩:∃ w1,w1 = (w.alloc (.cells #[.slice (A 0) (F 0).length (c 0),.slice (A 1) (F 1).length (c 1),.slice (A 2) (F 2).length (c 2),.slice (A 3) (F 3).length (c 3)] 79)).alloc (.cells #[.slice (A' 0) (F 0).length (c' 0),.slice (A' 1) (F 1).length (c' 1),.slice (A' 2) (F 2).length (c' 2),.slice (A' 3) (F 3).length (c' 3)] 79):=⟨_,rfl⟩
 obtain ⟨f1,f2,b1,z1⟩:=two_boxes w (fun i=>.slice (A i) (F i).length (c i)) (fun i=>.slice (A' i) (F i).length (c' i)) 79 79 w1 hw1
 have hbd:RowKit.Below w1.heap.size w1 w1.drew:=(RowKit.Below.refl _ _).drew
 have HSS:Hush (∀ W,RowKit.Below w1.heap.size w1 W → S8 F A c A' c' w W):=⟨fun W hW=>
  ⟨(f1.below hW).cell 0 (by omega),(f1.below hW).cell 1 (by omega),(f1.below hW).cell 2 (by omega),(f1.below hW).cell 3 (by omega),(f2.below hW).cell 0 (by omega),(f2.below hW).cell 1 (by omega),(f2.below hW).cell 2 (by omega),(f2.below hW).cell 3 (by omega)⟩⟩
 have HS0:Hush (S8 F A c A' c' w w1.drew):=⟨HSS.out _ hbd⟩
 have HC:Hush (Calls Tryd.prog 46 #[.agg #[.slice (A 0) (F 0).length (c 0),.slice (A 1) (F 1).length (c 1),.slice (A 2) (F 2).length (c 2),.slice (A 3) (F 3).length (c 3)]] w1.drew fun e w2=>∃ B d,e = .returned (.agg #[.int .u64 0,.int .u64 0,.int .u64 0,.slice B (allCome F).length d,.slice none 0 0]) ∧ Hush (S8 F A c A' c' w w2) ∧
   Hush (Calls Tryd.prog 46 #[.agg #[.slice (A' 0) (F 0).length (c' 0),.slice (A' 1) (F 1).length (c' 1),.slice (A' 2) (F 2).length (c' 2),.slice (A' 3) (F 3).length (c' 3)]] w2 fun e w3=>∃ B' d',e = .returned (.agg #[.int .u64 0,.int .u64 0,.int .u64 0,.slice B' (allCome F).length d',.slice none 0 0]) ∧ Hush (S8 F A c A' c' w w3) ∧
   Hush (Calls Tryd.prog 23 #[.agg #[.int .u64 0,.int .u64 0,.int .u64 0,.slice B (allCome F).length d,.slice none 0 0],.agg #[.int .u64 0,.int .u64 0,.int .u64 0,.slice B' (allCome F).length d',.slice none 0 0]] w3 fun e w4=>e = .returned (.bool true) ∧ Hush (S8 F A c A' c' w w4) ∧ Hush (RowKit.Below w.heap.size w w4)))):=⟨by
  refine (allFiles_on F A c w1.drew ((h.below b1).below hbd) hl).mono fun e w2 ⟨B,d,e2,hB,hd,hb2⟩=>⟨B,d,e2,?_⟩
  have hb2':RowKit.Below w1.heap.size w1 w2:=hbd.trans (hb2.mono hbd.size)
  refine ⟨⟨HSS.out _ hb2'⟩,⟨?_⟩⟩
  refine (allFiles_on F A' c' w2 ((h'.below b1).below hb2') hl).mono fun e w3 ⟨B',d',e3,hB',hd',hb3⟩=>⟨B',d',e3,?_⟩
  have hb3':RowKit.Below w1.heap.size w1 w3:=hb2'.trans (hb3.mono hb2'.size)
  refine ⟨⟨HSS.out _ hb3'⟩,⟨?_⟩⟩
  refine (editSame_on (allCome F) B B' d d' w3 (Kd.C_below hB hb3) hd hB' hd' HLEN.out).mono fun e w4 ⟨e4,hb4⟩=>⟨e4,?_⟩
  have hb4':RowKit.Below w1.heap.size w1 w4:=hb3'.trans (hb4.mono hb3'.size)
  exact ⟨⟨HSS.out _ hb4'⟩,⟨b1.trans (hb4'.mono b1.size)⟩⟩⟩
 rw [← hn] at HC
 clear hn HLEN f1 f2 b1 z1 hbd h h' hl
 go_enter Tryd.func49,Tryd.ntmps49
 go_wp2_with fail
 rw [← hw1]
 clear hw1
 go_region_held3 (fun w'=>w'.cell? ⟨w.heap.size,0,none⟩ = some (.slice (A 0) (F 0).length (c 0)) ∧ w'.cell? ⟨w.heap.size,1,none⟩ = some (.slice (A 1) (F 1).length (c 1)) ∧ w'.cell? ⟨w.heap.size,2,none⟩ = some (.slice (A 2) (F 2).length (c 2)) ∧ w'.cell? ⟨w.heap.size,3,none⟩ = some (.slice (A 3) (F 3).length (c 3)) ∧ w'.cell? ⟨w.heap.size + 1,0,none⟩ = some (.slice (A' 0) (F 0).length (c' 0)) ∧ w'.cell? ⟨w.heap.size + 1,1,none⟩ = some (.slice (A' 1) (F 1).length (c' 1)) ∧ w'.cell? ⟨w.heap.size + 1,2,none⟩ = some (.slice (A' 2) (F 2).length (c' 2)) ∧ w'.cell? ⟨w.heap.size + 1,3,none⟩ = some (.slice (A' 3) (F 3).length (c' 3))) (first | with_reducible exact HS0.out | with_reducible exact HS5.out | with_reducible exact HS6.out | with_reducible exact HS7.out)
  ((first | (go_at_call 23;with_reducible refine HC6.out.mono ?_;rintro e w8 ⟨rfl,HS7,HEND⟩) | (go_at_call 46;first | (with_reducible refine HC.out.mono ?_;rintro e w5 ⟨B,d,rfl,HS5,HC5⟩) | (with_reducible refine HC5.out.mono ?_;rintro e w6 ⟨B',d',rfl,HS6,HC6⟩))))
 go_wp2
 go_ret
 exact ⟨rfl,HEND.out⟩
end Go.Proofs.YteilnbnnhocciaaDoor.V

/-! V62 -/
namespace Go.Proofs.YteilnbnnhocciaaDoor.V
open Go.Proofs Go.Sort Go.Lib Go.RowKit Go.BigFrame Go.Proofs.YteilnbnnhocciaaDoorM Go.Proofs.YteilnbnnhocciaaDoorW.PrintWords Go.Proofs.YteilnbnnhocciaaDoorW.PrintLast Go.Proofs.YteilnbnnhocciaaDoorW.PrintMore Go.Proofs.YteilnbnnhocciaaDoor.KV
theorem k26_new (w:World) (x:S26) {A3:Option Addr} {c3:Nat} (l3:x.f3.length ≤ c3) (g3:k107.C w A3 x.f3.length x.f3) {A4:Option Addr} {c4:Nat} (l4:x.f4.length ≤ c4) (g4:k111.C w A4 x.f4.length x.f4) :
  Kd.C k26 (w.alloc (.cells #[.int .u64 x.f0,.int .u64 x.f1,.int .u64 x.f2,.slice A3 x.f3.length c3,.slice A4 x.f4.length c4] 26)) (some ⟨w.heap.size,0,none⟩) 1 [x]:=by
 have hb:RowKit.Below w.heap.size w (w.alloc (.cells #[.int .u64 x.f0,.int .u64 x.f1,.int .u64 x.f2,.slice A3 x.f3.length c3,.slice A4 x.f4.length c4] 26)):=(RowKit.Below.refl _ _).alloc (Nat.le_refl _) _
 refine ⟨rfl,by omega,fun _=>⟨_,rfl,fun j p hj=>?_⟩⟩
 match j,hj with
 | j + 1,hj=>simp at hj
 | 0,hj=>
  obtain rfl:=Option.some.inj hj
  refine ⟨_,rfl,k26_mk _ x l3 (Kd.C_below g3 hb) l4 (Kd.C_below g4 hb),fun i u hu=>?_⟩
  refine (congrArg (World.cell? _) (add_plain w.heap.size (0 * 5 + i))).trans ?_
  rw [Nat.zero_mul,Nat.zero_add]
  simp only [World.cell?,World.alloc_heap_new]
  simpa using hu
end Go.Proofs.YteilnbnnhocciaaDoor.V

/-! V64 -/
namespace Go.Proofs.YteilnbnnhocciaaDoor.V
open Go.Proofs Go.Sort Go.Lib Go.RowKit Go.BigFrame Go.Proofs.YteilnbnnhocciaaDoorM Go.Proofs.YteilnbnnhocciaaDoorW.PrintWords Go.Proofs.YteilnbnnhocciaaDoorW.PrintLast Go.Proofs.YteilnbnnhocciaaDoorW.PrintMore Go.Proofs.YteilnbnnhocciaaDoor.KV
def WholePick (F:Nat → List FileV) (level:Int) (UP LOW:List FileV):Prop:=
 UP ≠ [] ∧ ∃ lv:Nat,lv < 3 ∧ level = (lv:Int) ∧ (∀ f ∈ UP,∀ x ∈ over (F (lv + 1)) f.least f.most,x ∈ LOW) ∧ (lv = 0 → ∀ f ∈ UP,∀ x ∈ over (F 0) f.least f.most,x ∈ UP)
theorem pickUp_ne {lv:Nat} {L U:List FileV} {x0:FileV} (hU:PickUp lv L x0 U):U ≠ []:=by
 unfold PickUp at hU
 split at hU
 ·exact hU.1.ne
 ·rw [hU];simp
theorem over_in {L U:List FileV} (h:U ≠ []) {f x:FileV} (hf:f ∈ U) (hx:x ∈ over L f.least f.most):x ∈ over L (loL U) (hiL U):=by
 obtain ⟨h1,h2⟩:=List.mem_filter.1 hx
 exact List.mem_filter.2 ⟨h1,touchB_mono h2 ((loL_spec h).1 f hf) ((hiL_spec h).1 f hf)⟩
theorem pick_whole (F:Nat → List FileV) (m:Nat) (hG:GoodF F m) (hm:m ≤ 100000) (level choice:Int):∃ (has:Bool) (pl:Int) (UP LOW:List FileV),UP.length ≤ 100000 ∧ LOW.length ≤ 100000 ∧ (∀ f ∈ UP,(Lit.int .u64 f.num).wf = true) ∧ (∀ f ∈ LOW,(Lit.int .u64 f.num).wf = true) ∧ (has = true → WholePick F level UP LOW) ∧
  (∀ (A:Nat → Option Addr) (c:Nat → Nat) (w:World),VerIn w F A c → Calls Tryd.prog 40 #[.agg #[.slice (A 0) (F 0).length (c 0),.slice (A 1) (F 1).length (c 1),.slice (A 2) (F 2).length (c 2),.slice (A 3) (F 3).length (c 3)],.int .i64 level,.int .i64 choice] w fun e w'=>∃ B d B' d',e = .returned (.tuple #[.agg #[.int .i64 pl,.slice B UP.length d,.slice B' LOW.length d'],.bool has]) ∧ RowIs w' (.slice B UP.length d) UP ∧ RowIs w' (.slice B' LOW.length d') LOW ∧ RowKit.Below w.heap.size w w'):=by
 have nilRow:∀ w,RowIs w (.slice none 0 0) []:=fun w=>⟨none,0,rfl,fun h=>by simp at h,by simp⟩
 by_cases hn:noPick F level
 ·refine ⟨false,0,[],[],by simp,by simp,by simp,by simp,fun h=>(by cases h),fun A c w h=>?_⟩
  refine (pick_none F A c level choice w hn).mono fun e w' ⟨he,hb⟩=>⟨none,0,none,0,he,nilRow _,nilRow _,hb⟩
 ·unfold noPick at hn
  simp only [not_or] at hn
  obtain ⟨n1,n2,n3⟩:=hn
  obtain ⟨lv,rfl⟩:∃ lv:Nat,level = (lv:Int):=⟨level.toNat,by omega⟩
  have hlv:lv < 3:=by omega
  have h0:F lv ≠ []:=by simpa using n3
  have hpos:0 < (F lv).length:=List.length_pos_iff.2 h0
  obtain ⟨x0,hx0⟩:∃ x,(F lv)[placeOf choice (F lv).length]? = some x:=⟨_,List.getElem?_eq_getElem (placeOf_lt choice hpos)⟩
  have hmem:x0 ∈ F lv:=List.mem_of_getElem? hx0
  have hp:=rightF_parts hG.right
  have hl:∀ i,(F i).length ≤ 100000:=fun i=>Nat.le_trans (hG.short i) hm
  have hok:∀ i,i < 4 → ∀ f ∈ F i,leB f.least f.most = true:=fun i hi f hf=>okB_le ((hp i hi).2.2 f hf)
  obtain ⟨U,hU,hUs⟩:=pickUp_there (lv:=lv) (hok lv (by omega)) hmem
  have hne:=pickUp_ne hU
  refine ⟨true,lv,U,over (F (lv + 1)) (loL U) (hiL U),Nat.le_trans hUs.length_le (hl lv),Nat.le_trans (List.length_filter_le _ _) (hl _),fun f hf=>hG.wf lv (by omega) f (hUs.subset hf),fun f hf=>hG.wf (lv + 1) (by omega) f (List.mem_filter.1 hf).1,
   fun _=>⟨hne,lv,hlv,rfl,fun f hf x hx=>over_in hne hf hx,fun hz f hf x hx=>?_⟩,fun A c w h=>?_⟩
  ·subst hz
   unfold PickUp at hU
   rw [if_pos rfl] at hU
   obtain ⟨h1,h2⟩:=List.mem_filter.1 (over_in hne hf hx)
   exact hU.1.full x h1 h2
  ·have key:Calls Tryd.prog 40 #[.agg #[.slice (A 0) (F 0).length (c 0),.slice (A 1) (F 1).length (c 1),.slice (A 2) (F 2).length (c 2),.slice (A 3) (F 3).length (c 3)],.int .i64 lv,.int .i64 choice] w (PkPost w lv F x0):=by
    by_cases hz:lv = 0
    ·exact pick_top lv hz F A c choice x0 w h hl (hok 0 (by omega)) h0 hx0
    ·exact pick_low lv (by omega) hlv F A c choice x0 w h hl h0 hx0
   refine key.mono fun e w' ⟨up,vU,vL,hup,he,r1,r2,hb⟩=>?_
   have e1:=pickUp_one (hp lv (by omega)).2.1 hmem hU hup
   subst e1
   obtain ⟨B,d,rfl,q1,q2⟩:=r1
   obtain ⟨B',d',rfl,q3,q4⟩:=r2
   exact ⟨B,d,B',d',he,⟨B,d,rfl,q1,q2⟩,⟨B',d',rfl,q3,q4⟩,hb⟩
end Go.Proofs.YteilnbnnhocciaaDoor.V

/-! V65 -/
namespace Go.Proofs.YteilnbnnhocciaaDoor.V
open Go.Proofs Go.Sort Go.Lib Go.RowKit Go.BigFrame Go.Proofs.YteilnbnnhocciaaDoorM Go.Proofs.YteilnbnnhocciaaDoorW.PrintWords Go.Proofs.YteilnbnnhocciaaDoorW.PrintLast Go.Proofs.YteilnbnnhocciaaDoorW.PrintMore Go.Proofs.YteilnbnnhocciaaDoor.KV
theorem add_cell {w:World} {ad:Addr} {f:FileV} {m j:Nat} {u:Value} (h:FileAt w (ad.add m) f) (hu:(encF f)[j]? = some u):w.cell? (ad.add (m + j)) = some u:=by
 obtain ⟨c0,c1,c2,c3,c4⟩:=h
 have key:∀ i,w.cell? ⟨(ad.add m).block,(ad.add m).off + (i + 1),none⟩ = w.cell? (ad.add (m + (i + 1))):=fun i=>by
  unfold Addr.add
  split
  ·next h0=>subst h0;rw [if_neg (by omega)];simp
  ·next h0=>rw [if_neg (by omega)];simp [Nat.add_assoc]
 match j,hu with
 | 0,hu=>obtain rfl:=Option.some.inj hu;exact c0
 | 1,hu=>obtain rfl:=Option.some.inj hu;exact (key 0).symm.trans c1
 | 2,hu=>obtain rfl:=Option.some.inj hu;exact (key 1).symm.trans c2
 | 3,hu=>obtain rfl:=Option.some.inj hu;exact (key 2).symm.trans c3
 | 4,hu=>obtain rfl:=Option.some.inj hu;exact (key 3).symm.trans c4
theorem cells_of {w:World} {A:Option Addr} {L:List FileV} (h:FilesAt w A L) (h0:0 < L.length):∃ ad,A = some ad ∧ ∀ j u,(cellsF L)[j]? = some u → w.cell? (ad.add j) = some u:=by
 obtain ⟨ad,e,hc⟩:=h h0
 refine ⟨ad,e,fun j u hu=>?_⟩
 have hj:j < L.length * 5:=by have:=(List.getElem?_eq_some_iff.1 hu).1;rwa [cellsF_len] at this
 obtain ⟨i,x,hx5,rfl⟩:∃ i x,x < 5 ∧ j = i * 5 + x:=⟨j / 5,j % 5,by omega,by omega⟩
 have hi:i < L.length:=by omega
 obtain ⟨f,hf⟩:∃ f,L[i]? = some f:=⟨_,List.getElem?_eq_getElem hi⟩
 obtain ⟨v,hv⟩:∃ v,(encF f)[x]? = some v:=⟨_,List.getElem?_eq_getElem (by rw [encF_len];exact hx5)⟩
 rw [cellsF_at L i f x v hf hv] at hu
 obtain rfl:=Option.some.inj hu
 exact add_cell (hc i f hf) hv
theorem run_append_zero {P:Program} {w:World} (t ty e:TypeId) (i:TypeInfo) (ht:P.underlying t = some (.slice e)) (hi:P.info? e = some i) (g n cap:Nat) (B:Option Addr) (d:Nat) (hnc:n ≤ cap) :
  (Builtin.append_ #[t,t] ty #[.slice (some ⟨g,0,none⟩) n cap,.slice B 0 d]).run P w = .ok (.slice (some ⟨g,0,none⟩) n cap) w:=by
 cases B <;> simp [Builtin.append_,run_underlying ht,sizeOf,typeInfo,hi,Builtin.lenOf,Builtin.firstCells,hnc,storeCells,loadCells,loadCellsFrom]
theorem step_append_zero {P:Program} {w:World} {ops:Array Oper} {o:Oper} {a:Act} {K:Act → World → Prop} {Q:Exit → Act → World → Prop} {E:Prop} (hgd:o.guard = none) (s x:Operand) (t:TypeId)
  (ho:o.op = .call { callee:=.builtin .append,args:=#[s,x],argTypes:=#[t,t] }) (e:TypeId) (i:TypeInfo) (ht:P.underlying t = some (.slice e)) (hi:P.info? e = some i)
  (g n cap:Nat) (B:Option Addr) (d:Nat) (hs:a.eval s = .slice (some ⟨g,0,none⟩) n cap) (hx:a.eval x = .slice B 0 d) (hnc:n ≤ cap)
  (h:K (a.put o.dst (.slice (some ⟨g,0,none⟩) n cap)) w):if Region.wanted o (yielded ops a.tmps) = true then Oper.wp P o a w K Q else E:=by
 have hw:Region.wanted o (yielded ops a.tmps) = true:=by simp [Region.wanted,hgd]
 rw [if_pos hw]
 have hr:=run_append_zero (P:=P) (w:=w) t o.type e i ht hi g n cap B d hnc
 unfold Oper.wp execOp
 simp only [ho,resolve,invoke,builtin,Sem.run_bind,Sem.run_pure,Result.andThen_ok,List.map_toArray,List.map_cons,List.map_nil,hs,hx,hr]
 exact h
end Go.Proofs.YteilnbnnhocciaaDoor.V

/-! V66 -/
namespace Go.Proofs.YteilnbnnhocciaaDoor.V
open Go.Proofs Go.Sort Go.Lib Go.RowKit Go.BigFrame Go.Proofs.YteilnbnnhocciaaDoorM Go.Proofs.YteilnbnnhocciaaDoorW.PrintWords Go.Proofs.YteilnbnnhocciaaDoorW.PrintLast Go.Proofs.YteilnbnnhocciaaDoorW.PrintMore Go.Proofs.YteilnbnnhocciaaDoor.KV
theorem Seen.no_cell {W:World} {m:Nat} {S:List Int} (h:Seen W m S) {p:Addr} {v:Value} (hp:W.cell? p = some v):p.block ≠ m:=by
 rintro rfl
 obtain ⟨D,n,⟨es,clock,hh,_⟩,_⟩:=h
 simp [World.cell?,hh] at hp
theorem FilesAt.stored {W W':World} {m:Nat} {S:List Int} {A:Option Addr} {L:List FileV} (h:FilesAt W A L) (hs:Seen W m S) (hg:W.grownBy W' (some m)):FilesAt W' A L:=fun h0=>by
 obtain ⟨ad,e,hc⟩:=h h0
 have up:∀ p v,W.cell? p = some v → W'.cell? p = some v:=fun p v hp=>hg.cell hp (fun e=>hs.no_cell hp (Option.some.inj e))
 refine ⟨ad,e,fun i x hx=>?_⟩
 obtain ⟨c0,c1,c2,c3,c4⟩:=hc i x hx
 exact ⟨up _ _ c0,up _ _ c1,up _ _ c2,up _ _ c3,up _ _ c4⟩
structure NumSt (w5:World) (pb g:Nat) (p1 p2 p3:Value) (AU:Option Addr) (UP ALL:List FileV) (k:Nat) (W:World):Prop where
 below:RowKit.Below w5.heap.size w5 W
 hpb:w5.heap.size ≤ pb
 three:Three W pb p1 p2 p3
 up:FilesAt W AU UP
 all:FilesAt W (some ⟨g,0,none⟩) ALL
 seen:∃ S,Seen W (pb + 1) S ∧ S.length ≤ k ∧ ∀ f ∈ ALL.take k,S.contains f.num = true
theorem NumSt.step {w5:World} {pb g k:Nat} {p1 p2 p3:Value} {AU:Option Addr} {UP ALL:List FileV} {W W':World} (h:NumSt w5 pb g p1 p2 p3 AU UP ALL k W) (hb:RowKit.Below W.heap.size W W'):NumSt w5 pb g p1 p2 p3 AU UP ALL k W':=by
 obtain ⟨S,s1,s2,s3⟩:=h.seen
 exact ⟨h.below.trans (hb.mono h.below.size),h.hpb,h.three.below hb,h.up.below hb,h.all.below hb,S,s1.below hb,s2,s3⟩
theorem NumSt.store {w5:World} {pb g k:Nat} {p1 p2 p3:Value} {AU:Option Addr} {UP ALL:List FileV} {W:World} {f:FileV} (h:NumSt w5 pb g p1 p2 p3 AU UP ALL k W) (hf:ALL[k]? = some f) (hw:(Lit.int .u64 f.num).wf = true) (hk:k < 1000000000) :
  ∃ W',(Instr.mapUpdate 103 (.map (some (pb + 1))) (.int .u64 f.num) (.bool true)).run Tryd.prog W = .ok () W' ∧ NumSt w5 pb g p1 p2 p3 AU UP ALL (k + 1) W':=by
 obtain ⟨S,s1,s2,s3⟩:=h.seen
 obtain ⟨W',hrun,hs2,hg⟩:=s1.store f.num hw (by omega)
 have hpb:=h.hpb
 refine ⟨W',hrun,h.below.grown hg h.below.size (fun k hk=>by cases hk;omega),h.hpb,?_,h.up.stored s1 hg,h.all.stored s1 hg,f.num :: S,hs2,by simp;omega,fun x hx=>?_⟩
 ·obtain ⟨t,ht⟩:=h.three
  refine ⟨t,(hg.block pb h.three.lt ?_).trans ht⟩
  intro e
  have:=Option.some.inj e
  omega
 ·obtain ⟨h1,e1⟩:=List.getElem?_eq_some_iff.1 hf
  rw [List.take_add_one,List.mem_append] at hx
  rcases hx with hx | hx
  ·simp [s3 x hx]
   simpa using Or.inr (s3 x hx)
  ·rw [hf] at hx
   simp at hx
   subst hx
   simp
theorem NumSt.look {w5:World} {pb g:Nat} {p1 p2 p3:Value} {AU:Option Addr} {UP ALL:List FileV} {W W':World} {f:FileV} (h:NumSt w5 pb g p1 p2 p3 AU UP ALL ALL.length W) (hb:RowKit.Below W.heap.size W W') (hf:f ∈ ALL) (hw:(Lit.int .u64 f.num).wf = true) :
  (Instr.lookup 103 (.map (some (pb + 1))) (.int .u64 f.num) false).run Tryd.prog W' = .ok (.bool true) W':=by
 obtain ⟨S,s1,s2,s3⟩:=h.seen
 rw [(s1.below hb).look f.num hw,s3 f (by rw [List.take_length];exact hf)]
end Go.Proofs.YteilnbnnhocciaaDoor.V

/-! V63 -/
namespace Go.Proofs.YteilnbnnhocciaaDoor.V
open Go.Proofs Go.Sort Go.Lib Go.RowKit Go.BigFrame Go.Proofs.YteilnbnnhocciaaDoorM Go.Proofs.YteilnbnnhocciaaDoorW.PrintWords Go.Proofs.YteilnbnnhocciaaDoorW.PrintLast Go.Proofs.YteilnbnnhocciaaDoorW.PrintMore Go.Proofs.YteilnbnnhocciaaDoor.KV
theorem own_le {W:World} {base g n cap:Nat} {xs:List Value} (h:W.ownsRow base 97 5 (.slice (some ⟨g,0,none⟩) n cap) n xs):n ≤ cap:=by
 rcases h.2 with ⟨h1,_⟩ | ⟨g',cap',cur,h1,_,_,h4,_⟩
 ·cases h1
 ·injection h1 with _ _ h1
  rw [h1];exact h4
theorem own_ge {W:World} {base g n cap:Nat} {xs:List Value} (h:W.ownsRow base 97 5 (.slice (some ⟨g,0,none⟩) n cap) n xs):base ≤ g:=(own_lt h rfl).1
theorem own_filesAt {W:World} {base g cap:Nat} {L:List FileV} (h:W.ownsRow base 97 5 (.slice (some ⟨g,0,none⟩) L.length cap) L.length (cellsF L)):FilesAt W (some ⟨g,0,none⟩) L:=by
 obtain ⟨A,c,h1,h2,_⟩:=own_files h
 injection h1 with h1 _ _
 rw [h1];exact h2
abbrev S9 (F:Nat → List FileV) (B:Nat → Option Addr) (c:Nat → Nat) (C6:Option Addr) (m d6 vb sb:Nat) (W:World):Prop:=W.cell? ⟨vb,0,none⟩ = some (.slice (B 0) (F 0).length (c 0)) ∧ W.cell? ⟨vb,1,none⟩ = some (.slice (B 1) (F 1).length (c 1)) ∧ W.cell? ⟨vb,2,none⟩ = some (.slice (B 2) (F 2).length (c 2)) ∧ W.cell? ⟨vb,3,none⟩ = some (.slice (B 3) (F 3).length (c 3)) ∧ W.cell? ⟨sb,0,none⟩ = some (.int .u64 0) ∧ W.cell? ⟨sb,1,none⟩ = some (.int .u64 0) ∧ W.cell? ⟨sb,2,none⟩ = some (.int .u64 0) ∧ W.cell? ⟨sb,3,none⟩ = some (.slice C6 m d6) ∧ W.cell? ⟨sb,4,none⟩ = some (.slice none 0 0)
abbrev S13 (F:Nat → List FileV) (B:Nat → Option Addr) (c:Nat → Nat) (A8:Nat → Option Addr) (c8:Nat → Nat) (C6:Option Addr) (m d6 vb rb sb:Nat) (W:World):Prop:=W.cell? ⟨vb,0,none⟩ = some (.slice (B 0) (F 0).length (c 0)) ∧ W.cell? ⟨vb,1,none⟩ = some (.slice (B 1) (F 1).length (c 1)) ∧ W.cell? ⟨vb,2,none⟩ = some (.slice (B 2) (F 2).length (c 2)) ∧ W.cell? ⟨vb,3,none⟩ = some (.slice (B 3) (F 3).length (c 3)) ∧ W.cell? ⟨rb,0,none⟩ = some (.slice (A8 0) (F 0).length (c8 0)) ∧ W.cell? ⟨rb,1,none⟩ = some (.slice (A8 1) (F 1).length (c8 1)) ∧ W.cell? ⟨rb,2,none⟩ = some (.slice (A8 2) (F 2).length (c8 2)) ∧ W.cell? ⟨rb,3,none⟩ = some (.slice (A8 3) (F 3).length (c8 3)) ∧ W.cell? ⟨sb,0,none⟩ = some (.int .u64 0) ∧ W.cell? ⟨sb,1,none⟩ = some (.int .u64 0) ∧ W.cell? ⟨sb,2,none⟩ = some (.int .u64 0) ∧ W.cell? ⟨sb,3,none⟩ = some (.slice C6 m d6) ∧ W.cell? ⟨sb,4,none⟩ = some (.slice none 0 0)
theorem allCome_wf {F:Nat → List FileV} (h:WfF F):∀ x ∈ allCome F,(Lit.int .u64 x.f1.f0).wf = true:=by
 intro x hx
 unfold allCome at hx
 simp only [List.mem_append,levelCome,List.mem_map] at hx
 rcases hx with ((⟨f,hf,rfl⟩ | ⟨f,hf,rfl⟩) | ⟨f,hf,rfl⟩) | ⟨f,hf,rfl⟩
 ·exact h 0 (by omega) f hf
 ·exact h 1 (by omega) f hf
 ·exact h 2 (by omega) f hf
 ·exact h 3 (by omega) f hf
set_option maxHeartbeats 8000000 in
set_option maxRecDepth 100000 in
theorem wholeLaw_on (A:Option Addr) (cap:Nat) (l:List S26) (e:S26) (CA GA:Option Addr) (cc gc:Nat) (level choice:Int) (w:World) (hA:Kd.C k26 w A l.length l) (hcap:l.length ≤ cap) (hx:∀ e ∈ l,e.f3.length ≤ 9223372036854775807) (hwf:∀ e ∈ l,∀ x ∈ e.f3,(Lit.int .u64 x.f1.f0).wf = true)
  (hC:Kd.C k107 w CA e.f3.length e.f3) (hcc:e.f3.length ≤ cc) (hG:Kd.C k111 w GA e.f4.length e.f4) (hgc:e.f4.length ≤ gc) (hew:∀ x ∈ e.f3,(Lit.int .u64 x.f1.f0).wf = true) :
  Calls Tryd.prog 12 #[.slice A l.length cap,.agg #[.int .u64 e.f0,.int .u64 e.f1,.int .u64 e.f2,.slice CA e.f3.length cc,.slice GA e.f4.length gc],.int .i64 level,.int .i64 choice] w fun r w'=>r = .returned (.bool true) ∧ RowKit.Below w.heap.size w w':=by
 obtain ⟨n,hn⟩:∃ n,n = l.length:=⟨_,rfl⟩
 have HN:=Hush.mk hn
 have HA:=Hush.mk hA
 have HCAP:=Hush.mk hcap
 have HX:=Hush.mk hx
 have HWF:=Hush.mk hwf
 have HEW:=Hush.mk hew
 have HCG:Hush (Kd.C k107 w CA e.f3.length e.f3 ∧ e.f3.length ≤ cc ∧ Kd.C k111 w GA e.f4.length e.f4 ∧ e.f4.length ≤ gc):=⟨⟨hC,hcc,hG,hgc⟩⟩
 rw [← hn]
 obtain ⟨x0,hx0⟩:∃ x,x = e.f0:=⟨_,rfl⟩
 obtain ⟨x1,hx1⟩:∃ x,x = e.f1:=⟨_,rfl⟩
 obtain ⟨x2,hx2⟩:∃ x,x = e.f2:=⟨_,rfl⟩
 obtain ⟨n3,hn3⟩:∃ x,x = e.f3.length:=⟨_,rfl⟩
 obtain ⟨n4,hn4⟩:∃ x,x = e.f4.length:=⟨_,rfl⟩
 rw [← hx0,← hx1,← hx2,← hn3,← hn4]
 have HE:Hush (x0 = e.f0 ∧ x1 = e.f1 ∧ x2 = e.f2 ∧ n3 = e.f3.length ∧ n4 = e.f4.length):=⟨⟨hx0,hx1,hx2,hn3,hn4⟩⟩
 obtain ⟨wb,hwb⟩:∃ wb,wb = w.alloc (.cells #[.int .u64 x0,.int .u64 x1,.int .u64 x2,.slice CA n3 cc,.slice GA n4 gc] 26):=⟨_,rfl⟩
 have hbb:RowKit.Below w.heap.size w wb:=by rw [hwb];exact (RowKit.Below.refl _ _).alloc (Nat.le_refl _) _
 have HBB:=Hush.mk hbb
 have HBX:Hush (wb.cell? ⟨w.heap.size,0,none⟩ = some (.int .u64 x0) ∧ wb.cell? ⟨w.heap.size,1,none⟩ = some (.int .u64 x1) ∧ wb.cell? ⟨w.heap.size,2,none⟩ = some (.int .u64 x2) ∧ wb.cell? ⟨w.heap.size,3,none⟩ = some (.slice CA n3 cc) ∧ wb.cell? ⟨w.heap.size,4,none⟩ = some (.slice GA n4 gc)):=⟨by
  rw [hwb]
  simp only [World.cell?,World.alloc_heap_new]
  exact ⟨rfl,rfl,rfl,rfl,rfl⟩⟩
 clear hn hA hcap hx hwf hC hcc hG hgc hew hx0 hx1 hx2 hn3 hn4 hbb
 go_enter Tryd.func12,Tryd.ntmps12
 go_wp2_with fail
 rw [← hwb]
 clear hwb
 refine (awake_on _).mono ?_
 rintro e' w1 ⟨rfl,hb1⟩
 have HB1:Hush (RowKit.Below wb.heap.size wb w1):=⟨hb1⟩
 clear hb1
 go_wp2_with fail
 obtain ⟨b,hli,hbl⟩:=light_on A cap l w1 (Kd.C_below (Kd.C_below HA.out HBB.out) HB1.out) HCAP.out HX.out
 rw [← HN.out] at hli
 refine hli.mono ?_
 clear hli
 rintro e' w2 ⟨rfl,hb2⟩
 have HB2:Hush (RowKit.Below wb.heap.size wb w2):=⟨HB1.out.trans (hb2.mono HB1.out.size)⟩
 clear hb2
 cases b with
 | false=>
  clear hbl
  go_wp2_with fail
  go_ret
  exact ⟨rfl,HBB.out.trans (HB2.out.mono HBB.out.size)⟩
 | true=>
  have HL:=Hush.mk (hbl rfl)
  clear hbl
  have up:∀ p v,wb.cell? p = some v → w2.cell? p = some v:=fun p v h=>(HB2.out.cell (World.block_lt_of_cell? wb p h)).trans h
  have p0:=up _ _ HBX.out.1
  have p1:=up _ _ HBX.out.2.1
  have p2:=up _ _ HBX.out.2.2.1
  have p3:=up _ _ HBX.out.2.2.2.1
  have p4:=up _ _ HBX.out.2.2.2.2
  clear up
  obtain ⟨wl,hwl⟩:∃ W,W = w2.alloc (.cells #[.int .u64 x0,.int .u64 x1,.int .u64 x2,.slice CA n3 cc,.slice GA n4 gc] 26):=⟨_,rfl⟩
  have hw26:Kd.C k26 wl (some ⟨w2.heap.size,0,none⟩) 1 [e]:=by
   rw [hwl,HE.out.1,HE.out.2.1,HE.out.2.2.1,HE.out.2.2.2.1,HE.out.2.2.2.2]
   have b:=HBB.out.trans (HB2.out.mono HBB.out.size)
   exact k26_new w2 e HCG.out.2.1 (Kd.C_below HCG.out.1 b) HCG.out.2.2.2 (Kd.C_below HCG.out.2.2.1 b)
  obtain ⟨b2,hli2,hbl2⟩:=light_on (some ⟨w2.heap.size,0,none⟩) 1 [e] wl hw26 (by simp) (fun x hx=>by rw [List.mem_singleton.1 hx];exact HCG.out.1.2.1)
  have HLI:Hush (Calls Tryd.prog 38 #[.slice (some ⟨w2.heap.size,0,none⟩) 1 1] wl fun e w'=>e = .returned (.bool b2) ∧ RowKit.Below wl.heap.size wl w'):=⟨hli2⟩
  have HLE:=Hush.mk hbl2
  have HBL:Hush (RowKit.Below wb.heap.size wb wl):=⟨by rw [hwl];exact HB2.out.alloc HB2.out.size _⟩
  clear hw26 hli2 hbl2
  go_wp2_with fail
  rw [← hwl]
  refine HLI.out.mono ?_
  rintro e' w3 ⟨rfl,hb3⟩
  have HB3:Hush (RowKit.Below wb.heap.size wb w3):=⟨HBL.out.trans (hb3.mono HBL.out.size)⟩
  clear hb3 p0 p1 p2 p3 p4 hwl
  cases b2 with
  | false=>
   go_wp2_with fail
   go_ret
   exact ⟨rfl,HBB.out.trans (HB3.out.mono HBB.out.size)⟩
  | true=>
   have hle:=HLE.out rfl
   have HLN:Hush (e.f3.length ≤ 60 ∧ e.f4.length ≤ 60):=⟨hle.2 e (List.mem_singleton_self _)⟩
   clear hle HLE HLI
   go_wp2_with fail
   obtain ⟨F,hF⟩:∃ F,F = playF l noneF:=⟨_,rfl⟩
   have hpl:=played_on A cap l w3 (Kd.C_below (Kd.C_below HA.out HBB.out) HB3.out) HCAP.out HL.out.1 HL.out.2 HWF.out
   rw [← hF,← HN.out] at hpl
   have HG:Hush (GoodF F 1800):=⟨by
    have h:=GoodF.play (m:=60) l GoodF.none (fun e he=>(HL.out.2 e he).1) HWF.out
    rw [← hF] at h
    exact ⟨h.right,fun i=>Nat.le_trans (h.short i) (by have:=HL.out.1;omega),h.wf⟩⟩
   clear hF
   refine hpl.mono ?_
   clear hpl
   rintro e' w4 ⟨B,c,B',c',rfl,hv,hq,hb4⟩
   have HB4:Hush (RowKit.Below wb.heap.size wb w4):=⟨HB3.out.trans (hb4.mono HB3.out.size)⟩
   have HV:=Hush.mk hv
   clear hb4 hv hq
   obtain ⟨w5,hw5⟩:∃ w5,w5 = ((w4.alloc (.cells #[.slice (B 0) (F 0).length (c 0),.slice (B 1) (F 1).length (c 1),.slice (B 2) (F 2).length (c 2),.slice (B 3) (F 3).length (c 3)] 79)).alloc (.cells #[.slice (B' 0) (F 0).length (c' 0),.slice (B' 1) (F 1).length (c' 1),.slice (B' 2) (F 2).length (c' 2),.slice (B' 3) (F 3).length (c' 3)] 83)):=⟨_,rfl⟩
   obtain ⟨fv,fq,hb5,hz5⟩:=two_boxes w4 (fun i=>.slice (B i) (F i).length (c i)) (fun i=>.slice (B' i) (F i).length (c' i)) 79 83 w5 hw5
   obtain ⟨vb,hvb⟩:∃ vb,vb = w4.heap.size:=⟨_,rfl⟩
   have HVB:=Hush.mk hvb
   rw [← hvb] at fv
   have HB5:Hush (RowKit.Below wb.heap.size wb w5):=⟨HB4.out.trans (hb5.mono HB4.out.size)⟩
   have HV5:Hush (∀ i,i < 4 → LAt w5 (B i) (F i) ∧ (F i).length ≤ c i):=⟨fun i hi=>⟨(HV.out i hi).1.below hb5,(HV.out i hi).2⟩⟩
   have HFV:=Hush.mk fv
   have HW5:=Hush.mk hw5
   clear fq hb5 hz5 hvb HV hw5
   have q0:=fv.cell 0 (by omega)
   have q1:=fv.cell 1 (by omega)
   have q2:=fv.cell 2 (by omega)
   have q3:=fv.cell 3 (by omega)
   rw [HW5.out,HVB.out] at q0 q1 q2 q3
   clear fv
   go_wp2_with fail
   rw [← HW5.out,← HVB.out]
   clear q0 q1 q2 q3
   obtain ⟨m,hm⟩:∃ m,m = (allCome F).length:=⟨_,rfl⟩
   have HM:=Hush.mk hm
   clear hm
   have HEX:Hush (∀ W,RowKit.Below w5.heap.size w5 W → W.cell? ⟨w.heap.size,0,none⟩ = some (.int .u64 x0) ∧ W.cell? ⟨w.heap.size,1,none⟩ = some (.int .u64 x1) ∧ W.cell? ⟨w.heap.size,2,none⟩ = some (.int .u64 x2) ∧ W.cell? ⟨w.heap.size,3,none⟩ = some (.slice CA n3 cc) ∧ W.cell? ⟨w.heap.size,4,none⟩ = some (.slice GA n4 gc)):=⟨fun W hW=>by
    have hb:=HB5.out.trans (hW.mono HB5.out.size)
    have up:∀ p v,wb.cell? p = some v → W.cell? p = some v:=fun p v h=>(hb.cell (World.block_lt_of_cell? wb p h)).trans h
    exact ⟨up _ _ HBX.out.1,up _ _ HBX.out.2.1,up _ _ HBX.out.2.2.1,up _ _ HBX.out.2.2.2.1,up _ _ HBX.out.2.2.2.2⟩⟩
   have HVX:Hush (∀ W,RowKit.Below w5.heap.size w5 W → W.cell? ⟨vb,0,none⟩ = some (.slice (B 0) (F 0).length (c 0)) ∧ W.cell? ⟨vb,1,none⟩ = some (.slice (B 1) (F 1).length (c 1)) ∧ W.cell? ⟨vb,2,none⟩ = some (.slice (B 2) (F 2).length (c 2)) ∧ W.cell? ⟨vb,3,none⟩ = some (.slice (B 3) (F 3).length (c 3))):=⟨fun W hW=>
    ⟨(HFV.out.below hW).cell 0 (by omega),(HFV.out.below hW).cell 1 (by omega),(HFV.out.below hW).cell 2 (by omega),(HFV.out.below hW).cell 3 (by omega)⟩⟩
   have HVER:Hush (∀ W,RowKit.Below w5.heap.size w5 W → VerIn W F B c):=⟨fun W hW i hi=>⟨((HV5.out i hi).1.below hW).files,(HV5.out i hi).2⟩⟩
   have HFL:Hush (∀ i,(F i).length ≤ 100000):=⟨fun i=>Nat.le_trans (HG.out.short i) (by omega)⟩
   have HFI:Hush (∀ W,RowKit.Below w5.heap.size w5 W → Calls Tryd.prog 46 #[.agg #[.slice (B 0) (F 0).length (c 0),.slice (B 1) (F 1).length (c 1),.slice (B 2) (F 2).length (c 2),.slice (B 3) (F 3).length (c 3)]] W fun e' w'=>∃ D d,e' = .returned (.agg #[.int .u64 0,.int .u64 0,.int .u64 0,.slice D m d,.slice none 0 0]) ∧ Hush (Kd.C k107 w' D (allCome F).length (allCome F) ∧ (allCome F).length ≤ d) ∧ RowKit.Below W.heap.size W w'):=⟨fun W hW=>by
    rw [HM.out]
    exact (allFiles_on F B c W (HVER.out W hW) HFL.out).mono fun e' w' ⟨D,d,h1,h2,h3,h4⟩=>⟨D,d,h1,⟨⟨h2,h3⟩⟩,h4⟩⟩
   have HAP:Hush (∀ W,RowKit.Below w5.heap.size w5 W → Calls Tryd.prog 47 #[.agg #[.slice (B 0) (F 0).length (c 0),.slice (B 1) (F 1).length (c 1),.slice (B 2) (F 2).length (c 2),.slice (B 3) (F 3).length (c 3)],.agg #[.int .u64 x0,.int .u64 x1,.int .u64 x2,.slice CA n3 cc,.slice GA n4 gc]] W fun e' w'=>(∃ v,e' = .returned v) ∧ RowKit.Below W.heap.size W w'):=⟨fun W hW=>by
    have b:=HBB.out.trans ((HB5.out.trans (hW.mono HB5.out.size)).mono HBB.out.size)
    rw [HE.out.1,HE.out.2.1,HE.out.2.2.1,HE.out.2.2.2.1,HE.out.2.2.2.2]
    exact (apply_on F 1800 B c e.f0 e.f1 e.f2 CA GA cc gc e.f3 e.f4 W (fun i hi=>⟨(HV5.out i hi).1.below hW,(HV5.out i hi).2⟩) HG.out (by omega) HEW.out (Kd.C_below HCG.out.1 b) HCG.out.2.1 (Kd.C_below HCG.out.2.2.1 b) HCG.out.2.2.2).mono fun e' w' ⟨A9,c9,h1,_,h3⟩=>⟨⟨_,h1⟩,h3⟩⟩
   refine (HFI.out w5 (RowKit.Below.refl _ _)).mono ?_
   rintro e' w6 ⟨C6,d6,rfl,HC6,hb6⟩
   obtain ⟨w7,hw7⟩:∃ w7,w7 = w6.alloc (.cells #[.int .u64 0,.int .u64 0,.int .u64 0,.slice C6 m d6,.slice none 0 0] 26):=⟨_,rfl⟩
   have HW7:=Hush.mk hw7
   have hb7:RowKit.Below w5.heap.size w5 w7:=by rw [hw7];exact hb6.alloc hb6.size _
   have HB7:=Hush.mk hb7
   have HK6:Hush (RowKit.Below w6.heap.size w6 w7):=⟨by rw [hw7];exact (RowKit.Below.refl _ _).alloc (Nat.le_refl _) _⟩
   obtain ⟨sb,hsb⟩:∃ sb,sb = w6.heap.size:=⟨_,rfl⟩
   have HSB:=Hush.mk hsb
   have HSX:Hush (∀ W,RowKit.Below w7.heap.size w7 W → W.cell? ⟨sb,0,none⟩ = some (.int .u64 0) ∧ W.cell? ⟨sb,1,none⟩ = some (.int .u64 0) ∧ W.cell? ⟨sb,2,none⟩ = some (.int .u64 0) ∧ W.cell? ⟨sb,3,none⟩ = some (.slice C6 m d6) ∧ W.cell? ⟨sb,4,none⟩ = some (.slice none 0 0)):=⟨fun W hW=>five_box w6 _ _ _ _ _ 26 sb hsb (by rw [← hw7];exact hW)⟩
   obtain ⟨p0,p1,p2,p3⟩:=HVX.out w7 hb7
   obtain ⟨q0,q1,q2,q3,q4⟩:=HEX.out w7 hb7
   rw [hw7] at p0 p1 p2 p3 q0 q1 q2 q3 q4
   clear hw7 hb7 hb6 hsb
   go_wp2_with fail
   rw [← HW7.out]
   clear p0 p1 p2 p3 q0 q1 q2 q3 q4
   refine (HAP.out w7 HB7.out).mono ?_
   rintro e' w8 ⟨⟨v8,rfl⟩,hb8⟩
   have HB8:Hush (RowKit.Below w5.heap.size w5 w8):=⟨HB7.out.trans (hb8.mono HB7.out.size)⟩
   have HB78:=Hush.mk hb8
   clear hb8 HAP
   go_wp2_with fail
   rw [← HSB.out]
   obtain ⟨w9,hw9⟩:∃ w9,w9 = w8.alloc (.cells #[.slice none 0 0,.slice none 0 0,.slice none 0 0,.slice none 0 0] 79):=⟨_,rfl⟩
   have hb9:RowKit.Below w8.heap.size w8 w9:=by rw [hw9];exact (RowKit.Below.refl _ _).alloc (Nat.le_refl _) _
   obtain ⟨nb,hnb⟩:∃ nb,nb = w8.heap.size:=⟨_,rfl⟩
   have HFN:Hush (Four w9 nb (fun _=>.slice none 0 0)):=⟨by rw [hw9,hnb];exact ⟨79,World.alloc_heap_new w8 _⟩⟩
   have HB9:Hush (RowKit.Below w5.heap.size w5 w9):=⟨HB8.out.trans (hb9.mono HB8.out.size)⟩
   have HB79:Hush (RowKit.Below w7.heap.size w7 w9):=⟨HB78.out.trans (hb9.mono HB78.out.size)⟩
   rw [← hw9,← hnb]
   clear hw9 hb9 hnb
   obtain ⟨R,hR⟩:∃ R,R = applyR (allCome F) [] noneF:=⟨_,rfl⟩
   have HRR:=Hush.mk hR
   clear hR
   have HSK:Hush (∀ W,RowKit.Below w9.heap.size w9 W → W.cell? ⟨nb,0,none⟩ = some (.slice none 0 0) ∧ W.cell? ⟨nb,1,none⟩ = some (.slice none 0 0) ∧ W.cell? ⟨nb,2,none⟩ = some (.slice none 0 0) ∧ W.cell? ⟨nb,3,none⟩ = some (.slice none 0 0) ∧ W.cell? ⟨vb,0,none⟩ = some (.slice (B 0) (F 0).length (c 0)) ∧ W.cell? ⟨vb,1,none⟩ = some (.slice (B 1) (F 1).length (c 1)) ∧ W.cell? ⟨vb,2,none⟩ = some (.slice (B 2) (F 2).length (c 2)) ∧ W.cell? ⟨vb,3,none⟩ = some (.slice (B 3) (F 3).length (c 3))):=⟨fun W hW=>by
    obtain ⟨p0,p1,p2,p3⟩:=HVX.out W (HB9.out.trans (hW.mono HB9.out.size))
    exact ⟨(HFN.out.below hW).cell 0 (by omega),(HFN.out.below hW).cell 1 (by omega),(HFN.out.below hW).cell 2 (by omega),(HFN.out.below hW).cell 3 (by omega),p0,p1,p2,p3⟩⟩
   have HTO:Hush (∀ W,RowKit.Below w9.heap.size w9 W → Calls Tryd.prog 46 #[.agg #[.slice (B 0) (F 0).length (c 0),.slice (B 1) (F 1).length (c 1),.slice (B 2) (F 2).length (c 2),.slice (B 3) (F 3).length (c 3)]] W fun e' w'=>∃ D d,e' = .returned (.agg #[.int .u64 0,.int .u64 0,.int .u64 0,.slice D m d,.slice none 0 0]) ∧ RowKit.Below W.heap.size W w' ∧ Hush (RowKit.Below w9.heap.size w9 w') ∧
     Hush (∀ W2,RowKit.Below w'.heap.size w' W2 → Calls Tryd.prog 47 #[.agg #[.slice none 0 0,.slice none 0 0,.slice none 0 0,.slice none 0 0],.agg #[.int .u64 0,.int .u64 0,.int .u64 0,.slice D m d,.slice none 0 0]] W2 fun e' w''=>∃ A8 c8,e' = .returned (.tuple #[.agg #[.slice (A8 0) (R.1 0).length (c8 0),.slice (A8 1) (R.1 1).length (c8 1),.slice (A8 2) (R.1 2).length (c8 2),.slice (A8 3) (R.1 3).length (c8 3)],.int .i64 R.2]) ∧ RowKit.Below W2.heap.size W2 w'' ∧ Hush (RowKit.Below w9.heap.size w9 w'') ∧ Hush (VerIn w'' R.1 A8 c8))):=⟨fun W hW=>by
    refine (HFI.out W (HB9.out.trans (hW.mono HB9.out.size))).mono fun e' w' ⟨D,d,h1,h2,h6⟩=>⟨D,d,h1,h6,⟨hW.trans (h6.mono hW.size)⟩,⟨fun W2 hW2=>?_⟩⟩
    have hb7:=hW.trans (h6.mono hW.size)
    have hb8:=hb7.trans (hW2.mono hb7.size)
    have hwf:∀ x ∈ allCome F,(Lit.int .u64 x.f1.f0).wf = true:=allCome_wf HG.out.wf
    have:=apply_on noneF 0 (fun _=>none) (fun _=>0) 0 0 0 D none d 0 (allCome F) [] W2 (fun i hi=>⟨.inl ⟨rfl,rfl⟩,Nat.le_refl _⟩) GoodF.none (by omega) hwf (Kd.C_below h2.out.1 hW2) h2.out.2 ⟨rfl,by simp,fun h=>by simp at h⟩ (by simp)
    rw [← HRR.out,← HM.out] at this
    exact this.mono fun e' w'' ⟨A8,c8,k1,k2,k3⟩=>⟨A8,c8,k1,k3,⟨hb8.trans (k3.mono hb8.size)⟩,⟨fun i hi=>⟨(k2 i hi).1.files,(k2 i hi).2⟩⟩⟩⟩
   go_cut [14,15] from 27 to 157 (fun s14 s15 wx=>∃ rb,s14 = .pointer (some ⟨rb,0,none⟩) ∧ s15 = .int .i64 R.2 ∧ Hush (MidSt w9 R.1 rb wx))
   case first=>
    go_region_held3 (fun W=>W.cell? ⟨nb,0,none⟩ = some (.slice none 0 0) ∧ W.cell? ⟨nb,1,none⟩ = some (.slice none 0 0) ∧ W.cell? ⟨nb,2,none⟩ = some (.slice none 0 0) ∧ W.cell? ⟨nb,3,none⟩ = some (.slice none 0 0) ∧ W.cell? ⟨vb,0,none⟩ = some (.slice (B 0) (F 0).length (c 0)) ∧ W.cell? ⟨vb,1,none⟩ = some (.slice (B 1) (F 1).length (c 1)) ∧ W.cell? ⟨vb,2,none⟩ = some (.slice (B 2) (F 2).length (c 2)) ∧ W.cell? ⟨vb,3,none⟩ = some (.slice (B 3) (F 3).length (c 3)))
     (exact HSK.out _ (by repeat (first | with_reducible exact RowKit.Below.refl _ _ | with_reducible exact HBa.out | with_reducible exact HBb.out | with_reducible refine RowKit.Below.drew ?_ | with_reducible refine below_alloc' ?_ (Nat.le_refl _) _ | (with_reducible refine RowKit.Below.setCell ?_ ?_ _;rotate_left;(first | exact Nat.le_refl _ | exact HBa.out.size | exact HBb.out.size)))))
     ((first
      | (go_at_call 46;with_reducible refine (HTO.out _ (by repeat (first | with_reducible exact RowKit.Below.refl _ _ | with_reducible refine RowKit.Below.drew ?_ | with_reducible refine below_alloc' ?_ (Nat.le_refl _) _))).mono ?_;rintro e' wa ⟨D,d,rfl,hba,HBa,HRa⟩;(first | have Ta:=Hush.mk (box_after hba) | have Ta:=Hush.mk (box_afterD hba) | skip);clear hba)
      | (go_at_call 47;with_reducible refine (HRa.out _ (by repeat (first | with_reducible exact RowKit.Below.refl _ _ | with_reducible refine RowKit.Below.drew ?_ | with_reducible refine below_alloc' ?_ (Nat.le_refl _) _))).mono ?_;rintro e' wg ⟨A8,c8,rfl,hbb,HBb,HVb⟩;(first | (have Tb:=Hush.mk (Ta.out.below hbb);have t0:=Tb.out.cell 0 (by omega);have t1:=Tb.out.cell 1 (by omega);have t2:=Tb.out.cell 2 (by omega);have t3:=Tb.out.cell 3 (by omega);have u0:=Tb.out.frozen 0;have u1:=Tb.out.frozen 1;have u2:=Tb.out.frozen 2;have u3:=Tb.out.frozen 3) | (have Tb:=Hush.mk (box_after hbb);have t0:=Tb.out.cell 0 (by omega);have t1:=Tb.out.cell 1 (by omega);have t2:=Tb.out.cell 2 (by omega);have t3:=Tb.out.cell 3 (by omega);have u0:=Tb.out.frozen 0;have u1:=Tb.out.frozen 1;have u2:=Tb.out.frozen 2;have u3:=Tb.out.frozen 3) | skip);clear hbb)))
    all_goals
     go_wp2_with fail
     go_meet
     case rel=>exact ⟨_,rfl,rfl,⟨by first | exact mid_new HBb.out HVb.out 79 | exact mid_set HBb.out (Nat.le_refl _) Tb.out HVb.out | exact mid_set HBb.out HBa.out.size Tb.out HVb.out⟩⟩
   case rest=>
    obtain ⟨rb,rfl,rfl,HMI⟩:=hcut
    clear HTO HSK
    obtain ⟨A8,c8,h8,hv8⟩:=HMI.out.four
    have bM:=HMI.out.below
    have HBc:Hush (RowKit.Below w5.heap.size w5 wc):=⟨HB9.out.trans (bM.mono HB9.out.size)⟩
    have HB7c:Hush (RowKit.Below w7.heap.size w7 wc):=⟨HB79.out.trans (bM.mono HB79.out.size)⟩
    have hag:=again_any HG.out.right
    rw [← HRR.out,← HM.out] at hag
    have HLM:Hush ((allCome F).length ≤ 9223372036854775806):=⟨by
     have h0:=HFL.out 0
     have h1:=HFL.out 1
     have h2:=HFL.out 2
     have h3:=HFL.out 3
     rw [← allLen_come]
     simp only [allLen]
     omega⟩
    clear bM HMI HRR
    obtain ⟨RF,er⟩:=R
    simp only at h8 hv8 hag
    have mixed:Tryd.prog.follows .mixedOrders = true:=by kernel_rfl
    go_wp2_with fail
    go_cut [81] from 27 to 157 (fun s81 wx=>s81 = .bool false ∧ Hush (RowKit.Below wc.heap.size wc wx))
    case first=>
     rcases hag with ⟨hz,heq⟩ | ⟨h200,hnz⟩
     ·subst hz
      have hv8':VerIn wc F A8 c8:=fun i hi=>by have:=hv8 i hi;rwa [heq i hi] at this
      have HSS:Hush (∀ W,RowKit.Below wc.heap.size wc W → S13 F B c A8 c8 C6 m d6 vb rb sb W):=⟨fun W hW=>by
       obtain ⟨p0,p1,p2,p3⟩:=HVX.out W (HBc.out.trans (hW.mono HBc.out.size))
       obtain ⟨q0,q1,q2,q3,q4⟩:=HSX.out W (HB7c.out.trans (hW.mono HB7c.out.size))
       have r0:=(h8.below hW).cell 0 (by omega)
       have r1:=(h8.below hW).cell 1 (by omega)
       have r2:=(h8.below hW).cell 2 (by omega)
       have r3:=(h8.below hW).cell 3 (by omega)
       rw [heq 0 (by omega)] at r0
       rw [heq 1 (by omega)] at r1
       rw [heq 2 (by omega)] at r2
       rw [heq 3 (by omega)] at r3
       exact ⟨p0,p1,p2,p3,r0,r1,r2,r3,q0,q1,q2,q3,q4⟩⟩
      have HS0:Hush (S13 F B c A8 c8 C6 m d6 vb rb sb wc.drew):=⟨HSS.out _ (RowKit.Below.refl _ _).drew⟩
      have HC:Hush (Calls Tryd.prog 49 #[.agg #[.slice (B 0) (F 0).length (c 0),.slice (B 1) (F 1).length (c 1),.slice (B 2) (F 2).length (c 2),.slice (B 3) (F 3).length (c 3)],.agg #[.slice (A8 0) (F 0).length (c8 0),.slice (A8 1) (F 1).length (c8 1),.slice (A8 2) (F 2).length (c8 2),.slice (A8 3) (F 3).length (c8 3)]] wc.drew fun e' w2=>e' = .returned (.bool true) ∧ Hush (S13 F B c A8 c8 C6 m d6 vb rb sb w2) ∧ Hush (Calls Tryd.prog 46 #[.agg #[.slice (B 0) (F 0).length (c 0),.slice (B 1) (F 1).length (c 1),.slice (B 2) (F 2).length (c 2),.slice (B 3) (F 3).length (c 3)]] w2 fun e' w3=>∃ D d,e' = .returned (.agg #[.int .u64 0,.int .u64 0,.int .u64 0,.slice D m d,.slice none 0 0]) ∧ Hush (S13 F B c A8 c8 C6 m d6 vb rb sb w3) ∧ Hush (Calls Tryd.prog 23 #[.agg #[.int .u64 0,.int .u64 0,.int .u64 0,.slice C6 m d6,.slice none 0 0],.agg #[.int .u64 0,.int .u64 0,.int .u64 0,.slice D m d,.slice none 0 0]] w3 fun e' w4=>e' = .returned (.bool true) ∧ Hush (S13 F B c A8 c8 C6 m d6 vb rb sb w4) ∧ Hush (RowKit.Below wc.heap.size wc w4)))):=⟨by
       refine (verSame_on F B A8 c c8 wc.drew (HVER.out _ HBc.out.drew) (hv8'.below (RowKit.Below.refl _ _).drew) HFL.out).mono fun e' w2 ⟨e2,hb2⟩=>⟨e2,?_⟩
       have hx2:RowKit.Below wc.heap.size wc w2:=(RowKit.Below.refl _ _).drew.trans hb2
       refine ⟨⟨HSS.out _ hx2⟩,⟨?_⟩⟩
       refine (HFI.out w2 (HBc.out.trans (hx2.mono HBc.out.size))).mono fun e' w3 ⟨D,d,e3,hD,hb3⟩=>⟨D,d,e3,?_⟩
       have hx3:=hx2.trans (hb3.mono hx2.size)
       refine ⟨⟨HSS.out _ hx3⟩,⟨?_⟩⟩
       have hsame:=editSame_on (allCome F) C6 D d6 d w3 (Kd.C_below (Kd.C_below HC6.out.1 HK6.out) (HB7c.out.trans (hx3.mono HB7c.out.size))) HC6.out.2 hD.out.1 hD.out.2 HLM.out
       rw [← HM.out] at hsame
       refine hsame.mono fun e' w4 ⟨e4,hb4⟩=>⟨e4,?_⟩
       have hx4:=hx3.trans (hb4.mono hx3.size)
       exact ⟨⟨HSS.out _ hx4⟩,⟨hx4⟩⟩⟩
      clear h8 hv8 hv8' heq
      obtain ⟨a0,a1,a2,a3,a4,a5,a6,a7,a8,a9,a10,a11,a12⟩:=HS0.out
      go_region_with (first | (go_at_call 23;with_reducible refine HC6a.out.mono ?_;rintro e' wz ⟨rfl,HS7,HEND⟩;obtain ⟨g0,g1,g2,g3,g4,g5,g6,g7,g8,g9,g10,g11,g12⟩:=HS7.out) | (go_at_call 46;with_reducible refine HC5.out.mono ?_;rintro e' wy ⟨D,d,rfl,HS6,HC6a⟩;obtain ⟨f0,f1,f2,f3,f4,f5,f6,f7,f8,f9,f10,f11,f12⟩:=HS6.out) | (go_at_call 49;with_reducible refine HC.out.mono ?_;rintro e' wx ⟨rfl,HS5,HC5⟩;obtain ⟨b0,b1,b2,b3,b4,b5,b6,b7,b8,b9,b10,b11,b12⟩:=HS5.out))
      all_goals
       go_wp2_with fail
       go_meet
       case rel=>exact ⟨by simp,HEND⟩
     ·have HSS:Hush (∀ W,RowKit.Below wc.heap.size wc W → S9 F B c C6 m d6 vb sb W):=⟨fun W hW=>by
       obtain ⟨p0,p1,p2,p3⟩:=HVX.out W (HBc.out.trans (hW.mono HBc.out.size))
       obtain ⟨q0,q1,q2,q3,q4⟩:=HSX.out W (HB7c.out.trans (hW.mono HB7c.out.size))
       exact ⟨p0,p1,p2,p3,q0,q1,q2,q3,q4⟩⟩
      have HS0:Hush (S9 F B c C6 m d6 vb sb wc.drew):=⟨HSS.out _ (RowKit.Below.refl _ _).drew⟩
      have HC:Hush (Calls Tryd.prog 48 #[.agg #[.slice (B 0) (F 0).length (c 0),.slice (B 1) (F 1).length (c 1),.slice (B 2) (F 2).length (c 2),.slice (B 3) (F 3).length (c 3)]] wc.drew fun e' w2=>e' = .returned (.int .i64 (m:Nat)) ∧ Hush (S9 F B c C6 m d6 vb sb w2) ∧ Hush (Calls Tryd.prog 46 #[.agg #[.slice (B 0) (F 0).length (c 0),.slice (B 1) (F 1).length (c 1),.slice (B 2) (F 2).length (c 2),.slice (B 3) (F 3).length (c 3)]] w2 fun e' w3=>∃ D d,e' = .returned (.agg #[.int .u64 0,.int .u64 0,.int .u64 0,.slice D m d,.slice none 0 0]) ∧ Hush (S9 F B c C6 m d6 vb sb w3) ∧ Hush (Calls Tryd.prog 23 #[.agg #[.int .u64 0,.int .u64 0,.int .u64 0,.slice C6 m d6,.slice none 0 0],.agg #[.int .u64 0,.int .u64 0,.int .u64 0,.slice D m d,.slice none 0 0]] w3 fun e' w4=>e' = .returned (.bool true) ∧ Hush (S9 F B c C6 m d6 vb sb w4) ∧ Hush (RowKit.Below wc.heap.size wc w4)))):=⟨by
       have hcnt:=allCount_on F B c wc.drew (HVER.out _ HBc.out.drew) HFL.out
       rw [← HM.out] at hcnt
       refine hcnt.mono fun e' w2 ⟨e2,hb2⟩=>⟨e2,?_⟩
       have hx2:RowKit.Below wc.heap.size wc w2:=(RowKit.Below.refl _ _).drew.trans hb2
       refine ⟨⟨HSS.out _ hx2⟩,⟨?_⟩⟩
       refine (HFI.out w2 (HBc.out.trans (hx2.mono HBc.out.size))).mono fun e' w3 ⟨D,d,e3,hD,hb3⟩=>⟨D,d,e3,?_⟩
       have hx3:=hx2.trans (hb3.mono hx2.size)
       refine ⟨⟨HSS.out _ hx3⟩,⟨?_⟩⟩
       have hsame:=editSame_on (allCome F) C6 D d6 d w3 (Kd.C_below (Kd.C_below HC6.out.1 HK6.out) (HB7c.out.trans (hx3.mono HB7c.out.size))) HC6.out.2 hD.out.1 hD.out.2 HLM.out
       rw [← HM.out] at hsame
       refine hsame.mono fun e' w4 ⟨e4,hb4⟩=>⟨e4,?_⟩
       have hx4:=hx3.trans (hb4.mono hx3.size)
       exact ⟨⟨HSS.out _ hx4⟩,⟨hx4⟩⟩⟩
      clear h8 hv8
      have h200z:decide ((m:Int) ≤ 200) = false:=decide_eq_false (by omega)
      have h200y:¬ ((m:Int) ≤ 200):=by omega
      have hner:(er == 0) = false:=by simpa using hnz
      have hner2:(er != 0) = true:=by simpa using hnz
      have hner3:decide (er = 0) = false:=by simpa using hnz
      obtain ⟨a0,a1,a2,a3,a4,a5,a6,a7,a8⟩:=HS0.out
      go_region_with (first | (go_at_call 23;with_reducible refine HC6a.out.mono ?_;rintro e' wz ⟨rfl,HS7,HEND⟩;obtain ⟨g0,g1,g2,g3,g4,g5,g6,g7,g8⟩:=HS7.out) | (go_at_call 46;with_reducible refine HC5.out.mono ?_;rintro e' wy ⟨D,d,rfl,HS6,HC6a⟩;obtain ⟨f0,f1,f2,f3,f4,f5,f6,f7,f8⟩:=HS6.out) | (go_at_call 48;with_reducible refine HC.out.mono ?_;rintro e' wx ⟨rfl,HS5,HC5⟩;obtain ⟨b0,b1,b2,b3,b4,b5,b6,b7,b8⟩:=HS5.out))
      all_goals
       go_wp2_with fail
       go_meet
       case rel=>exact ⟨by simp,HEND⟩
    case rest=>
     obtain ⟨rfl,HX⟩:=hcut
     have HBn:Hush (RowKit.Below w5.heap.size w5 wc):=⟨HBc.out.trans (HX.out.mono HBc.out.size)⟩
     clear HX hag h8 hv8 HFI HLM HB7c HBc
     obtain ⟨has,pl,UP,LOW,hU,hLo,hUw,hLw,hwh,h40⟩:=pick_whole F 1800 HG.out (by omega) level choice
     have HUL:=Hush.mk (And.intro hU hLo)
     have HUW:=Hush.mk (And.intro hUw hLw)
     have HWP:=Hush.mk hwh
     have H40:=Hush.mk h40
     clear hU hLo hUw hLw hwh h40
     obtain ⟨p0,p1,p2,p3⟩:=HVX.out wc HBn.out
     go_wp2_with fail
     clear p0 p1 p2 p3
     refine (H40.out B c wc (HVER.out wc HBn.out)).mono ?_
     rintro e' w11 ⟨BU,dU,BL,dL,rfl,rU,rL,hb11⟩
     obtain ⟨_,_,eU,fU,zU⟩:=rU
     cases eU
     obtain ⟨_,_,eL,fL,zL⟩:=rL
     cases eL
     have HB11:Hush (RowKit.Below w5.heap.size w5 w11):=⟨HBn.out.trans (hb11.mono HBn.out.size)⟩
     have HF11:=Hush.mk (And.intro fU (And.intro fL (And.intro zU zL)))
     clear fU fL zU zL hb11 H40
     have hmm:=@run_makeMap Tryd.prog
     cases has with
     | false=>
      go_wp2_with fail
      go_ret
      exact ⟨rfl,HBB.out.trans ((HB5.out.trans ((HB11.out.alloc HB11.out.size _).mono HB5.out.size)).mono HBB.out.size)⟩
     | true=>
      obtain ⟨hUne,lv,hlv,hlev,hlow,htop⟩:=HWP.out rfl
      have HLV:=Hush.mk (And.intro hlv (And.intro hlow htop))
      have HUN:=Hush.mk hUne
      clear HWP hUne hlow htop
      subst hlev
      go_wp2_with fail
      obtain ⟨pb,hpb⟩:∃ pb,pb = w11.heap.size:=⟨_,rfl⟩
      obtain ⟨w12,hw12⟩:∃ w12,w12 = w11.alloc (.cells #[.int .i64 pl,.slice BU UP.length dU,.slice BL LOW.length dL] 87):=⟨_,rfl⟩
      have z12:w12.heap.size = pb + 1:=by rw [hw12,size_alloc,hpb]
      obtain ⟨w13,hw13⟩:∃ w13,w13 = w12.alloc (.map #[] 0):=⟨_,rfl⟩
      have z13:w13.heap.size = pb + 2:=by rw [hw13,size_alloc,z12]
      have b12:RowKit.Below w11.heap.size w11 w12:=by rw [hw12];exact (RowKit.Below.refl _ _).alloc (Nat.le_refl _) _
      have b13:RowKit.Below w12.heap.size w12 w13:=by rw [hw13];exact (RowKit.Below.refl _ _).alloc (Nat.le_refl _) _
      have HB13:Hush (RowKit.Below w5.heap.size w5 w13):=⟨HB11.out.trans ((b12.trans (b13.mono b12.size)).mono HB11.out.size)⟩
      have HSE:Hush (Seen w13 (pb + 1) []):=⟨by
       have:=Seen.made w12
       rw [z12,← hw13] at this
       exact this⟩
      have HTH:Hush (Three w13 pb (.int .i64 pl) (.slice BU UP.length dU) (.slice BL LOW.length dL)):=⟨by
       have:Three w12 pb (.int .i64 pl) (.slice BU UP.length dU) (.slice BL LOW.length dL):=⟨87,by rw [hw12,hpb];exact World.alloc_heap_new w11 _⟩
       exact this.below b13⟩
      have HF13:Hush (FilesAt w13 BU UP ∧ FilesAt w13 BL LOW ∧ UP.length ≤ dU ∧ LOW.length ≤ dL):=⟨(HF11.out.1.below b12).below b13,(HF11.out.2.1.below b12).below b13,HF11.out.2.2⟩
      have HZ13:=Hush.mk z13
      have HPB:Hush (w5.heap.size ≤ pb):=⟨by rw [hpb];exact HB11.out.size⟩
      rw [← hpb,← hw12,← hw13]
      clear hpb hw12 hw13 z12 z13 b12 b13 HF11 HB11 hmm
      obtain ⟨i0,hi,hz0,hz1,hz2⟩:=info_parts info97'
      have hUpos:0 < UP.length:=List.length_pos_iff.2 HUN.out
      obtain ⟨adU,hadU,hcU⟩:=cells_of HF13.out.1 hUpos
      subst hadU
      have HSK:Hush (∀ W,RowKit.Below w13.heap.size w13 W → W.cell? ⟨pb,1,none⟩ = some (.slice (some adU) UP.length dU) ∧ W.cell? ⟨pb,2,none⟩ = some (.slice BL LOW.length dL)):=⟨fun W hW=>⟨(HTH.out.below hW).cells.2.1,(HTH.out.below hW).cells.2.2.1⟩⟩
      have HCU:Hush (∀ W,RowKit.Below w13.heap.size w13 W → ∀ j u,(cellsF UP)[j]? = some u → W.cell? (adU.add j) = some u):=⟨fun W hW j u hu=>(hW.cell (World.block_lt_of_cell? w13 _ (hcU j u hu))).trans (hcU j u hu)⟩
      have HUL2:Hush (UP.length ≤ 100000 ∧ LOW.length ≤ 100000 ∧ 0 < UP.length):=⟨HUL.out.1,HUL.out.2,hUpos⟩
      clear hcU hUpos
      go_cut [98,99,100] from 27 to 157 (fun s98 s99 s100 wx=>∃ g cap,s98 = .slice (some ⟨g,0,none⟩) (UP ++ LOW).length cap ∧ s99 = .int .i64 ((UP ++ LOW).length:Nat) ∧ s100 = .int .i64 0 ∧ Hush (FilesAt wx (some ⟨g,0,none⟩) (UP ++ LOW) ∧ w13.heap.size ≤ g ∧ RowKit.Below w13.heap.size w13 wx))
      case first=>
       by_cases hL0:LOW.length = 0
       ·have hLn:LOW = []:=List.eq_nil_of_length_eq_zero hL0
        have HLE:=Hush.mk hLn
        clear hLn
        rw [hL0] at HSK ⊢
        clear hL0
        first | (go_region_held3 (fun W=>W.cell? ⟨pb,1,none⟩ = some (.slice (some adU) UP.length dU) ∧ W.cell? ⟨pb,2,none⟩ = some (.slice BL 0 dL)) (exact HSK.out _ (by repeat (first | with_reducible exact RowKit.Below.refl _ _ | with_reducible exact HB15.out | with_reducible exact HB16.out | with_reducible refine RowKit.Below.drew ?_ | with_reducible refine below_alloc' ?_ (Nat.le_refl _) _)))
         ((first | (refine step_append_zero rfl _ _ 76 rfl 97 i0 Tryd.underlying76 hi g1 UP.length cap1 BL dL rfl (by first | rfl | simp [Act.eval,Act.put]) (own_le HOWN.out) ?_) | (refine step_append_lies (w:=_) rfl _ _ 76 rfl w13.heap.size 97 i0 (.agg #[.int .u64 0,.int .u64 0,.int .u64 0,.string ⟨#[]⟩,.string ⟨#[]⟩]) 5 56 Tryd.underlying76 hi hz0 hz1 hz2 rfl (by decide) (.slice (some ⟨w13.heap.size,0,none⟩) 0 0) 0 [] rfl (World.ownsRow_lit w13.drew #[] 0 (Nat.le_refl _) (by decide) rfl) adU UP.length dU (cellsF UP) rfl (cellsF_len UP) (HCU.out _ (((RowKit.Below.refl _ _).drew).alloc (Nat.le_refl _) _)) (cellsF_one' UP) HUL2.out.2.2 (by unfold maxLen;have:=HUL2.out.1;omega) (by have:=HUL2.out.1;omega) (((RowKit.Below.refl w13.heap.size w13).drew).alloc (Nat.le_refl _) _).size _ rfl ?_;intro g1 cap1 w15 hown hg hat hlt;have HB15:Hush (RowKit.Below w13.heap.size w13 w15):=⟨(((RowKit.Below.refl w13.heap.size w13).drew).alloc (Nat.le_refl _) _).grown hg (((RowKit.Below.refl w13.heap.size w13).drew).alloc (Nat.le_refl _) _).size (fun k hk=>by cases hk;exact Nat.le_refl _)⟩;(try rw [Nat.zero_add] at hown);(try rw [List.nil_append] at hown);(try rw [Nat.zero_add]);have HOWN:=Hush.mk hown;clear hown hg hat hlt)))) | fail
        all_goals
         go_wp2_with fail
         go_meet
         case rel=>exact ⟨g1,cap1,by rw [HLE.out];simp,by rw [HLE.out];simp,rfl,⟨by rw [HLE.out,List.append_nil];exact own_filesAt HOWN.out,own_ge HOWN.out,HB15.out⟩⟩
       ·obtain ⟨adL,hadL,hcL⟩:=cells_of HF13.out.2.1 (by omega)
        subst hadL
        have HCL:Hush (∀ W,RowKit.Below w13.heap.size w13 W → ∀ j u,(cellsF LOW)[j]? = some u → W.cell? (adL.add j) = some u):=⟨fun W hW j u hu=>(hW.cell (World.block_lt_of_cell? w13 _ (hcL j u hu))).trans (hcL j u hu)⟩
        have HLP:Hush (0 < LOW.length):=⟨by omega⟩
        clear hcL hL0
        first | (go_region_held3 (fun W=>W.cell? ⟨pb,1,none⟩ = some (.slice (some adU) UP.length dU) ∧ W.cell? ⟨pb,2,none⟩ = some (.slice (some adL) LOW.length dL)) (exact HSK.out _ (by repeat (first | with_reducible exact RowKit.Below.refl _ _ | with_reducible exact HB15.out | with_reducible exact HB16.out | with_reducible refine RowKit.Below.drew ?_ | with_reducible refine below_alloc' ?_ (Nat.le_refl _) _)))
         ((first | (refine step_append_lies (w:=_) rfl _ _ 76 rfl w13.heap.size 97 i0 (.agg #[.int .u64 0,.int .u64 0,.int .u64 0,.string ⟨#[]⟩,.string ⟨#[]⟩]) 5 56 Tryd.underlying76 hi hz0 hz1 hz2 rfl (by decide) (.slice (some ⟨g1,0,none⟩) UP.length cap1) UP.length (cellsF UP) rfl HOWN.out adL LOW.length dL (cellsF LOW) rfl (cellsF_len LOW) (HCL.out _ HB15.out) (cellsF_one' LOW) HLP.out (by unfold maxLen;have:=HUL2.out;omega) (by have:=HUL2.out;omega) HB15.out.size _ rfl ?_;intro g2 cap2 w16 hown2 hg hat hlt;have HB16:Hush (RowKit.Below w13.heap.size w13 w16):=⟨HB15.out.grown hg HB15.out.size (fun k hk=>by cases hk;exact own_ge HOWN.out)⟩;have HOWN2:=Hush.mk hown2;clear hown2 hg hat hlt) | (refine step_append_lies (w:=_) rfl _ _ 76 rfl w13.heap.size 97 i0 (.agg #[.int .u64 0,.int .u64 0,.int .u64 0,.string ⟨#[]⟩,.string ⟨#[]⟩]) 5 56 Tryd.underlying76 hi hz0 hz1 hz2 rfl (by decide) (.slice (some ⟨w13.heap.size,0,none⟩) 0 0) 0 [] rfl (World.ownsRow_lit w13.drew #[] 0 (Nat.le_refl _) (by decide) rfl) adU UP.length dU (cellsF UP) rfl (cellsF_len UP) (HCU.out _ (((RowKit.Below.refl _ _).drew).alloc (Nat.le_refl _) _)) (cellsF_one' UP) HUL2.out.2.2 (by unfold maxLen;have:=HUL2.out.1;omega) (by have:=HUL2.out.1;omega) (((RowKit.Below.refl w13.heap.size w13).drew).alloc (Nat.le_refl _) _).size _ rfl ?_;intro g1 cap1 w15 hown hg hat hlt;have HB15:Hush (RowKit.Below w13.heap.size w13 w15):=⟨(((RowKit.Below.refl w13.heap.size w13).drew).alloc (Nat.le_refl _) _).grown hg (((RowKit.Below.refl w13.heap.size w13).drew).alloc (Nat.le_refl _) _).size (fun k hk=>by cases hk;exact Nat.le_refl _)⟩;(try rw [Nat.zero_add] at hown);(try rw [List.nil_append] at hown);(try rw [Nat.zero_add]);have HOWN:=Hush.mk hown;clear hown hg hat hlt)))) | fail
        all_goals
         go_wp2_with fail
         go_meet
         case rel=>exact ⟨g2,cap2,by simp,by simp,rfl,⟨own_filesAt (L:=UP ++ LOW) (by rw [List.length_append,cellsF_append];exact HOWN2.out),own_ge HOWN2.out,HB16.out⟩⟩
      case rest=>
       obtain ⟨g,cap,rfl,rfl,rfl,HR⟩:=hcut
       obtain ⟨ALL,hALL⟩:∃ ALL,ALL = UP ++ LOW:=⟨_,rfl⟩
       rw [← hALL] at HR ⊢
       have HALL:=Hush.mk hALL
       have HAW:Hush (∀ f ∈ ALL,(Lit.int .u64 f.num).wf = true):=⟨fun f hf=>by
        rw [hALL] at hf
        rcases List.mem_append.1 hf with hf | hf
        ·exact HUW.out.1 f hf
        ·exact HUW.out.2 f hf⟩
       have HAL:Hush (ALL.length ≤ 200000):=⟨by rw [hALL,List.length_append];have:=HUL2.out;omega⟩
       have H0:Hush (NumSt w5 pb g (.int .i64 pl) (.slice (some adU) UP.length dU) (.slice BL LOW.length dL) (some adU) UP ALL 0 wc):=⟨by
        have hb:=HR.out.2.2
        exact ⟨HB13.out.trans (hb.mono HB13.out.size),HPB.out,HTH.out.below hb,HF13.out.1.below hb,HR.out.1,[],HSE.out.below hb,by simp,by simp⟩⟩
       clear hALL HSK HCU HF13 HTH HSE HR HB13 HZ13
       go_wp2_with fail
       go_loopw [100] (fun iv wr=>∃ k:Nat,iv = .int .i64 k ∧ k ≤ ALL.length ∧ Hush (NumSt w5 pb g (.int .i64 pl) (.slice (some adU) UP.length dU) (.slice BL LOW.length dL) (some adU) UP ALL k wr)) (fun iv _=>ALL.length - (intOf iv).toNat)
       case atStart=>exact ⟨0,by go_num,by omega,H0⟩
       case round=>
        obtain ⟨k,rfl,hk,HK⟩:=hrel
        by_cases hlt:k < ALL.length
        ·have hltz:(k:Int) < (ALL.length:Int):=by omega
         obtain ⟨kb,hkb⟩:∃ kb:Int,kb = 200000:=⟨_,rfl⟩
         have hkb1:(k:Int) < kb:=by have:=HAL.out;omega
         have hkb2:kb ≤ 9000000:=by omega
         obtain ⟨f,hf⟩:∃ f,ALL[k]? = some f:=⟨_,List.getElem?_eq_getElem hlt⟩
         have hw:=HAW.out f (List.mem_of_getElem? hf)
         obtain ⟨ad,hAd,hat⟩:=HK.out.all (by omega)
         obtain rfl:=Option.some.inj hAd
         have hfx:=hat k f hf
         have HST:Hush (∀ o:Obj,∃ W',(Instr.mapUpdate 103 (.map (some (pb + 1))) (.int .u64 f.num) (.bool true)).run Tryd.prog (wr.alloc o) = .ok () W' ∧ NumSt w5 pb g (.int .i64 pl) (.slice (some adU) UP.length dU) (.slice BL LOW.length dL) (some adU) UP ALL (k + 1) W'):=⟨fun o=>
          (HK.out.step ((RowKit.Below.refl _ _).alloc (Nat.le_refl _) o)).store hf hw (by omega)⟩
         clear hkb hf hw hat hAd
         obtain ⟨f0,f1,f2,f3,f4⟩:=f
         simp only [FileAt,Addr.add_lit,Nat.zero_add] at hfx
         obtain ⟨y0,y1,y2,y3,y4⟩:=hfx
         simp only at HST
         obtain ⟨W',hrun,hnx⟩:=HST.out (.cells #[.int .u64 f0,.int .u64 f1,.int .u64 f2,.string f3,.string f4] 97)
         have HNX:=Hush.mk hnx
         clear hnx HST
         go_wp2
         go_roundw
         case rel=>exact ⟨k + 1,by go_num,by omega,HNX⟩
         case measure=>simp [intOf];omega
        ·obtain rfl:k = ALL.length:=by omega
         have p1:=HK.out.three.cells.2.1
         clear H0
         go_wp2_with fail
         have HKE:=HK
         clear p1 hk hlt
         obtain ⟨wE,hwE⟩:∃ wE,wE = wr:=⟨_,rfl⟩
         subst hwE
         go_loopw [111] (fun iv wr=>∃ j:Nat,iv = .int .i64 j ∧ j ≤ UP.length ∧ Hush (RowKit.Below wE.heap.size wE wr)) (fun iv _=>UP.length - (intOf iv).toNat)
         case atStart=>exact ⟨0,by go_num,by omega,⟨RowKit.Below.refl _ _⟩⟩
         case round=>
          obtain ⟨j,rfl,hj,HJ⟩:=hrel
          by_cases hjt:j < UP.length
          ·have hjtz:(j:Int) < (UP.length:Int):=by omega
           obtain ⟨jb,hjb⟩:∃ jb:Int,jb = 200000:=⟨_,rfl⟩
           have hjb1:(j:Int) < jb:=by have:=HUL2.out;omega
           have hjb2:jb ≤ 9000000:=by omega
           obtain ⟨f,hf⟩:∃ f,UP[j]? = some f:=⟨_,List.getElem?_eq_getElem hjt⟩
           have hfu:f ∈ UP:=List.mem_of_getElem? hf
           obtain ⟨au,hau,hatu⟩:=HKE.out.up (by omega)
           obtain rfl:=Option.some.inj hau
           have hfx:=(hatu j f hf).below HJ.out
           have hlo:=HLV.out.2.1 f hfu
           have hto:=fun h=>HLV.out.2.2 h f hfu
           clear hjb hf hfu hatu hau
           obtain ⟨f0,f1,f2,f3,f4⟩:=f
           simp only [FileAt] at hfx
           simp only at hlo hto
           obtain ⟨y0,y1,y2,y3,y4⟩:=hfx
           have HLO:=Hush.mk hlo
           have HTP:=Hush.mk hto
           clear hlo hto
           have hlv0:(0:Int) ≤ (lv:Int):=by omega
           have hlv3:(lv:Int) < 3:=by have:=HLV.out.1;omega
           have HOV:Hush (∀ W,RowKit.Below wE.heap.size wE W → Calls Tryd.prog 50 #[.agg #[.slice (B 0) (F 0).length (c 0),.slice (B 1) (F 1).length (c 1),.slice (B 2) (F 2).length (c 2),.slice (B 3) (F 3).length (c 3)],.int .i64 ((lv:Int) + 1),.string f3,.string f4] W fun e' w'=>∃ (An:Option Addr) (nX cn:Nat) (X:List FileV),e' = .returned (.slice An nX cn) ∧ Hush (nX = X.length ∧ FilesAt w' An X ∧ (∀ x ∈ X,x ∈ ALL) ∧ nX ≤ 100000) ∧ RowKit.Below W.heap.size W w'):=⟨fun W hW=>by
            have hb:=HKE.out.below.trans (hW.mono HKE.out.below.size)
            have hov:=overlap_on (lv + 1) (by have:=HLV.out.1;omega) f3 f4 F B c W (HVER.out W hb) (HFL.out _)
            rw [show ((lv + 1:Nat):Int) = (lv:Int) + 1 from rfl] at hov
            refine hov.mono fun e' w' ⟨⟨v,h1,An,cn,h2,h3,_⟩,h5⟩=>⟨An,_,cn,_,h1.trans (by rw [h2]),⟨rfl,h3,fun x hx=>?_,Nat.le_trans (List.length_filter_le _ _) (HFL.out _)⟩,h5⟩
            rw [HALL.out]
            exact List.mem_append_right _ (HLO.out x hx)⟩
           have HOV0:Hush (lv = 0 → ∀ W,RowKit.Below wE.heap.size wE W → Calls Tryd.prog 50 #[.agg #[.slice (B 0) (F 0).length (c 0),.slice (B 1) (F 1).length (c 1),.slice (B 2) (F 2).length (c 2),.slice (B 3) (F 3).length (c 3)],.int .i64 0,.string f3,.string f4] W fun e' w'=>∃ (An:Option Addr) (nX cn:Nat) (X:List FileV),e' = .returned (.slice An nX cn) ∧ Hush (nX = X.length ∧ FilesAt w' An X ∧ (∀ x ∈ X,x ∈ ALL) ∧ nX ≤ 100000) ∧ RowKit.Below W.heap.size W w'):=⟨fun hz W hW=>by
            have hb:=HKE.out.below.trans (hW.mono HKE.out.below.size)
            have hov:=overlap_on 0 (by have:=HLV.out.1;omega) f3 f4 F B c W (HVER.out W hb) (HFL.out _)
            refine hov.mono fun e' w' ⟨⟨v,h1,An,cn,h2,h3,_⟩,h5⟩=>⟨An,_,cn,_,h1.trans (by rw [h2]),⟨rfl,h3,fun x hx=>?_,Nat.le_trans (List.length_filter_le _ _) (HFL.out _)⟩,h5⟩
            rw [HALL.out]
            exact List.mem_append_left _ (HTP.out hz x hx)⟩
           obtain ⟨w14,hw14⟩:∃ w14,w14 = wr.alloc (.cells #[.int .u64 f0,.int .u64 f1,.int .u64 f2,.string f3,.string f4] 97):=⟨_,rfl⟩
           obtain ⟨fb,hfb⟩:∃ fb,fb = wr.heap.size:=⟨_,rfl⟩
           have HBOX:Hush (∀ W,RowKit.Below w14.heap.size w14 W → W.cell? ⟨fb,0,none⟩ = some (.int .u64 f0) ∧ W.cell? ⟨fb,1,none⟩ = some (.int .u64 f1) ∧ W.cell? ⟨fb,2,none⟩ = some (.int .u64 f2) ∧ W.cell? ⟨fb,3,none⟩ = some (.string f3) ∧ W.cell? ⟨fb,4,none⟩ = some (.string f4)):=⟨fun W hW=>five_box wr _ _ _ _ _ 97 fb hfb (by rw [← hw14];exact hW)⟩
           have HBW:Hush (RowKit.Below wE.heap.size wE w14):=⟨by rw [hw14];exact HJ.out.alloc HJ.out.size _⟩
           have HW14:=Hush.mk hw14
           have HFB:=Hush.mk hfb
           obtain ⟨p0,p1,p2,p3⟩:=HVX.out _ (HKE.out.below.trans (HBW.out.mono HKE.out.below.size))
           rw [hw14] at p0 p1 p2 p3
           clear hw14 hfb
           go_wp2_with fail
           rw [← HW14.out,← HFB.out]
           refine (HOV.out _ (HBW.out)).mono ?_
           rintro e' wo ⟨An,nX,cn,X,rfl,HX,hbo⟩
           have HBF:Hush (RowKit.Below w14.heap.size w14 wo):=⟨hbo⟩
           have HBO:Hush (RowKit.Below wE.heap.size wE wo):=⟨(HBW.out).trans (hbo.mono (HBW.out).size)⟩
           clear hbo p0 p1 p2 p3
           go_wp2_with fail
           go_loopw [124] (fun iv wr=>∃ q:Nat,iv = .int .i64 q ∧ q ≤ nX ∧ Hush (RowKit.Below wo.heap.size wo wr)) (fun iv _=>nX - (intOf iv).toNat)
           case atStart=>exact ⟨0,by go_num,by omega,⟨RowKit.Below.refl _ _⟩⟩
           case round=>
            obtain ⟨q,rfl,hq,HQ⟩:=hrel
            by_cases hqt:q < nX
            ·have hqtz:(q:Int) < (nX:Int):=by omega
             obtain ⟨kb,hkb⟩:∃ kb:Int,kb = 200000:=⟨_,rfl⟩
             have hkb1:(q:Int) < kb:=by have:=HX.out.2.2.2;omega
             have hkb2:kb ≤ 9000000:=by omega
             obtain ⟨x,hx⟩:∃ x,X[q]? = some x:=⟨_,List.getElem?_eq_getElem (by have:=HX.out.1;omega)⟩
             have hxa:=HX.out.2.2.1 x (List.mem_of_getElem? hx)
             obtain ⟨ax,hax,hatx⟩:=HX.out.2.1 (by have:=HX.out.1;omega)
             subst hax
             have hxx:=(hatx q x hx).below HQ.out
             have hlk:∀ o:Obj,(Instr.lookup 103 (.map (some (pb + 1))) (.int .u64 x.num) false).run Tryd.prog (wr.alloc o) = .ok (.bool true) (wr.alloc o):=fun o=>HKE.out.look (HBO.out.trans ((HQ.out.alloc HQ.out.size o).mono HBO.out.size)) hxa (HAW.out x hxa)
             have HNX:Hush (∀ o:Obj,RowKit.Below wo.heap.size wo (wr.alloc o)):=⟨fun o=>HQ.out.alloc HQ.out.size o⟩
             clear hkb hx hxa hatx
             obtain ⟨x0,x1,x2,x3,x4⟩:=x
             simp only [FileAt] at hxx
             obtain ⟨y0,y1,y2,y3,y4⟩:=hxx
             simp only at hlk
             go_wp2
             go_roundw
             case rel=>exact ⟨q + 1,by go_num,by omega,⟨HNX.out _⟩⟩
             case measure=>simp [intOf];omega
            ·obtain rfl:q = nX:=by omega
             have HBQ:Hush (RowKit.Below wE.heap.size wE wr):=⟨HBO.out.trans (HQ.out.mono HBO.out.size)⟩
             have HBG:Hush (RowKit.Below w14.heap.size w14 wr):=⟨HBF.out.trans (HQ.out.mono HBF.out.size)⟩
             clear HQ HX HBO
             by_cases hz:lv = 0
             ·have hz1:((lv:Int) == 0) = true:=by simp [hz]
              have hz2:decide ((lv:Int) = 0) = true:=by simp [hz]
              have HZ:=Hush.mk hz
              clear hz
              obtain ⟨p0,p1,p2,p3⟩:=HVX.out wr (HKE.out.below.trans (HBQ.out.mono HKE.out.below.size))
              obtain ⟨b0,b1,b2,b3,b4⟩:=HBOX.out wr HBG.out
              go_wp2_with fail
              refine (HOV0.out HZ.out _ (HBQ.out)).mono ?_
              rintro e' wo ⟨An,nX,cn,X,rfl,HX,hbo⟩
              have HBO:Hush (RowKit.Below wE.heap.size wE wo):=⟨(HBQ.out).trans (hbo.mono (HBQ.out).size)⟩
              clear hbo p0 p1 p2 p3
              go_wp2_with fail
              go_loopw [143] (fun iv wr=>∃ q:Nat,iv = .int .i64 q ∧ q ≤ nX ∧ Hush (RowKit.Below wo.heap.size wo wr)) (fun iv _=>nX - (intOf iv).toNat)
              case atStart=>exact ⟨0,by go_num,by omega,⟨RowKit.Below.refl _ _⟩⟩
              case round=>
               obtain ⟨q,rfl,hq,HQ⟩:=hrel
               by_cases hqt:q < nX
               ·have hqtz:(q:Int) < (nX:Int):=by omega
                obtain ⟨kb,hkb⟩:∃ kb:Int,kb = 200000:=⟨_,rfl⟩
                have hkb1:(q:Int) < kb:=by have:=HX.out.2.2.2;omega
                have hkb2:kb ≤ 9000000:=by omega
                obtain ⟨x,hx⟩:∃ x,X[q]? = some x:=⟨_,List.getElem?_eq_getElem (by have:=HX.out.1;omega)⟩
                have hxa:=HX.out.2.2.1 x (List.mem_of_getElem? hx)
                obtain ⟨ax,hax,hatx⟩:=HX.out.2.1 (by have:=HX.out.1;omega)
                subst hax
                have hxx:=(hatx q x hx).below HQ.out
                have hlk:∀ o:Obj,(Instr.lookup 103 (.map (some (pb + 1))) (.int .u64 x.num) false).run Tryd.prog (wr.alloc o) = .ok (.bool true) (wr.alloc o):=fun o=>HKE.out.look (HBO.out.trans ((HQ.out.alloc HQ.out.size o).mono HBO.out.size)) hxa (HAW.out x hxa)
                have HNX:Hush (∀ o:Obj,RowKit.Below wo.heap.size wo (wr.alloc o)):=⟨fun o=>HQ.out.alloc HQ.out.size o⟩
                clear hkb hx hxa hatx
                obtain ⟨x0,x1,x2,x3,x4⟩:=x
                simp only [FileAt] at hxx
                obtain ⟨y0,y1,y2,y3,y4⟩:=hxx
                simp only at hlk
                go_wp2
                go_roundw
                case rel=>exact ⟨q + 1,by go_num,by omega,⟨HNX.out _⟩⟩
                case measure=>simp [intOf];omega
               ·obtain rfl:q = nX:=by omega
                have HBQ:Hush (RowKit.Below wE.heap.size wE wr):=⟨HBO.out.trans (HQ.out.mono HBO.out.size)⟩
                clear HQ HX HBO
                go_wp2_with fail
                go_roundw
                case rel=>exact ⟨j + 1,by go_num,by omega,HBQ⟩
                case measure=>simp [intOf];omega
             ·have hz1:((lv:Int) == 0) = false:=by simp [hz]
              have hz2:decide ((lv:Int) = 0) = false:=by simp [hz]
              have hz3:¬ ((lv:Int) = 0):=by omega
              clear hz
              go_wp2_with fail
              go_roundw
              case rel=>exact ⟨j + 1,by go_num,by omega,HBQ⟩
              case measure=>simp [intOf];omega
          ·obtain rfl:j = UP.length:=by omega
           have p1:=(HKE.out.three.below HJ.out).cells.2.1
           have hup1:=HUL2.out.2.2
           have hup2:(0:Int) < (UP.length:Int):=by omega
           have hup3:decide ((0:Int) < (UP.length:Int)) = true:=decide_eq_true hup2
           have HEND:Hush (RowKit.Below w.heap.size w wr):=⟨by
            have b:=HKE.out.below.trans (HJ.out.mono HKE.out.below.size)
            exact HBB.out.trans ((HB5.out.trans (b.mono HB5.out.size)).mono HBB.out.size)⟩
           go_wp2_with fail
           go_ret
           exact ⟨by simp [hup1],HEND.out⟩
end Go.Proofs.YteilnbnnhocciaaDoor.V

/-! V67 -/
namespace Go.Proofs.YteilnbnnhocciaaDoor.V
open Go.ChangeShapes Go.WideShapes Go.ChangeAt Go.RowKit Go.Lib Go.Shelf
open Go.ChangeMaps (open_string shut_string)
open Go.Proofs.YteilnbnnhocciaaDoorM Go.Proofs.YteilnbnnhocciaaDoorW.PrintWords Go.Proofs.YteilnbnnhocciaaDoor.KV
theorem whole_laid (os:Os) (args:Array Value):laidMet Tryd.prog Rows.versionWholeRow.laid ((laidWorld os).forCall (fun _ _=>0) ⟨#[],args,[]⟩).memory:=
 (LaidIn.of_run [2,4,5] 8 (by kernel_rfl) (by kernel_rfl) (by kernel_rfl) (by kernel_rfl)).met
set_option maxRecDepth 100000 in
theorem open26 {H:Type} {enc:TypeId × Value → H} {W:World} {base base':Nat} {sp:Nat → Bool} {held:Bool} {v:Value} {d:DataW H} {p:List MemPlace}
  (hv:Value.okWide Tryd.prog W .any base 26 v) (h:DataW.Trod enc Tryd.prog W base' sp held 26 v d p) :
  ∃ (e:S26) (A:Option Addr) (c:Nat) (A':Option Addr) (c':Nat),v = .agg #[.int .u64 e.f0,.int .u64 e.f1,.int .u64 e.f2,.slice A e.f3.length c,.slice A' e.f4.length c'] ∧ (∀ a ∈ e.f3,(Lit.int .u64 a.f1.f0).wf = true) ∧ Kd.C k107 W A e.f3.length e.f3 ∧ e.f3.length ≤ c ∧ Kd.C k111 W A' e.f4.length e.f4 ∧ e.f4.length ≤ c':=by
 obtain ⟨cs,rfl,_⟩:=okWide_struct Tryd.underlying26 hv
 obtain ⟨m,hm⟩:=h
 obtain ⟨⟨a,b,e,l,l'⟩,hK,hG⟩:=opens26 enc W base' sp held m _ _ hm
 obtain ⟨_,_,hcs,rfl,_,_,rfl,rfl,_,_,rfl,rfl,_,_,rfl,⟨A,c,rfl,hl,hC⟩,⟨A',c',rfl,hl',hC'⟩⟩:=hK
 refine ⟨⟨a,b,e,l,l'⟩,A,c,A',c',?_,hG,hC,hl,hC',hl'⟩
 simp only [Value.cells] at hcs
 obtain ⟨cs⟩:=cs
 simp at hcs
 subst hcs
 rfl
set_option maxRecDepth 100000 in
theorem whole_lifted (os:Os) (started:os.Started) (H:Type) (enc:TypeId × Value → H) :
  ReturnsInHanded {} Tryd.checked os 12 .any (fun w args=>(Rows.versionWholeSpec.pre enc Tryd.prog Tryd.f12 [] false w args ∧ laidMet Tryd.prog Rows.versionWholeRow.laid w) ∧ sizedMet enc Tryd.prog Tryd.f12 (OpenSpec.ofChange Rows.versionWholeSpec) false w args)
   (Rows.versionWholeSpec.post enc Tryd.prog Tryd.f12 false true false false):=by
 refine returnsInHanded_of_change_and (C:=Tryd.checked) (X:=fun w _=>laidMet Tryd.prog Rows.versionWholeRow.laid w) (fun _ _ _ hh h=>h.of_heap hh) own started (by kernel_rfl) Tryd.func12
  (ChangeSpec.witness_at (enc:=enc) (C:=Tryd.checked) (os:=os) (X:=fun w _=>laidMet Tryd.prog Rows.versionWholeRow.laid w) false (laidWorld os)
   #[.slice none 0 0,.agg #[.int .u64 0,.int .u64 0,.int .u64 0,.slice none 0 0,.slice none 0 0],.int .i64 0,.int .i64 0] 8
   rfl (by kernel_rfl) (by kernel_rfl) (by kernel_rfl) (by kernel_rfl) (by kernel_rfl) (whole_laid os _)) ?_
 intro W base args ds gs before hval0 hW hcnd hsz0 _ _
 have hval:∀ (j:Nat) t v,Tryd.f12.params[j]? = some t → args[j]? = some v → Value.okWide Tryd.prog W .any base t v:=hval0
 have hW':=hW
 obtain ⟨p,q,hA0,hV,rfl,hfz,hnd⟩:=hW
 have hA:DataW.TrodAll enc Tryd.prog W 0 (fun _=>true) true Tryd.f12.params.toList args.toList ds p:=hA0
 rw [Tryd.params12] at hA hval
 obtain ⟨v0,v1,v2,v3,d0,d1,d2,d3,p0,p1,p2,p3,rfl,rfl,rfl,h0,h1,h2,h3⟩:=trodAll_four hA
 obtain ⟨rfl,rfl⟩:=trodVars_none hV
 have hk0:=h0
 have lt0:∀ x ∈ p0,x.block < W.heap.size:=by obtain ⟨m,hm⟩:=hk0;exact DataW.trod_lt m _ _ _ hm
 obtain ⟨A,l,c,rfl,g1,g2,g3,g4⟩:=open74 (hval 0 74 v0 rfl rfl) h0
 have hk1:=h1
 have lt1:∀ x ∈ p1,x.block < W.heap.size:=by obtain ⟨m,hm⟩:=hk1;exact DataW.trod_lt m _ _ _ hm
 obtain ⟨e,A3,c3,A4,c4,rfl,e1,e2,e3,e4,e5⟩:=open26 (hval 1 26 v1 rfl rfl) h1
 obtain ⟨n,rfl,rfl,rfl,hn⟩:=open_int Tryd.underlying3 (hval 2 3 v2 rfl rfl) h2
 obtain ⟨k,rfl,rfl,rfl,hk⟩:=open_int Tryd.underlying3 (hval 3 3 v3 rfl rfl) h3
 clear hA0 hval0 hsz0
 refine (wholeLaw_on A c l e A3 A4 c3 c4 n k W g1 g2 g3 g4 e2 e3 e4 e5 e1).mono ?_
 rintro r W' ⟨rfl,bel⟩
 exact ⟨_,rfl,_,_,_,[],_,[],hW',trodAll_mk1 (shut_bool Tryd.underlying4 _),(trodAll_cons_mk (Below.trod laidOut (by kernel_rfl) (of_decide_eq_true (by kernel_rfl)) hk0 bel lt0) (trodAll_cons_mk (Below.trod laidOut (by kernel_rfl) (of_decide_eq_true (by kernel_rfl)) hk1 bel lt1) (trodAll_cons_mk (shut_int Tryd.underlying3 hn) (trodAll_cons_mk (shut_int Tryd.underlying3 hk) trodAll_mk0)))),rfl,bel.frame _,fun h=>by cases h⟩
set_option maxRecDepth 100000 in
theorem whole_over:Rows.versionWholeRow.holds Tryd.pinned (OpenSpec.ofChange Rows.versionWholeSpec):=
 OpenClaim.holds_of_wide 12 Tryd.f12 rfl rfl rfl rfl rfl rfl rfl ⟨rfl,rfl,rfl,rfl,rfl⟩ rfl rfl rfl rfl rfl (by kernel_rfl) Tryd.func12 (by kernel_rfl) (of_decide_eq_true (by kernel_rfl))
  (by unfold Func.isWrapper;first | (rw [if_pos (by decide +kernel)];kernel_rfl) | (rw [if_neg (by decide +kernel)];exact ⟨rfl,rfl⟩))
  (fun os started H enc _=>whole_lifted os started H enc)
end Go.Proofs.YteilnbnnhocciaaDoor.V
namespace Go.Proofs.YteilnbnnhocciaaDoor
theorem versionWhole_holds:Rows.VersionWholeSaid:=V.whole_over
end Go.Proofs.YteilnbnnhocciaaDoor

/-! V68 -/
namespace Go.Proofs.YteilnbnnhocciaaDoor
open Go
theorem versionWholeCard_holds:Rows.VersionWholeCardSaid:=
 Claim7.holds_tied_plain_at .later [] [.data,.data,.data] true (true, "bc9cca30e6bcb58c3d7b40caaba0da34bdf01bc2fab1082ae4b270bbcf37ee66") true
  versionWhole_holds (fun _ h=>by cases h) (by kernel_rfl) (fun _ h=>by cases h) versionWhole_row_tie rfl ⟨rfl,rfl⟩ (by kernel_rfl) rfl
  (fun f fn hf hfn=>by
   obtain rfl:f = 12:=Option.some.inj ((show Tryd.prog.funcNamed "bourse/bourselaw13.VersionWhole" = some 12 by kernel_rfl).symm.trans hf) |>.symm
   obtain rfl:fn = Tryd.f12:=(Option.some.inj (Tryd.func12.symm.trans hfn)).symm
   exact ⟨by kernel_rfl,fun j t ht=>by
    rw [Tryd.params12] at ht
    have h3:t = 74 ∨ t = 26 ∨ t = 3:=by
     rcases j with _ | _ | _ | _ | j
     ·exact .inl (by simpa using ht.symm)
     ·exact .inr (.inl (by simpa using ht.symm))
     ·exact .inr (.inr (by simpa using ht.symm))
     ·exact .inr (.inr (by simpa using ht.symm))
     ·simp at ht
    rcases h3 with rfl | rfl | rfl
    ·exact (show Tryd.prog.wantsStandIn 74 = false by kernel_rfl)
    ·exact (show Tryd.prog.wantsStandIn 26 = false by kernel_rfl)
    ·exact (show Tryd.prog.wantsStandIn 3 = false by kernel_rfl)⟩)
  (by kernel_rfl)
#print axioms versionWholeCard_holds
end Go.Proofs.YteilnbnnhocciaaDoor
