/- Steps towards the statement: the printer's texts of two valid formulas are equal exactly if the formulas are; walks of the program's functions and the plain law behind them. This text: part 3 of 4. No condition of its own. -/
import Derived.Lib.AppendIntMem
import Derived.Test.YtgdiodhaihmnbaaDoorPPrinterMatchesReferencex1
import Derived.Test.YtgdiodhaihmnbaaDoorPPrinterMatchesReferencex2
import Derived.Test.YtgdiodhaihmnbaaDoorInj1
import Derived.Test.YtgdiodhaihmnbaaDoorInj2
set_option linter.unusedSimpArgs false
set_option linter.unusedVariables false
namespace Go.Proofs.YtgdiodhaihmnbaaDoor.Own
open Go.RowKit Go.Proofs.YtgdiodhaihmnbaaDoorW.PrintWords Go.Proofs.YtgdiodhaihmnbaaDoorW.PrintLast Go.Proofs.YtgdiodhaihmnbaaDoorW.PrintMore Go.Proofs.YtgdiodhaihmnbaaDoor.PPrinterMatchesReference

set_option maxHeartbeats 4000000 in
set_option maxRecDepth 100000 in
theorem node_name (x : S24) (hop : x.f0 = 1) (hbn : atT x.f0 binT = none) (hb : atT x.f0 preT = none) : NodeC x := by
  intro w0 B b m2 m1 bs w cs fin hx hb0 hB0 ht hP hlen
  obtain ⟨A, c, rfl, hlc, hA⟩ := k24_open hx
  have HX := Aside0.mk hx
  have HA := Aside0.mk hA
  have HP := Aside0.mk hP
  have HT := Aside0.mk ht
  have HB0 := Aside0.mk hb0
  have hlt := hP.lt
  have hlow := hP.low
  have hu24 := Tryd.underlying24
  have hu96 := Tryd.underlying96
  have htx : txt x fin = x.f1.data.toList := by rw [txt_def, hbn, hb]; simp [hop]
  rw [htx] at hlen ⊢
  have HL := Aside0.mk hlen
  have HQtwo := Aside0.mk hbn
  have HQone := Aside0.mk hb
  have HOP := Aside0.mk hop
  clear hx hP ht hb0 hA hlc htx hlen hb hbn hop
  go_enter Tryd.func38, Tryd.ntmps38
  go_wp2_with ((with_reducible refine gate_dst (N := 4) rfl ?_); refine box_event rfl (N := 4) rfl (cs := #[.int .i64 x.f0, .string x.f1, .int .i64 x.f2, .slice A x.f3.length c, .int .i64 x.f4]) (t := 24) (by first | (go_simp; done) | (go_simp; rfl)) ?_; intro g hg w1 hbk1 hb1; have HG := Aside0.mk hg; clear hg)
  have HW1 := Aside0.mk (show Wrote B b m2 m1 bs w w1 from ⟨HP.out.below hb1, hb1.mono (by omega), fun i o hi _ _ => (hb1.block i (blk_lt hi)).trans hi⟩)
  have hgb : g ≠ b := by have := HG.out; omega
  clear hb1
  obtain ⟨S, hSe⟩ : ∃ S : World → Prop, S = fun W => Below w1.heap.size w1 W := ⟨_, rfl⟩
  obtain ⟨p, v, kP⟩ := HW1.out.1
  have q2 : ∀ W, S W → W.cell? ⟨b, 2, none⟩ = some (.map (some m2)) := fun W hW => by rw [hSe] at hW; exact blk_cell (blk_below kP.blk hW) 2
  have q0 : ∀ W, S W → W.cell? ⟨g, 0, none⟩ = some (.int .i64 x.f0) := fun W hW => by rw [hSe] at hW; exact blk_cell (blk_below hbk1 hW) 0
  have ql : ∀ W, S W → (Instr.lookup 73 (.map (some m2)) (.int .i64 x.f0) true).run Tryd.prog W = .ok (.tuple #[.agg #[.string ⟨#[]⟩, .int .i64 0, .int .i64 0, .int .i64 0], .bool false]) W := fun W hW => by
    rw [hSe] at hW
    rw [look_tab W m2 binT 17 (kP.below hW).two, HQtwo.out]
    rfl
  have hS0 : S w1.drew := by rw [hSe]; exact below_drew1 (Below.refl _ _)
  refine wp_region_held_drew (S := S) (by kernel_rfl) hS0 (fun _ => ?_)
  refine h_take 0 rfl (by kernel_rfl) (by kernel_rfl) (by kernel_rfl) (fun _ _ _ _ h => h) hS0 rfl ?_
  apply Exists.intro
  refine ⟨fun W hW => ?_, ?_⟩
  · have p2 := q2 W hW
    have p0 := q0 W hW
    have pl := ql W hW
    go_simp
    try rfl
  simp only [Act.put, List.setIfInBounds_toArray, List.set_cons_zero, List.set_cons_succ]
  refine h_take 1 rfl (by kernel_rfl) (by kernel_rfl) (by kernel_rfl) (fun _ _ _ _ h => h) hS0 rfl ?_
  apply Exists.intro
  refine ⟨fun W hW => ?_, ?_⟩
  · have p2 := q2 W hW
    have p0 := q0 W hW
    have pl := ql W hW
    go_simp
    try rfl
  simp only [Act.put, List.setIfInBounds_toArray, List.set_cons_zero, List.set_cons_succ]
  refine h_take 2 rfl (by kernel_rfl) (by kernel_rfl) (by kernel_rfl) (fun _ _ _ _ h => h) hS0 rfl ?_
  apply Exists.intro
  refine ⟨fun W hW => ?_, ?_⟩
  · have p2 := q2 W hW
    have p0 := q0 W hW
    have pl := ql W hW
    go_simp
    try rfl
  simp only [Act.put, List.setIfInBounds_toArray, List.set_cons_zero, List.set_cons_succ]
  refine h_take 3 rfl (by kernel_rfl) (by kernel_rfl) (by kernel_rfl) (fun _ _ _ _ h => h) hS0 rfl ?_
  apply Exists.intro
  refine ⟨fun W hW => ?_, ?_⟩
  · have p2 := q2 W hW
    have p0 := q0 W hW
    have pl := ql W hW
    go_simp
    try rfl
  simp only [Act.put, List.setIfInBounds_toArray, List.set_cons_zero, List.set_cons_succ]
  refine h_take 4 rfl (by kernel_rfl) (by kernel_rfl) (by kernel_rfl) (fun _ _ _ _ h => h) hS0 rfl ?_
  apply Exists.intro
  refine ⟨fun W hW => ?_, ?_⟩
  · have p2 := q2 W hW
    have p0 := q0 W hW
    have pl := ql W hW
    go_simp
    try rfl
  simp only [Act.put, List.setIfInBounds_toArray, List.set_cons_zero, List.set_cons_succ]
  refine h_take 5 rfl (by kernel_rfl) (by kernel_rfl) (by kernel_rfl) (fun _ _ _ _ h => h) hS0 rfl ?_
  apply Exists.intro
  refine ⟨fun W hW => ?_, ?_⟩
  · have p2 := q2 W hW
    have p0 := q0 W hW
    have pl := ql W hW
    go_simp
    try rfl
  simp only [Act.put, List.setIfInBounds_toArray, List.set_cons_zero, List.set_cons_succ]
  refine h_take 6 rfl (by kernel_rfl) (by kernel_rfl) (by kernel_rfl) (fun _ _ _ _ h => h) hS0 rfl ?_
  apply Exists.intro
  refine ⟨fun W hW => ?_, ?_⟩
  · have p2 := q2 W hW
    have p0 := q0 W hW
    have pl := ql W hW
    go_simp
    try rfl
  simp only [Act.put, List.setIfInBounds_toArray, List.set_cons_zero, List.set_cons_succ]
  refine h_take 7 rfl (by kernel_rfl) (by kernel_rfl) (by kernel_rfl) (fun _ _ _ _ h => h) hS0 rfl ?_
  apply Exists.intro
  refine ⟨fun W hW => ?_, ?_⟩
  · have p2 := q2 W hW
    have p0 := q0 W hW
    have pl := ql W hW
    go_simp
    try rfl
  simp only [Act.put, List.setIfInBounds_toArray, List.set_cons_zero, List.set_cons_succ]
  refine h_take 8 rfl (by kernel_rfl) (by kernel_rfl) (by kernel_rfl) (fun _ _ _ _ h => h) hS0 rfl ?_
  apply Exists.intro
  refine ⟨fun W hW => ?_, ?_⟩
  · have p2 := q2 W hW
    have p0 := q0 W hW
    have pl := ql W hW
    go_simp
    try rfl
  simp only [Act.put, List.setIfInBounds_toArray, List.set_cons_zero, List.set_cons_succ]
  refine h_take 9 rfl (by kernel_rfl) (by kernel_rfl) (by kernel_rfl) (fun _ _ _ _ h => h) hS0 rfl ?_
  apply Exists.intro
  refine ⟨fun W hW => ?_, ?_⟩
  · have p2 := q2 W hW
    have p0 := q0 W hW
    have pl := ql W hW
    go_simp
    try rfl
  simp only [Act.put, List.setIfInBounds_toArray, List.set_cons_zero, List.set_cons_succ]
  refine h_one 10 rfl (by kernel_rfl) rfl ?_
  refine op_val (by go_simp; exact ⟨rfl, rfl⟩) ?_
  refine ⟨by rw [hSe]; exact below_drew1 (below_alloc (Below.refl _ _) _), ?_⟩
  simp only [Act.put, List.setIfInBounds_toArray, List.set_cons_zero, List.set_cons_succ]
  refine h_one 11 rfl (by kernel_rfl) rfl ?_
  refine op_skip (w1 := (w1.alloc (.cells #[.string ⟨#[]⟩, .int .i64 0, .int .i64 0, .int .i64 0] 96)).drew) (by go_simp) ?_
  refine ⟨by rw [hSe]; exact below_drew1 (below_alloc (Below.refl _ _) _), ?_⟩
  simp only [Act.put]
  refine h_one 12 rfl (by kernel_rfl) rfl ?_
  refine op_val (by go_simp; exact ⟨rfl, rfl⟩) ?_
  refine ⟨by rw [hSe]; exact below_drew1 (below_alloc (Below.refl _ _) _), ?_⟩
  simp only [Act.put, List.setIfInBounds_toArray, List.set_cons_zero, List.set_cons_succ]
  refine wpAnyH_done (by kernel_rfl) ?_ _
  have hwe : Below w1.heap.size w1 (w1.alloc (.cells #[.string ⟨#[]⟩, .int .i64 0, .int .i64 0, .int .i64 0] 96)).drew := below_drew1 (below_alloc (Below.refl _ _) _)
  have hbn : ((w1.alloc (.cells #[.string ⟨#[]⟩, .int .i64 0, .int .i64 0, .int .i64 0] 96)).drew).heap[w1.heap.size]? = some (.cells #[.string ⟨#[]⟩, .int .i64 0, .int .i64 0, .int .i64 0] 96 (0, 0)) := blk_new w1 _
  generalize (w1.alloc (.cells #[.string ⟨#[]⟩, .int .i64 0, .int .i64 0, .int .i64 0] 96)).drew = w2 at *
  have hbk2 := blk_below hbk1 hwe
  have hrbtwo : w1.heap.size ≠ b := by have := HW1.out.size; omega
  have HW2 := Aside0.mk (HW1.out.before hwe (by have := HW1.out.size; omega))
  generalize w1.heap.size = rtwo at *
  have hrwtwo2 := hbn
  clear q0 q2 ql hS0 hSe hwe kP hbk1 HW1 hbn
  go_wp2_with fail
  obtain ⟨S, hSe⟩ : ∃ S : World → Prop, S = fun W => Below w2.heap.size w2 W := ⟨_, rfl⟩
  obtain ⟨p, v, kP⟩ := HW2.out.1
  have q2 : ∀ W, S W → W.cell? ⟨b, 3, none⟩ = some (.map (some m1)) := fun W hW => by rw [hSe] at hW; exact blk_cell (blk_below kP.blk hW) 3
  have q0 : ∀ W, S W → W.cell? ⟨g, 0, none⟩ = some (.int .i64 x.f0) := fun W hW => by rw [hSe] at hW; exact blk_cell (blk_below hbk2 hW) 0
  have ql : ∀ W, S W → (Instr.lookup 73 (.map (some m1)) (.int .i64 x.f0) true).run Tryd.prog W = .ok (.tuple #[.agg #[.string ⟨#[]⟩, .int .i64 0, .int .i64 0, .int .i64 0], .bool false]) W := fun W hW => by
    rw [hSe] at hW
    rw [look_tab W m1 preT 12 (kP.below hW).one, HQone.out]
    rfl
  have hS0 : S w2.drew := by rw [hSe]; exact below_drew1 (Below.refl _ _)
  refine wp_region_held_drew (S := S) (by kernel_rfl) hS0 (fun _ => ?_)
  refine h_take 0 rfl (by kernel_rfl) (by kernel_rfl) (by kernel_rfl) (fun _ _ _ _ h => h) hS0 rfl ?_
  apply Exists.intro
  refine ⟨fun W hW => ?_, ?_⟩
  · have p2 := q2 W hW
    have p0 := q0 W hW
    have pl := ql W hW
    go_simp
    try rfl
  simp only [Act.put, List.setIfInBounds_toArray, List.set_cons_zero, List.set_cons_succ]
  refine h_take 1 rfl (by kernel_rfl) (by kernel_rfl) (by kernel_rfl) (fun _ _ _ _ h => h) hS0 rfl ?_
  apply Exists.intro
  refine ⟨fun W hW => ?_, ?_⟩
  · have p2 := q2 W hW
    have p0 := q0 W hW
    have pl := ql W hW
    go_simp
    try rfl
  simp only [Act.put, List.setIfInBounds_toArray, List.set_cons_zero, List.set_cons_succ]
  refine h_take 2 rfl (by kernel_rfl) (by kernel_rfl) (by kernel_rfl) (fun _ _ _ _ h => h) hS0 rfl ?_
  apply Exists.intro
  refine ⟨fun W hW => ?_, ?_⟩
  · have p2 := q2 W hW
    have p0 := q0 W hW
    have pl := ql W hW
    go_simp
    try rfl
  simp only [Act.put, List.setIfInBounds_toArray, List.set_cons_zero, List.set_cons_succ]
  refine h_take 3 rfl (by kernel_rfl) (by kernel_rfl) (by kernel_rfl) (fun _ _ _ _ h => h) hS0 rfl ?_
  apply Exists.intro
  refine ⟨fun W hW => ?_, ?_⟩
  · have p2 := q2 W hW
    have p0 := q0 W hW
    have pl := ql W hW
    go_simp
    try rfl
  simp only [Act.put, List.setIfInBounds_toArray, List.set_cons_zero, List.set_cons_succ]
  refine h_take 4 rfl (by kernel_rfl) (by kernel_rfl) (by kernel_rfl) (fun _ _ _ _ h => h) hS0 rfl ?_
  apply Exists.intro
  refine ⟨fun W hW => ?_, ?_⟩
  · have p2 := q2 W hW
    have p0 := q0 W hW
    have pl := ql W hW
    go_simp
    try rfl
  simp only [Act.put, List.setIfInBounds_toArray, List.set_cons_zero, List.set_cons_succ]
  refine h_take 5 rfl (by kernel_rfl) (by kernel_rfl) (by kernel_rfl) (fun _ _ _ _ h => h) hS0 rfl ?_
  apply Exists.intro
  refine ⟨fun W hW => ?_, ?_⟩
  · have p2 := q2 W hW
    have p0 := q0 W hW
    have pl := ql W hW
    go_simp
    try rfl
  simp only [Act.put, List.setIfInBounds_toArray, List.set_cons_zero, List.set_cons_succ]
  refine h_take 6 rfl (by kernel_rfl) (by kernel_rfl) (by kernel_rfl) (fun _ _ _ _ h => h) hS0 rfl ?_
  apply Exists.intro
  refine ⟨fun W hW => ?_, ?_⟩
  · have p2 := q2 W hW
    have p0 := q0 W hW
    have pl := ql W hW
    go_simp
    try rfl
  simp only [Act.put, List.setIfInBounds_toArray, List.set_cons_zero, List.set_cons_succ]
  refine h_take 7 rfl (by kernel_rfl) (by kernel_rfl) (by kernel_rfl) (fun _ _ _ _ h => h) hS0 rfl ?_
  apply Exists.intro
  refine ⟨fun W hW => ?_, ?_⟩
  · have p2 := q2 W hW
    have p0 := q0 W hW
    have pl := ql W hW
    go_simp
    try rfl
  simp only [Act.put, List.setIfInBounds_toArray, List.set_cons_zero, List.set_cons_succ]
  refine h_take 8 rfl (by kernel_rfl) (by kernel_rfl) (by kernel_rfl) (fun _ _ _ _ h => h) hS0 rfl ?_
  apply Exists.intro
  refine ⟨fun W hW => ?_, ?_⟩
  · have p2 := q2 W hW
    have p0 := q0 W hW
    have pl := ql W hW
    go_simp
    try rfl
  simp only [Act.put, List.setIfInBounds_toArray, List.set_cons_zero, List.set_cons_succ]
  refine h_take 9 rfl (by kernel_rfl) (by kernel_rfl) (by kernel_rfl) (fun _ _ _ _ h => h) hS0 rfl ?_
  apply Exists.intro
  refine ⟨fun W hW => ?_, ?_⟩
  · have p2 := q2 W hW
    have p0 := q0 W hW
    have pl := ql W hW
    go_simp
    try rfl
  simp only [Act.put, List.setIfInBounds_toArray, List.set_cons_zero, List.set_cons_succ]
  refine h_one 10 rfl (by kernel_rfl) rfl ?_
  refine op_val (by go_simp; exact ⟨rfl, rfl⟩) ?_
  refine ⟨by rw [hSe]; exact below_drew1 (below_alloc (Below.refl _ _) _), ?_⟩
  simp only [Act.put, List.setIfInBounds_toArray, List.set_cons_zero, List.set_cons_succ]
  refine h_one 11 rfl (by kernel_rfl) rfl ?_
  refine op_skip (w1 := (w2.alloc (.cells #[.string ⟨#[]⟩, .int .i64 0, .int .i64 0, .int .i64 0] 96)).drew) (by go_simp) ?_
  refine ⟨by rw [hSe]; exact below_drew1 (below_alloc (Below.refl _ _) _), ?_⟩
  simp only [Act.put]
  refine h_one 12 rfl (by kernel_rfl) rfl ?_
  refine op_val (by go_simp; exact ⟨rfl, rfl⟩) ?_
  refine ⟨by rw [hSe]; exact below_drew1 (below_alloc (Below.refl _ _) _), ?_⟩
  simp only [Act.put, List.setIfInBounds_toArray, List.set_cons_zero, List.set_cons_succ]
  refine wpAnyH_done (by kernel_rfl) ?_ _
  have hwe : Below w2.heap.size w2 (w2.alloc (.cells #[.string ⟨#[]⟩, .int .i64 0, .int .i64 0, .int .i64 0] 96)).drew := below_drew1 (below_alloc (Below.refl _ _) _)
  have hbn : ((w2.alloc (.cells #[.string ⟨#[]⟩, .int .i64 0, .int .i64 0, .int .i64 0] 96)).drew).heap[w2.heap.size]? = some (.cells #[.string ⟨#[]⟩, .int .i64 0, .int .i64 0, .int .i64 0] 96 (0, 0)) := blk_new w2 _
  generalize (w2.alloc (.cells #[.string ⟨#[]⟩, .int .i64 0, .int .i64 0, .int .i64 0] 96)).drew = w3 at *
  have hbk3 := blk_below hbk2 hwe
  have hrbone : w2.heap.size ≠ b := by have := HW2.out.size; omega
  have HW3 := Aside0.mk (HW2.out.before hwe (by have := HW2.out.size; omega))
  generalize w2.heap.size = rone at *
  have hrwone3 := hbn
  clear q0 q2 ql hS0 hSe hwe kP hbk2 HW2 hbn hrwtwo2 hrwone3 hrbtwo hrbone
  have z0 := blk_cell hbk3 0
  have z1 := blk_cell hbk3 1
  have z2 := blk_cell hbk3 2
  have z3 := blk_cell hbk3 3
  have z4 := blk_cell hbk3 4
  have e1 : (x.f0 == 1) = true := by rw [HOP.out]; rfl
  go_wp2_with fail
  clear z0 z1 z2 z3 z4
  obtain ⟨C, hCe⟩ : ∃ C : World → Prop, C = fun W => Below w3.heap.size w3 W := ⟨_, rfl⟩
  have q0 : ∀ W, C W → W.cell? ⟨g, 1, none⟩ = some (.string x.f1) := fun W hW => by rw [hCe] at hW; exact blk_cell (blk_below hbk3 hW) 1
  refine wp_quiet_tail C 5 (by kernel_rfl) (by kernel_rfl) (by rw [hCe]; exact below_drew1 (Below.refl _ _)) ?_
  simp only [List.take_succ_cons, List.take_zero, List.drop_succ_cons, List.drop_zero]
  refine q_ex rfl ?_
  apply Exists.intro
  refine ⟨fun W hW => ?_, ?_⟩
  · skip
    have p0 := q0 W hW
    go_simp
    try rfl
  simp only [Act.put, List.setIfInBounds_toArray, List.set_cons_zero, List.set_cons_succ]
  refine q_ex rfl ?_
  apply Exists.intro
  refine ⟨fun W hW => ?_, ?_⟩
  · skip
    have p0 := q0 W hW
    go_simp
    try rfl
  simp only [Act.put, List.setIfInBounds_toArray, List.set_cons_zero, List.set_cons_succ]
  refine q_ex rfl ?_
  apply Exists.intro
  refine ⟨fun W hW => ?_, ?_⟩
  · skip
    have p0 := q0 W hW
    go_simp
    try rfl
  simp only [Act.put, List.setIfInBounds_toArray, List.set_cons_zero, List.set_cons_succ]
  refine q_ex rfl ?_
  apply Exists.intro
  refine ⟨fun W hW => ?_, ?_⟩
  · skip
    have p0 := q0 W hW
    go_simp
    try rfl
  simp only [Act.put, List.setIfInBounds_toArray, List.set_cons_zero, List.set_cons_succ]
  refine q_ex rfl ?_
  apply Exists.intro
  refine ⟨fun W hW => ?_, ?_⟩
  · skip
    have p0 := q0 W hW
    go_simp
    try rfl
  simp only [Act.put, List.setIfInBounds_toArray, List.set_cons_zero, List.set_cons_succ]
  intro W hW
  have hWb := hW
  rw [hCe] at hWb
  clear hW q0
  clear hCe
  have HW4 := Aside0.mk (HW3.out.before hWb (by have := HW3.out.size; omega))
  have hbk4 := blk_below hbk3 hWb
  clear hWb HW3 hbk3 
  go_wp2_with fail
  refine (writeString_walk B b m2 m1 _ x.f1 _ HW4.out.1 ?a1 ?b2).mono ?_
  case a1 => have := HL.out; simp only [List.length_append, List.length_cons, List.length_nil, data_length] at this ⊢; unfold most at this; omega
  case b2 => have := HW4.out.size; omega
  rintro e w5 ⟨rfl, hw5⟩
  have hbk5 := hw5.blk hbk4 hgb (by decide)
  have HW5 := Aside0.mk (HW4.out.trans hw5)
  clear hw5 HW4 hbk4  
  go_wp2_with fail
  go_end0
  exact ⟨rfl, HW5.out⟩

set_option maxHeartbeats 4000000 in
set_option maxRecDepth 100000 in
theorem node_prime (x : S24) (hop : x.f0 = 5) (hbn : atT x.f0 binT = none) (hb : atT x.f0 preT = none) (h0 : OprC (x.f3.getD 0 z24)) : NodeC x := by
  intro w0 B b m2 m1 bs w cs fin hx hb0 hB0 ht hP hlen
  obtain ⟨A, c, rfl, hlc, hA⟩ := k24_open hx
  have HX := Aside0.mk hx
  have HA := Aside0.mk hA
  have HP := Aside0.mk hP
  have HT := Aside0.mk ht
  have HB0 := Aside0.mk hb0
  have hlt := hP.lt
  have hlow := hP.low
  have hu24 := Tryd.underlying24
  have hu96 := Tryd.underlying96
  have htx : txt x fin = opr (x.f3.getD 0 z24) 14 false ++ [39] := by rw [txt_def, hbn, hb]; simp only [hop]; rw [opd_rd _ _ _ _ (by omega)]; rfl
  rw [htx] at hlen ⊢
  have HL := Aside0.mk hlen
  have HQtwo := Aside0.mk hbn
  have HQone := Aside0.mk hb
  have HOP := Aside0.mk hop
  have H0 := Aside0.mk h0
  have hass : bs ++ (opr (x.f3.getD 0 z24) 14 false ++ [39]) = (bs ++ opr (x.f3.getD 0 z24) 14 false) ++ [39] := by simp
  rw [hass]
  obtain ⟨cs0, hk0, hc0⟩ := kid_all x 0 (by omega) w0 _ hx
  have HC0 := Aside0.mk hk0
  have HA0 := Aside0.mk hc0
  clear hk0 hc0
  clear hx hP ht hb0 hA hlc htx hlen hb hbn hop h0 hass
  go_enter Tryd.func38, Tryd.ntmps38
  go_wp2_with ((with_reducible refine gate_dst (N := 4) rfl ?_); refine box_event rfl (N := 4) rfl (cs := #[.int .i64 x.f0, .string x.f1, .int .i64 x.f2, .slice A x.f3.length c, .int .i64 x.f4]) (t := 24) (by first | (go_simp; done) | (go_simp; rfl)) ?_; intro g hg w1 hbk1 hb1; have HG := Aside0.mk hg; clear hg)
  have HW1 := Aside0.mk (show Wrote B b m2 m1 bs w w1 from ⟨HP.out.below hb1, hb1.mono (by omega), fun i o hi _ _ => (hb1.block i (blk_lt hi)).trans hi⟩)
  have hgb : g ≠ b := by have := HG.out; omega
  clear hb1
  obtain ⟨S, hSe⟩ : ∃ S : World → Prop, S = fun W => Below w1.heap.size w1 W := ⟨_, rfl⟩
  obtain ⟨p, v, kP⟩ := HW1.out.1
  have q2 : ∀ W, S W → W.cell? ⟨b, 2, none⟩ = some (.map (some m2)) := fun W hW => by rw [hSe] at hW; exact blk_cell (blk_below kP.blk hW) 2
  have q0 : ∀ W, S W → W.cell? ⟨g, 0, none⟩ = some (.int .i64 x.f0) := fun W hW => by rw [hSe] at hW; exact blk_cell (blk_below hbk1 hW) 0
  have ql : ∀ W, S W → (Instr.lookup 73 (.map (some m2)) (.int .i64 x.f0) true).run Tryd.prog W = .ok (.tuple #[.agg #[.string ⟨#[]⟩, .int .i64 0, .int .i64 0, .int .i64 0], .bool false]) W := fun W hW => by
    rw [hSe] at hW
    rw [look_tab W m2 binT 17 (kP.below hW).two, HQtwo.out]
    rfl
  have hS0 : S w1.drew := by rw [hSe]; exact below_drew1 (Below.refl _ _)
  refine wp_region_held_drew (S := S) (by kernel_rfl) hS0 (fun _ => ?_)
  refine h_take 0 rfl (by kernel_rfl) (by kernel_rfl) (by kernel_rfl) (fun _ _ _ _ h => h) hS0 rfl ?_
  apply Exists.intro
  refine ⟨fun W hW => ?_, ?_⟩
  · have p2 := q2 W hW
    have p0 := q0 W hW
    have pl := ql W hW
    go_simp
    try rfl
  simp only [Act.put, List.setIfInBounds_toArray, List.set_cons_zero, List.set_cons_succ]
  refine h_take 1 rfl (by kernel_rfl) (by kernel_rfl) (by kernel_rfl) (fun _ _ _ _ h => h) hS0 rfl ?_
  apply Exists.intro
  refine ⟨fun W hW => ?_, ?_⟩
  · have p2 := q2 W hW
    have p0 := q0 W hW
    have pl := ql W hW
    go_simp
    try rfl
  simp only [Act.put, List.setIfInBounds_toArray, List.set_cons_zero, List.set_cons_succ]
  refine h_take 2 rfl (by kernel_rfl) (by kernel_rfl) (by kernel_rfl) (fun _ _ _ _ h => h) hS0 rfl ?_
  apply Exists.intro
  refine ⟨fun W hW => ?_, ?_⟩
  · have p2 := q2 W hW
    have p0 := q0 W hW
    have pl := ql W hW
    go_simp
    try rfl
  simp only [Act.put, List.setIfInBounds_toArray, List.set_cons_zero, List.set_cons_succ]
  refine h_take 3 rfl (by kernel_rfl) (by kernel_rfl) (by kernel_rfl) (fun _ _ _ _ h => h) hS0 rfl ?_
  apply Exists.intro
  refine ⟨fun W hW => ?_, ?_⟩
  · have p2 := q2 W hW
    have p0 := q0 W hW
    have pl := ql W hW
    go_simp
    try rfl
  simp only [Act.put, List.setIfInBounds_toArray, List.set_cons_zero, List.set_cons_succ]
  refine h_take 4 rfl (by kernel_rfl) (by kernel_rfl) (by kernel_rfl) (fun _ _ _ _ h => h) hS0 rfl ?_
  apply Exists.intro
  refine ⟨fun W hW => ?_, ?_⟩
  · have p2 := q2 W hW
    have p0 := q0 W hW
    have pl := ql W hW
    go_simp
    try rfl
  simp only [Act.put, List.setIfInBounds_toArray, List.set_cons_zero, List.set_cons_succ]
  refine h_take 5 rfl (by kernel_rfl) (by kernel_rfl) (by kernel_rfl) (fun _ _ _ _ h => h) hS0 rfl ?_
  apply Exists.intro
  refine ⟨fun W hW => ?_, ?_⟩
  · have p2 := q2 W hW
    have p0 := q0 W hW
    have pl := ql W hW
    go_simp
    try rfl
  simp only [Act.put, List.setIfInBounds_toArray, List.set_cons_zero, List.set_cons_succ]
  refine h_take 6 rfl (by kernel_rfl) (by kernel_rfl) (by kernel_rfl) (fun _ _ _ _ h => h) hS0 rfl ?_
  apply Exists.intro
  refine ⟨fun W hW => ?_, ?_⟩
  · have p2 := q2 W hW
    have p0 := q0 W hW
    have pl := ql W hW
    go_simp
    try rfl
  simp only [Act.put, List.setIfInBounds_toArray, List.set_cons_zero, List.set_cons_succ]
  refine h_take 7 rfl (by kernel_rfl) (by kernel_rfl) (by kernel_rfl) (fun _ _ _ _ h => h) hS0 rfl ?_
  apply Exists.intro
  refine ⟨fun W hW => ?_, ?_⟩
  · have p2 := q2 W hW
    have p0 := q0 W hW
    have pl := ql W hW
    go_simp
    try rfl
  simp only [Act.put, List.setIfInBounds_toArray, List.set_cons_zero, List.set_cons_succ]
  refine h_take 8 rfl (by kernel_rfl) (by kernel_rfl) (by kernel_rfl) (fun _ _ _ _ h => h) hS0 rfl ?_
  apply Exists.intro
  refine ⟨fun W hW => ?_, ?_⟩
  · have p2 := q2 W hW
    have p0 := q0 W hW
    have pl := ql W hW
    go_simp
    try rfl
  simp only [Act.put, List.setIfInBounds_toArray, List.set_cons_zero, List.set_cons_succ]
  refine h_take 9 rfl (by kernel_rfl) (by kernel_rfl) (by kernel_rfl) (fun _ _ _ _ h => h) hS0 rfl ?_
  apply Exists.intro
  refine ⟨fun W hW => ?_, ?_⟩
  · have p2 := q2 W hW
    have p0 := q0 W hW
    have pl := ql W hW
    go_simp
    try rfl
  simp only [Act.put, List.setIfInBounds_toArray, List.set_cons_zero, List.set_cons_succ]
  refine h_one 10 rfl (by kernel_rfl) rfl ?_
  refine op_val (by go_simp; exact ⟨rfl, rfl⟩) ?_
  refine ⟨by rw [hSe]; exact below_drew1 (below_alloc (Below.refl _ _) _), ?_⟩
  simp only [Act.put, List.setIfInBounds_toArray, List.set_cons_zero, List.set_cons_succ]
  refine h_one 11 rfl (by kernel_rfl) rfl ?_
  refine op_skip (w1 := (w1.alloc (.cells #[.string ⟨#[]⟩, .int .i64 0, .int .i64 0, .int .i64 0] 96)).drew) (by go_simp) ?_
  refine ⟨by rw [hSe]; exact below_drew1 (below_alloc (Below.refl _ _) _), ?_⟩
  simp only [Act.put]
  refine h_one 12 rfl (by kernel_rfl) rfl ?_
  refine op_val (by go_simp; exact ⟨rfl, rfl⟩) ?_
  refine ⟨by rw [hSe]; exact below_drew1 (below_alloc (Below.refl _ _) _), ?_⟩
  simp only [Act.put, List.setIfInBounds_toArray, List.set_cons_zero, List.set_cons_succ]
  refine wpAnyH_done (by kernel_rfl) ?_ _
  have hwe : Below w1.heap.size w1 (w1.alloc (.cells #[.string ⟨#[]⟩, .int .i64 0, .int .i64 0, .int .i64 0] 96)).drew := below_drew1 (below_alloc (Below.refl _ _) _)
  have hbn : ((w1.alloc (.cells #[.string ⟨#[]⟩, .int .i64 0, .int .i64 0, .int .i64 0] 96)).drew).heap[w1.heap.size]? = some (.cells #[.string ⟨#[]⟩, .int .i64 0, .int .i64 0, .int .i64 0] 96 (0, 0)) := blk_new w1 _
  generalize (w1.alloc (.cells #[.string ⟨#[]⟩, .int .i64 0, .int .i64 0, .int .i64 0] 96)).drew = w2 at *
  have hbk2 := blk_below hbk1 hwe
  have hrbtwo : w1.heap.size ≠ b := by have := HW1.out.size; omega
  have HW2 := Aside0.mk (HW1.out.before hwe (by have := HW1.out.size; omega))
  generalize w1.heap.size = rtwo at *
  have hrwtwo2 := hbn
  clear q0 q2 ql hS0 hSe hwe kP hbk1 HW1 hbn
  go_wp2_with fail
  obtain ⟨S, hSe⟩ : ∃ S : World → Prop, S = fun W => Below w2.heap.size w2 W := ⟨_, rfl⟩
  obtain ⟨p, v, kP⟩ := HW2.out.1
  have q2 : ∀ W, S W → W.cell? ⟨b, 3, none⟩ = some (.map (some m1)) := fun W hW => by rw [hSe] at hW; exact blk_cell (blk_below kP.blk hW) 3
  have q0 : ∀ W, S W → W.cell? ⟨g, 0, none⟩ = some (.int .i64 x.f0) := fun W hW => by rw [hSe] at hW; exact blk_cell (blk_below hbk2 hW) 0
  have ql : ∀ W, S W → (Instr.lookup 73 (.map (some m1)) (.int .i64 x.f0) true).run Tryd.prog W = .ok (.tuple #[.agg #[.string ⟨#[]⟩, .int .i64 0, .int .i64 0, .int .i64 0], .bool false]) W := fun W hW => by
    rw [hSe] at hW
    rw [look_tab W m1 preT 12 (kP.below hW).one, HQone.out]
    rfl
  have hS0 : S w2.drew := by rw [hSe]; exact below_drew1 (Below.refl _ _)
  refine wp_region_held_drew (S := S) (by kernel_rfl) hS0 (fun _ => ?_)
  refine h_take 0 rfl (by kernel_rfl) (by kernel_rfl) (by kernel_rfl) (fun _ _ _ _ h => h) hS0 rfl ?_
  apply Exists.intro
  refine ⟨fun W hW => ?_, ?_⟩
  · have p2 := q2 W hW
    have p0 := q0 W hW
    have pl := ql W hW
    go_simp
    try rfl
  simp only [Act.put, List.setIfInBounds_toArray, List.set_cons_zero, List.set_cons_succ]
  refine h_take 1 rfl (by kernel_rfl) (by kernel_rfl) (by kernel_rfl) (fun _ _ _ _ h => h) hS0 rfl ?_
  apply Exists.intro
  refine ⟨fun W hW => ?_, ?_⟩
  · have p2 := q2 W hW
    have p0 := q0 W hW
    have pl := ql W hW
    go_simp
    try rfl
  simp only [Act.put, List.setIfInBounds_toArray, List.set_cons_zero, List.set_cons_succ]
  refine h_take 2 rfl (by kernel_rfl) (by kernel_rfl) (by kernel_rfl) (fun _ _ _ _ h => h) hS0 rfl ?_
  apply Exists.intro
  refine ⟨fun W hW => ?_, ?_⟩
  · have p2 := q2 W hW
    have p0 := q0 W hW
    have pl := ql W hW
    go_simp
    try rfl
  simp only [Act.put, List.setIfInBounds_toArray, List.set_cons_zero, List.set_cons_succ]
  refine h_take 3 rfl (by kernel_rfl) (by kernel_rfl) (by kernel_rfl) (fun _ _ _ _ h => h) hS0 rfl ?_
  apply Exists.intro
  refine ⟨fun W hW => ?_, ?_⟩
  · have p2 := q2 W hW
    have p0 := q0 W hW
    have pl := ql W hW
    go_simp
    try rfl
  simp only [Act.put, List.setIfInBounds_toArray, List.set_cons_zero, List.set_cons_succ]
  refine h_take 4 rfl (by kernel_rfl) (by kernel_rfl) (by kernel_rfl) (fun _ _ _ _ h => h) hS0 rfl ?_
  apply Exists.intro
  refine ⟨fun W hW => ?_, ?_⟩
  · have p2 := q2 W hW
    have p0 := q0 W hW
    have pl := ql W hW
    go_simp
    try rfl
  simp only [Act.put, List.setIfInBounds_toArray, List.set_cons_zero, List.set_cons_succ]
  refine h_take 5 rfl (by kernel_rfl) (by kernel_rfl) (by kernel_rfl) (fun _ _ _ _ h => h) hS0 rfl ?_
  apply Exists.intro
  refine ⟨fun W hW => ?_, ?_⟩
  · have p2 := q2 W hW
    have p0 := q0 W hW
    have pl := ql W hW
    go_simp
    try rfl
  simp only [Act.put, List.setIfInBounds_toArray, List.set_cons_zero, List.set_cons_succ]
  refine h_take 6 rfl (by kernel_rfl) (by kernel_rfl) (by kernel_rfl) (fun _ _ _ _ h => h) hS0 rfl ?_
  apply Exists.intro
  refine ⟨fun W hW => ?_, ?_⟩
  · have p2 := q2 W hW
    have p0 := q0 W hW
    have pl := ql W hW
    go_simp
    try rfl
  simp only [Act.put, List.setIfInBounds_toArray, List.set_cons_zero, List.set_cons_succ]
  refine h_take 7 rfl (by kernel_rfl) (by kernel_rfl) (by kernel_rfl) (fun _ _ _ _ h => h) hS0 rfl ?_
  apply Exists.intro
  refine ⟨fun W hW => ?_, ?_⟩
  · have p2 := q2 W hW
    have p0 := q0 W hW
    have pl := ql W hW
    go_simp
    try rfl
  simp only [Act.put, List.setIfInBounds_toArray, List.set_cons_zero, List.set_cons_succ]
  refine h_take 8 rfl (by kernel_rfl) (by kernel_rfl) (by kernel_rfl) (fun _ _ _ _ h => h) hS0 rfl ?_
  apply Exists.intro
  refine ⟨fun W hW => ?_, ?_⟩
  · have p2 := q2 W hW
    have p0 := q0 W hW
    have pl := ql W hW
    go_simp
    try rfl
  simp only [Act.put, List.setIfInBounds_toArray, List.set_cons_zero, List.set_cons_succ]
  refine h_take 9 rfl (by kernel_rfl) (by kernel_rfl) (by kernel_rfl) (fun _ _ _ _ h => h) hS0 rfl ?_
  apply Exists.intro
  refine ⟨fun W hW => ?_, ?_⟩
  · have p2 := q2 W hW
    have p0 := q0 W hW
    have pl := ql W hW
    go_simp
    try rfl
  simp only [Act.put, List.setIfInBounds_toArray, List.set_cons_zero, List.set_cons_succ]
  refine h_one 10 rfl (by kernel_rfl) rfl ?_
  refine op_val (by go_simp; exact ⟨rfl, rfl⟩) ?_
  refine ⟨by rw [hSe]; exact below_drew1 (below_alloc (Below.refl _ _) _), ?_⟩
  simp only [Act.put, List.setIfInBounds_toArray, List.set_cons_zero, List.set_cons_succ]
  refine h_one 11 rfl (by kernel_rfl) rfl ?_
  refine op_skip (w1 := (w2.alloc (.cells #[.string ⟨#[]⟩, .int .i64 0, .int .i64 0, .int .i64 0] 96)).drew) (by go_simp) ?_
  refine ⟨by rw [hSe]; exact below_drew1 (below_alloc (Below.refl _ _) _), ?_⟩
  simp only [Act.put]
  refine h_one 12 rfl (by kernel_rfl) rfl ?_
  refine op_val (by go_simp; exact ⟨rfl, rfl⟩) ?_
  refine ⟨by rw [hSe]; exact below_drew1 (below_alloc (Below.refl _ _) _), ?_⟩
  simp only [Act.put, List.setIfInBounds_toArray, List.set_cons_zero, List.set_cons_succ]
  refine wpAnyH_done (by kernel_rfl) ?_ _
  have hwe : Below w2.heap.size w2 (w2.alloc (.cells #[.string ⟨#[]⟩, .int .i64 0, .int .i64 0, .int .i64 0] 96)).drew := below_drew1 (below_alloc (Below.refl _ _) _)
  have hbn : ((w2.alloc (.cells #[.string ⟨#[]⟩, .int .i64 0, .int .i64 0, .int .i64 0] 96)).drew).heap[w2.heap.size]? = some (.cells #[.string ⟨#[]⟩, .int .i64 0, .int .i64 0, .int .i64 0] 96 (0, 0)) := blk_new w2 _
  generalize (w2.alloc (.cells #[.string ⟨#[]⟩, .int .i64 0, .int .i64 0, .int .i64 0] 96)).drew = w3 at *
  have hbk3 := blk_below hbk2 hwe
  have hrbone : w2.heap.size ≠ b := by have := HW2.out.size; omega
  have HW3 := Aside0.mk (HW2.out.before hwe (by have := HW2.out.size; omega))
  generalize w2.heap.size = rone at *
  have hrwone3 := hbn
  clear q0 q2 ql hS0 hSe hwe kP hbk2 HW2 hbn hrwtwo2 hrwone3 hrbtwo hrbone
  have z0 := blk_cell hbk3 0
  have z1 := blk_cell hbk3 1
  have z2 := blk_cell hbk3 2
  have z3 := blk_cell hbk3 3
  have z4 := blk_cell hbk3 4
  have e1 : (x.f0 == 1) = false := by rw [HOP.out]; rfl
  have e2 : (x.f0 == 2) = false := by rw [HOP.out]; rfl
  have e20 : (x.f0 == 20) = false := by rw [HOP.out]; rfl
  have e5 : (x.f0 == 5) = true := by rw [HOP.out]; rfl
  go_wp2_with fail
  refine (HA0.out w3 (HW3.out.from_ HB0.out hB0)).mono ?_
  rintro e W ⟨rfl, hWb⟩
  clear z0 z1 z2 z3 z4
  have HW4 := Aside0.mk (HW3.out.before hWb (by have := HW3.out.size; omega))
  have hbk4 := blk_below hbk3 hWb
  clear hWb HW3 hbk3 
  go_wp2_with fail
  refine (H0.out w0 B b m2 m1 _ W _ 14 false HC0.out ?a3 hB0 HT.out HW4.out.1 ?b4).mono ?_
  case a3 => exact HW4.out.from_ HB0.out hB0
  case b4 => have := HL.out; simp only [List.length_append, List.length_cons, List.length_nil, data_length] at this ⊢; omega
  rintro e w5 ⟨rfl, hw5⟩
  have hbk5 := hw5.blk hbk4 hgb (by decide)
  have HW5 := Aside0.mk (HW4.out.trans hw5)
  clear hw5 HW4 hbk4  
  go_wp2_with fail
  refine (writeByte_walk B b m2 m1 _ 39 _ HW5.out.1 ?a5 ?b6).mono ?_
  case a5 => have := HL.out; simp only [List.length_append, List.length_cons, List.length_nil, data_length] at this ⊢; unfold most at this; omega
  case b6 => have := HW5.out.size; omega
  rintro e w6 ⟨rfl, hw6⟩
  have hbk6 := hw6.blk hbk5 hgb (by decide)
  have HW6 := Aside0.mk (HW5.out.trans hw6)
  clear hw6 HW5 hbk5  
  go_wp2_with fail
  go_end0
  exact ⟨rfl, HW6.out⟩

set_option maxHeartbeats 4000000 in
set_option maxRecDepth 100000 in
theorem node_all (x : S24) (hop : x.f0 = 45) (hbn : atT x.f0 binT = none) (hb : atT x.f0 preT = none) (h0 : OprC (x.f3.getD 0 z24)) (h1 : NodeC (x.f3.getD 1 z24)) : NodeC x := by
  intro w0 B b m2 m1 bs w cs fin hx hb0 hB0 ht hP hlen
  obtain ⟨A, c, rfl, hlc, hA⟩ := k24_open hx
  have HX := Aside0.mk hx
  have HA := Aside0.mk hA
  have HP := Aside0.mk hP
  have HT := Aside0.mk ht
  have HB0 := Aside0.mk hb0
  have hlt := hP.lt
  have hlow := hP.low
  have hu24 := Tryd.underlying24
  have hu96 := Tryd.underlying96
  have htx : txt x fin = [97, 108, 108, 32] ++ bnd x := by rw [txt_def, hbn, hb]; simp [hop]
  rw [htx] at hlen ⊢
  have HL := Aside0.mk hlen
  have HQtwo := Aside0.mk hbn
  have HQone := Aside0.mk hb
  have HOP := Aside0.mk hop
  have H0 := Aside0.mk h0
  have H1 := Aside0.mk h1
  have hass : bs ++ ([97, 108, 108, 32] ++ bnd x) = (bs ++ [97, 108, 108, 32]) ++ bnd x := by simp
  rw [hass]
  clear hx hP ht hb0 hA hlc htx hlen hb hbn hop h0 h1 hass
  go_enter Tryd.func38, Tryd.ntmps38
  go_wp2_with ((with_reducible refine gate_dst (N := 4) rfl ?_); refine box_event rfl (N := 4) rfl (cs := #[.int .i64 x.f0, .string x.f1, .int .i64 x.f2, .slice A x.f3.length c, .int .i64 x.f4]) (t := 24) (by first | (go_simp; done) | (go_simp; rfl)) ?_; intro g hg w1 hbk1 hb1; have HG := Aside0.mk hg; clear hg)
  have HW1 := Aside0.mk (show Wrote B b m2 m1 bs w w1 from ⟨HP.out.below hb1, hb1.mono (by omega), fun i o hi _ _ => (hb1.block i (blk_lt hi)).trans hi⟩)
  have hgb : g ≠ b := by have := HG.out; omega
  clear hb1
  obtain ⟨S, hSe⟩ : ∃ S : World → Prop, S = fun W => Below w1.heap.size w1 W := ⟨_, rfl⟩
  obtain ⟨p, v, kP⟩ := HW1.out.1
  have q2 : ∀ W, S W → W.cell? ⟨b, 2, none⟩ = some (.map (some m2)) := fun W hW => by rw [hSe] at hW; exact blk_cell (blk_below kP.blk hW) 2
  have q0 : ∀ W, S W → W.cell? ⟨g, 0, none⟩ = some (.int .i64 x.f0) := fun W hW => by rw [hSe] at hW; exact blk_cell (blk_below hbk1 hW) 0
  have ql : ∀ W, S W → (Instr.lookup 73 (.map (some m2)) (.int .i64 x.f0) true).run Tryd.prog W = .ok (.tuple #[.agg #[.string ⟨#[]⟩, .int .i64 0, .int .i64 0, .int .i64 0], .bool false]) W := fun W hW => by
    rw [hSe] at hW
    rw [look_tab W m2 binT 17 (kP.below hW).two, HQtwo.out]
    rfl
  have hS0 : S w1.drew := by rw [hSe]; exact below_drew1 (Below.refl _ _)
  refine wp_region_held_drew (S := S) (by kernel_rfl) hS0 (fun _ => ?_)
  refine h_take 0 rfl (by kernel_rfl) (by kernel_rfl) (by kernel_rfl) (fun _ _ _ _ h => h) hS0 rfl ?_
  apply Exists.intro
  refine ⟨fun W hW => ?_, ?_⟩
  · have p2 := q2 W hW
    have p0 := q0 W hW
    have pl := ql W hW
    go_simp
    try rfl
  simp only [Act.put, List.setIfInBounds_toArray, List.set_cons_zero, List.set_cons_succ]
  refine h_take 1 rfl (by kernel_rfl) (by kernel_rfl) (by kernel_rfl) (fun _ _ _ _ h => h) hS0 rfl ?_
  apply Exists.intro
  refine ⟨fun W hW => ?_, ?_⟩
  · have p2 := q2 W hW
    have p0 := q0 W hW
    have pl := ql W hW
    go_simp
    try rfl
  simp only [Act.put, List.setIfInBounds_toArray, List.set_cons_zero, List.set_cons_succ]
  refine h_take 2 rfl (by kernel_rfl) (by kernel_rfl) (by kernel_rfl) (fun _ _ _ _ h => h) hS0 rfl ?_
  apply Exists.intro
  refine ⟨fun W hW => ?_, ?_⟩
  · have p2 := q2 W hW
    have p0 := q0 W hW
    have pl := ql W hW
    go_simp
    try rfl
  simp only [Act.put, List.setIfInBounds_toArray, List.set_cons_zero, List.set_cons_succ]
  refine h_take 3 rfl (by kernel_rfl) (by kernel_rfl) (by kernel_rfl) (fun _ _ _ _ h => h) hS0 rfl ?_
  apply Exists.intro
  refine ⟨fun W hW => ?_, ?_⟩
  · have p2 := q2 W hW
    have p0 := q0 W hW
    have pl := ql W hW
    go_simp
    try rfl
  simp only [Act.put, List.setIfInBounds_toArray, List.set_cons_zero, List.set_cons_succ]
  refine h_take 4 rfl (by kernel_rfl) (by kernel_rfl) (by kernel_rfl) (fun _ _ _ _ h => h) hS0 rfl ?_
  apply Exists.intro
  refine ⟨fun W hW => ?_, ?_⟩
  · have p2 := q2 W hW
    have p0 := q0 W hW
    have pl := ql W hW
    go_simp
    try rfl
  simp only [Act.put, List.setIfInBounds_toArray, List.set_cons_zero, List.set_cons_succ]
  refine h_take 5 rfl (by kernel_rfl) (by kernel_rfl) (by kernel_rfl) (fun _ _ _ _ h => h) hS0 rfl ?_
  apply Exists.intro
  refine ⟨fun W hW => ?_, ?_⟩
  · have p2 := q2 W hW
    have p0 := q0 W hW
    have pl := ql W hW
    go_simp
    try rfl
  simp only [Act.put, List.setIfInBounds_toArray, List.set_cons_zero, List.set_cons_succ]
  refine h_take 6 rfl (by kernel_rfl) (by kernel_rfl) (by kernel_rfl) (fun _ _ _ _ h => h) hS0 rfl ?_
  apply Exists.intro
  refine ⟨fun W hW => ?_, ?_⟩
  · have p2 := q2 W hW
    have p0 := q0 W hW
    have pl := ql W hW
    go_simp
    try rfl
  simp only [Act.put, List.setIfInBounds_toArray, List.set_cons_zero, List.set_cons_succ]
  refine h_take 7 rfl (by kernel_rfl) (by kernel_rfl) (by kernel_rfl) (fun _ _ _ _ h => h) hS0 rfl ?_
  apply Exists.intro
  refine ⟨fun W hW => ?_, ?_⟩
  · have p2 := q2 W hW
    have p0 := q0 W hW
    have pl := ql W hW
    go_simp
    try rfl
  simp only [Act.put, List.setIfInBounds_toArray, List.set_cons_zero, List.set_cons_succ]
  refine h_take 8 rfl (by kernel_rfl) (by kernel_rfl) (by kernel_rfl) (fun _ _ _ _ h => h) hS0 rfl ?_
  apply Exists.intro
  refine ⟨fun W hW => ?_, ?_⟩
  · have p2 := q2 W hW
    have p0 := q0 W hW
    have pl := ql W hW
    go_simp
    try rfl
  simp only [Act.put, List.setIfInBounds_toArray, List.set_cons_zero, List.set_cons_succ]
  refine h_take 9 rfl (by kernel_rfl) (by kernel_rfl) (by kernel_rfl) (fun _ _ _ _ h => h) hS0 rfl ?_
  apply Exists.intro
  refine ⟨fun W hW => ?_, ?_⟩
  · have p2 := q2 W hW
    have p0 := q0 W hW
    have pl := ql W hW
    go_simp
    try rfl
  simp only [Act.put, List.setIfInBounds_toArray, List.set_cons_zero, List.set_cons_succ]
  refine h_one 10 rfl (by kernel_rfl) rfl ?_
  refine op_val (by go_simp; exact ⟨rfl, rfl⟩) ?_
  refine ⟨by rw [hSe]; exact below_drew1 (below_alloc (Below.refl _ _) _), ?_⟩
  simp only [Act.put, List.setIfInBounds_toArray, List.set_cons_zero, List.set_cons_succ]
  refine h_one 11 rfl (by kernel_rfl) rfl ?_
  refine op_skip (w1 := (w1.alloc (.cells #[.string ⟨#[]⟩, .int .i64 0, .int .i64 0, .int .i64 0] 96)).drew) (by go_simp) ?_
  refine ⟨by rw [hSe]; exact below_drew1 (below_alloc (Below.refl _ _) _), ?_⟩
  simp only [Act.put]
  refine h_one 12 rfl (by kernel_rfl) rfl ?_
  refine op_val (by go_simp; exact ⟨rfl, rfl⟩) ?_
  refine ⟨by rw [hSe]; exact below_drew1 (below_alloc (Below.refl _ _) _), ?_⟩
  simp only [Act.put, List.setIfInBounds_toArray, List.set_cons_zero, List.set_cons_succ]
  refine wpAnyH_done (by kernel_rfl) ?_ _
  have hwe : Below w1.heap.size w1 (w1.alloc (.cells #[.string ⟨#[]⟩, .int .i64 0, .int .i64 0, .int .i64 0] 96)).drew := below_drew1 (below_alloc (Below.refl _ _) _)
  have hbn : ((w1.alloc (.cells #[.string ⟨#[]⟩, .int .i64 0, .int .i64 0, .int .i64 0] 96)).drew).heap[w1.heap.size]? = some (.cells #[.string ⟨#[]⟩, .int .i64 0, .int .i64 0, .int .i64 0] 96 (0, 0)) := blk_new w1 _
  generalize (w1.alloc (.cells #[.string ⟨#[]⟩, .int .i64 0, .int .i64 0, .int .i64 0] 96)).drew = w2 at *
  have hbk2 := blk_below hbk1 hwe
  have hrbtwo : w1.heap.size ≠ b := by have := HW1.out.size; omega
  have HW2 := Aside0.mk (HW1.out.before hwe (by have := HW1.out.size; omega))
  generalize w1.heap.size = rtwo at *
  have hrwtwo2 := hbn
  clear q0 q2 ql hS0 hSe hwe kP hbk1 HW1 hbn
  go_wp2_with fail
  obtain ⟨S, hSe⟩ : ∃ S : World → Prop, S = fun W => Below w2.heap.size w2 W := ⟨_, rfl⟩
  obtain ⟨p, v, kP⟩ := HW2.out.1
  have q2 : ∀ W, S W → W.cell? ⟨b, 3, none⟩ = some (.map (some m1)) := fun W hW => by rw [hSe] at hW; exact blk_cell (blk_below kP.blk hW) 3
  have q0 : ∀ W, S W → W.cell? ⟨g, 0, none⟩ = some (.int .i64 x.f0) := fun W hW => by rw [hSe] at hW; exact blk_cell (blk_below hbk2 hW) 0
  have ql : ∀ W, S W → (Instr.lookup 73 (.map (some m1)) (.int .i64 x.f0) true).run Tryd.prog W = .ok (.tuple #[.agg #[.string ⟨#[]⟩, .int .i64 0, .int .i64 0, .int .i64 0], .bool false]) W := fun W hW => by
    rw [hSe] at hW
    rw [look_tab W m1 preT 12 (kP.below hW).one, HQone.out]
    rfl
  have hS0 : S w2.drew := by rw [hSe]; exact below_drew1 (Below.refl _ _)
  refine wp_region_held_drew (S := S) (by kernel_rfl) hS0 (fun _ => ?_)
  refine h_take 0 rfl (by kernel_rfl) (by kernel_rfl) (by kernel_rfl) (fun _ _ _ _ h => h) hS0 rfl ?_
  apply Exists.intro
  refine ⟨fun W hW => ?_, ?_⟩
  · have p2 := q2 W hW
    have p0 := q0 W hW
    have pl := ql W hW
    go_simp
    try rfl
  simp only [Act.put, List.setIfInBounds_toArray, List.set_cons_zero, List.set_cons_succ]
  refine h_take 1 rfl (by kernel_rfl) (by kernel_rfl) (by kernel_rfl) (fun _ _ _ _ h => h) hS0 rfl ?_
  apply Exists.intro
  refine ⟨fun W hW => ?_, ?_⟩
  · have p2 := q2 W hW
    have p0 := q0 W hW
    have pl := ql W hW
    go_simp
    try rfl
  simp only [Act.put, List.setIfInBounds_toArray, List.set_cons_zero, List.set_cons_succ]
  refine h_take 2 rfl (by kernel_rfl) (by kernel_rfl) (by kernel_rfl) (fun _ _ _ _ h => h) hS0 rfl ?_
  apply Exists.intro
  refine ⟨fun W hW => ?_, ?_⟩
  · have p2 := q2 W hW
    have p0 := q0 W hW
    have pl := ql W hW
    go_simp
    try rfl
  simp only [Act.put, List.setIfInBounds_toArray, List.set_cons_zero, List.set_cons_succ]
  refine h_take 3 rfl (by kernel_rfl) (by kernel_rfl) (by kernel_rfl) (fun _ _ _ _ h => h) hS0 rfl ?_
  apply Exists.intro
  refine ⟨fun W hW => ?_, ?_⟩
  · have p2 := q2 W hW
    have p0 := q0 W hW
    have pl := ql W hW
    go_simp
    try rfl
  simp only [Act.put, List.setIfInBounds_toArray, List.set_cons_zero, List.set_cons_succ]
  refine h_take 4 rfl (by kernel_rfl) (by kernel_rfl) (by kernel_rfl) (fun _ _ _ _ h => h) hS0 rfl ?_
  apply Exists.intro
  refine ⟨fun W hW => ?_, ?_⟩
  · have p2 := q2 W hW
    have p0 := q0 W hW
    have pl := ql W hW
    go_simp
    try rfl
  simp only [Act.put, List.setIfInBounds_toArray, List.set_cons_zero, List.set_cons_succ]
  refine h_take 5 rfl (by kernel_rfl) (by kernel_rfl) (by kernel_rfl) (fun _ _ _ _ h => h) hS0 rfl ?_
  apply Exists.intro
  refine ⟨fun W hW => ?_, ?_⟩
  · have p2 := q2 W hW
    have p0 := q0 W hW
    have pl := ql W hW
    go_simp
    try rfl
  simp only [Act.put, List.setIfInBounds_toArray, List.set_cons_zero, List.set_cons_succ]
  refine h_take 6 rfl (by kernel_rfl) (by kernel_rfl) (by kernel_rfl) (fun _ _ _ _ h => h) hS0 rfl ?_
  apply Exists.intro
  refine ⟨fun W hW => ?_, ?_⟩
  · have p2 := q2 W hW
    have p0 := q0 W hW
    have pl := ql W hW
    go_simp
    try rfl
  simp only [Act.put, List.setIfInBounds_toArray, List.set_cons_zero, List.set_cons_succ]
  refine h_take 7 rfl (by kernel_rfl) (by kernel_rfl) (by kernel_rfl) (fun _ _ _ _ h => h) hS0 rfl ?_
  apply Exists.intro
  refine ⟨fun W hW => ?_, ?_⟩
  · have p2 := q2 W hW
    have p0 := q0 W hW
    have pl := ql W hW
    go_simp
    try rfl
  simp only [Act.put, List.setIfInBounds_toArray, List.set_cons_zero, List.set_cons_succ]
  refine h_take 8 rfl (by kernel_rfl) (by kernel_rfl) (by kernel_rfl) (fun _ _ _ _ h => h) hS0 rfl ?_
  apply Exists.intro
  refine ⟨fun W hW => ?_, ?_⟩
  · have p2 := q2 W hW
    have p0 := q0 W hW
    have pl := ql W hW
    go_simp
    try rfl
  simp only [Act.put, List.setIfInBounds_toArray, List.set_cons_zero, List.set_cons_succ]
  refine h_take 9 rfl (by kernel_rfl) (by kernel_rfl) (by kernel_rfl) (fun _ _ _ _ h => h) hS0 rfl ?_
  apply Exists.intro
  refine ⟨fun W hW => ?_, ?_⟩
  · have p2 := q2 W hW
    have p0 := q0 W hW
    have pl := ql W hW
    go_simp
    try rfl
  simp only [Act.put, List.setIfInBounds_toArray, List.set_cons_zero, List.set_cons_succ]
  refine h_one 10 rfl (by kernel_rfl) rfl ?_
  refine op_val (by go_simp; exact ⟨rfl, rfl⟩) ?_
  refine ⟨by rw [hSe]; exact below_drew1 (below_alloc (Below.refl _ _) _), ?_⟩
  simp only [Act.put, List.setIfInBounds_toArray, List.set_cons_zero, List.set_cons_succ]
  refine h_one 11 rfl (by kernel_rfl) rfl ?_
  refine op_skip (w1 := (w2.alloc (.cells #[.string ⟨#[]⟩, .int .i64 0, .int .i64 0, .int .i64 0] 96)).drew) (by go_simp) ?_
  refine ⟨by rw [hSe]; exact below_drew1 (below_alloc (Below.refl _ _) _), ?_⟩
  simp only [Act.put]
  refine h_one 12 rfl (by kernel_rfl) rfl ?_
  refine op_val (by go_simp; exact ⟨rfl, rfl⟩) ?_
  refine ⟨by rw [hSe]; exact below_drew1 (below_alloc (Below.refl _ _) _), ?_⟩
  simp only [Act.put, List.setIfInBounds_toArray, List.set_cons_zero, List.set_cons_succ]
  refine wpAnyH_done (by kernel_rfl) ?_ _
  have hwe : Below w2.heap.size w2 (w2.alloc (.cells #[.string ⟨#[]⟩, .int .i64 0, .int .i64 0, .int .i64 0] 96)).drew := below_drew1 (below_alloc (Below.refl _ _) _)
  have hbn : ((w2.alloc (.cells #[.string ⟨#[]⟩, .int .i64 0, .int .i64 0, .int .i64 0] 96)).drew).heap[w2.heap.size]? = some (.cells #[.string ⟨#[]⟩, .int .i64 0, .int .i64 0, .int .i64 0] 96 (0, 0)) := blk_new w2 _
  generalize (w2.alloc (.cells #[.string ⟨#[]⟩, .int .i64 0, .int .i64 0, .int .i64 0] 96)).drew = w3 at *
  have hbk3 := blk_below hbk2 hwe
  have hrbone : w2.heap.size ≠ b := by have := HW2.out.size; omega
  have HW3 := Aside0.mk (HW2.out.before hwe (by have := HW2.out.size; omega))
  generalize w2.heap.size = rone at *
  have hrwone3 := hbn
  clear q0 q2 ql hS0 hSe hwe kP hbk2 HW2 hbn hrwtwo2 hrwone3 hrbtwo hrbone
  have z0 := blk_cell hbk3 0
  have z1 := blk_cell hbk3 1
  have z2 := blk_cell hbk3 2
  have z3 := blk_cell hbk3 3
  have z4 := blk_cell hbk3 4
  have e1 : (x.f0 == 1) = false := by rw [HOP.out]; rfl
  have e2 : (x.f0 == 2) = false := by rw [HOP.out]; rfl
  have e20 : (x.f0 == 20) = false := by rw [HOP.out]; rfl
  have e5 : (x.f0 == 5) = false := by rw [HOP.out]; rfl
  have e45 : (x.f0 == 45) = true := by rw [HOP.out]; rfl
  go_wp2_with fail
  clear z0 z1 z2 z3 z4
  refine (writeL_walk B b m2 m1 _ [97, 108, 108, 32] _ HW3.out.1 ?a7 ?b8).mono ?_
  case a7 => have := HL.out; simp only [List.length_append, List.length_cons, List.length_nil, data_length] at this ⊢; omega
  case b8 => have := HW3.out.size; omega
  rintro e w4 ⟨rfl, hw4⟩
  have hbk4 := hw4.blk hbk3 hgb (by decide)
  have HW4 := Aside0.mk (HW3.out.trans hw4)
  clear hw4 HW3 hbk3  
  have z0 := blk_cell hbk4 0
  have z1 := blk_cell hbk4 1
  have z2 := blk_cell hbk4 2
  have z3 := blk_cell hbk4 3
  have z4 := blk_cell hbk4 4
  go_wp2_with fail
  clear z0 z1 z2 z3 z4
  refine (bound_walk x H0.out H1.out w0 B b m2 m1 _ _ _ HX.out ?a9 hB0 HT.out HW4.out.1 ?a10).mono ?_
  case a9 => exact HW4.out.from_ HB0.out hB0
  case a10 => have := HL.out; simp only [List.length_append, List.length_cons, List.length_nil, data_length] at this ⊢; omega
  rintro e w5 ⟨rfl, hw5⟩
  have hbk5 := hw5.blk hbk4 hgb (by decide)
  have HW5 := Aside0.mk (HW4.out.trans hw5)
  clear hw5 HW4 hbk4  
  go_wp2_with fail
  go_end0
  exact ⟨rfl, HW5.out⟩

set_option maxHeartbeats 4000000 in
set_option maxRecDepth 100000 in
theorem node_some (x : S24) (hop : x.f0 = 46) (hbn : atT x.f0 binT = none) (hb : atT x.f0 preT = none) (h0 : OprC (x.f3.getD 0 z24)) (h1 : NodeC (x.f3.getD 1 z24)) : NodeC x := by
  intro w0 B b m2 m1 bs w cs fin hx hb0 hB0 ht hP hlen
  obtain ⟨A, c, rfl, hlc, hA⟩ := k24_open hx
  have HX := Aside0.mk hx
  have HA := Aside0.mk hA
  have HP := Aside0.mk hP
  have HT := Aside0.mk ht
  have HB0 := Aside0.mk hb0
  have hlt := hP.lt
  have hlow := hP.low
  have hu24 := Tryd.underlying24
  have hu96 := Tryd.underlying96
  have htx : txt x fin = [115, 111, 109, 101, 32] ++ bnd x := by rw [txt_def, hbn, hb]; simp [hop]
  rw [htx] at hlen ⊢
  have HL := Aside0.mk hlen
  have HQtwo := Aside0.mk hbn
  have HQone := Aside0.mk hb
  have HOP := Aside0.mk hop
  have H0 := Aside0.mk h0
  have H1 := Aside0.mk h1
  have hass : bs ++ ([115, 111, 109, 101, 32] ++ bnd x) = (bs ++ [115, 111, 109, 101, 32]) ++ bnd x := by simp
  rw [hass]
  clear hx hP ht hb0 hA hlc htx hlen hb hbn hop h0 h1 hass
  go_enter Tryd.func38, Tryd.ntmps38
  go_wp2_with ((with_reducible refine gate_dst (N := 4) rfl ?_); refine box_event rfl (N := 4) rfl (cs := #[.int .i64 x.f0, .string x.f1, .int .i64 x.f2, .slice A x.f3.length c, .int .i64 x.f4]) (t := 24) (by first | (go_simp; done) | (go_simp; rfl)) ?_; intro g hg w1 hbk1 hb1; have HG := Aside0.mk hg; clear hg)
  have HW1 := Aside0.mk (show Wrote B b m2 m1 bs w w1 from ⟨HP.out.below hb1, hb1.mono (by omega), fun i o hi _ _ => (hb1.block i (blk_lt hi)).trans hi⟩)
  have hgb : g ≠ b := by have := HG.out; omega
  clear hb1
  obtain ⟨S, hSe⟩ : ∃ S : World → Prop, S = fun W => Below w1.heap.size w1 W := ⟨_, rfl⟩
  obtain ⟨p, v, kP⟩ := HW1.out.1
  have q2 : ∀ W, S W → W.cell? ⟨b, 2, none⟩ = some (.map (some m2)) := fun W hW => by rw [hSe] at hW; exact blk_cell (blk_below kP.blk hW) 2
  have q0 : ∀ W, S W → W.cell? ⟨g, 0, none⟩ = some (.int .i64 x.f0) := fun W hW => by rw [hSe] at hW; exact blk_cell (blk_below hbk1 hW) 0
  have ql : ∀ W, S W → (Instr.lookup 73 (.map (some m2)) (.int .i64 x.f0) true).run Tryd.prog W = .ok (.tuple #[.agg #[.string ⟨#[]⟩, .int .i64 0, .int .i64 0, .int .i64 0], .bool false]) W := fun W hW => by
    rw [hSe] at hW
    rw [look_tab W m2 binT 17 (kP.below hW).two, HQtwo.out]
    rfl
  have hS0 : S w1.drew := by rw [hSe]; exact below_drew1 (Below.refl _ _)
  refine wp_region_held_drew (S := S) (by kernel_rfl) hS0 (fun _ => ?_)
  refine h_take 0 rfl (by kernel_rfl) (by kernel_rfl) (by kernel_rfl) (fun _ _ _ _ h => h) hS0 rfl ?_
  apply Exists.intro
  refine ⟨fun W hW => ?_, ?_⟩
  · have p2 := q2 W hW
    have p0 := q0 W hW
    have pl := ql W hW
    go_simp
    try rfl
  simp only [Act.put, List.setIfInBounds_toArray, List.set_cons_zero, List.set_cons_succ]
  refine h_take 1 rfl (by kernel_rfl) (by kernel_rfl) (by kernel_rfl) (fun _ _ _ _ h => h) hS0 rfl ?_
  apply Exists.intro
  refine ⟨fun W hW => ?_, ?_⟩
  · have p2 := q2 W hW
    have p0 := q0 W hW
    have pl := ql W hW
    go_simp
    try rfl
  simp only [Act.put, List.setIfInBounds_toArray, List.set_cons_zero, List.set_cons_succ]
  refine h_take 2 rfl (by kernel_rfl) (by kernel_rfl) (by kernel_rfl) (fun _ _ _ _ h => h) hS0 rfl ?_
  apply Exists.intro
  refine ⟨fun W hW => ?_, ?_⟩
  · have p2 := q2 W hW
    have p0 := q0 W hW
    have pl := ql W hW
    go_simp
    try rfl
  simp only [Act.put, List.setIfInBounds_toArray, List.set_cons_zero, List.set_cons_succ]
  refine h_take 3 rfl (by kernel_rfl) (by kernel_rfl) (by kernel_rfl) (fun _ _ _ _ h => h) hS0 rfl ?_
  apply Exists.intro
  refine ⟨fun W hW => ?_, ?_⟩
  · have p2 := q2 W hW
    have p0 := q0 W hW
    have pl := ql W hW
    go_simp
    try rfl
  simp only [Act.put, List.setIfInBounds_toArray, List.set_cons_zero, List.set_cons_succ]
  refine h_take 4 rfl (by kernel_rfl) (by kernel_rfl) (by kernel_rfl) (fun _ _ _ _ h => h) hS0 rfl ?_
  apply Exists.intro
  refine ⟨fun W hW => ?_, ?_⟩
  · have p2 := q2 W hW
    have p0 := q0 W hW
    have pl := ql W hW
    go_simp
    try rfl
  simp only [Act.put, List.setIfInBounds_toArray, List.set_cons_zero, List.set_cons_succ]
  refine h_take 5 rfl (by kernel_rfl) (by kernel_rfl) (by kernel_rfl) (fun _ _ _ _ h => h) hS0 rfl ?_
  apply Exists.intro
  refine ⟨fun W hW => ?_, ?_⟩
  · have p2 := q2 W hW
    have p0 := q0 W hW
    have pl := ql W hW
    go_simp
    try rfl
  simp only [Act.put, List.setIfInBounds_toArray, List.set_cons_zero, List.set_cons_succ]
  refine h_take 6 rfl (by kernel_rfl) (by kernel_rfl) (by kernel_rfl) (fun _ _ _ _ h => h) hS0 rfl ?_
  apply Exists.intro
  refine ⟨fun W hW => ?_, ?_⟩
  · have p2 := q2 W hW
    have p0 := q0 W hW
    have pl := ql W hW
    go_simp
    try rfl
  simp only [Act.put, List.setIfInBounds_toArray, List.set_cons_zero, List.set_cons_succ]
  refine h_take 7 rfl (by kernel_rfl) (by kernel_rfl) (by kernel_rfl) (fun _ _ _ _ h => h) hS0 rfl ?_
  apply Exists.intro
  refine ⟨fun W hW => ?_, ?_⟩
  · have p2 := q2 W hW
    have p0 := q0 W hW
    have pl := ql W hW
    go_simp
    try rfl
  simp only [Act.put, List.setIfInBounds_toArray, List.set_cons_zero, List.set_cons_succ]
  refine h_take 8 rfl (by kernel_rfl) (by kernel_rfl) (by kernel_rfl) (fun _ _ _ _ h => h) hS0 rfl ?_
  apply Exists.intro
  refine ⟨fun W hW => ?_, ?_⟩
  · have p2 := q2 W hW
    have p0 := q0 W hW
    have pl := ql W hW
    go_simp
    try rfl
  simp only [Act.put, List.setIfInBounds_toArray, List.set_cons_zero, List.set_cons_succ]
  refine h_take 9 rfl (by kernel_rfl) (by kernel_rfl) (by kernel_rfl) (fun _ _ _ _ h => h) hS0 rfl ?_
  apply Exists.intro
  refine ⟨fun W hW => ?_, ?_⟩
  · have p2 := q2 W hW
    have p0 := q0 W hW
    have pl := ql W hW
    go_simp
    try rfl
  simp only [Act.put, List.setIfInBounds_toArray, List.set_cons_zero, List.set_cons_succ]
  refine h_one 10 rfl (by kernel_rfl) rfl ?_
  refine op_val (by go_simp; exact ⟨rfl, rfl⟩) ?_
  refine ⟨by rw [hSe]; exact below_drew1 (below_alloc (Below.refl _ _) _), ?_⟩
  simp only [Act.put, List.setIfInBounds_toArray, List.set_cons_zero, List.set_cons_succ]
  refine h_one 11 rfl (by kernel_rfl) rfl ?_
  refine op_skip (w1 := (w1.alloc (.cells #[.string ⟨#[]⟩, .int .i64 0, .int .i64 0, .int .i64 0] 96)).drew) (by go_simp) ?_
  refine ⟨by rw [hSe]; exact below_drew1 (below_alloc (Below.refl _ _) _), ?_⟩
  simp only [Act.put]
  refine h_one 12 rfl (by kernel_rfl) rfl ?_
  refine op_val (by go_simp; exact ⟨rfl, rfl⟩) ?_
  refine ⟨by rw [hSe]; exact below_drew1 (below_alloc (Below.refl _ _) _), ?_⟩
  simp only [Act.put, List.setIfInBounds_toArray, List.set_cons_zero, List.set_cons_succ]
  refine wpAnyH_done (by kernel_rfl) ?_ _
  have hwe : Below w1.heap.size w1 (w1.alloc (.cells #[.string ⟨#[]⟩, .int .i64 0, .int .i64 0, .int .i64 0] 96)).drew := below_drew1 (below_alloc (Below.refl _ _) _)
  have hbn : ((w1.alloc (.cells #[.string ⟨#[]⟩, .int .i64 0, .int .i64 0, .int .i64 0] 96)).drew).heap[w1.heap.size]? = some (.cells #[.string ⟨#[]⟩, .int .i64 0, .int .i64 0, .int .i64 0] 96 (0, 0)) := blk_new w1 _
  generalize (w1.alloc (.cells #[.string ⟨#[]⟩, .int .i64 0, .int .i64 0, .int .i64 0] 96)).drew = w2 at *
  have hbk2 := blk_below hbk1 hwe
  have hrbtwo : w1.heap.size ≠ b := by have := HW1.out.size; omega
  have HW2 := Aside0.mk (HW1.out.before hwe (by have := HW1.out.size; omega))
  generalize w1.heap.size = rtwo at *
  have hrwtwo2 := hbn
  clear q0 q2 ql hS0 hSe hwe kP hbk1 HW1 hbn
  go_wp2_with fail
  obtain ⟨S, hSe⟩ : ∃ S : World → Prop, S = fun W => Below w2.heap.size w2 W := ⟨_, rfl⟩
  obtain ⟨p, v, kP⟩ := HW2.out.1
  have q2 : ∀ W, S W → W.cell? ⟨b, 3, none⟩ = some (.map (some m1)) := fun W hW => by rw [hSe] at hW; exact blk_cell (blk_below kP.blk hW) 3
  have q0 : ∀ W, S W → W.cell? ⟨g, 0, none⟩ = some (.int .i64 x.f0) := fun W hW => by rw [hSe] at hW; exact blk_cell (blk_below hbk2 hW) 0
  have ql : ∀ W, S W → (Instr.lookup 73 (.map (some m1)) (.int .i64 x.f0) true).run Tryd.prog W = .ok (.tuple #[.agg #[.string ⟨#[]⟩, .int .i64 0, .int .i64 0, .int .i64 0], .bool false]) W := fun W hW => by
    rw [hSe] at hW
    rw [look_tab W m1 preT 12 (kP.below hW).one, HQone.out]
    rfl
  have hS0 : S w2.drew := by rw [hSe]; exact below_drew1 (Below.refl _ _)
  refine wp_region_held_drew (S := S) (by kernel_rfl) hS0 (fun _ => ?_)
  refine h_take 0 rfl (by kernel_rfl) (by kernel_rfl) (by kernel_rfl) (fun _ _ _ _ h => h) hS0 rfl ?_
  apply Exists.intro
  refine ⟨fun W hW => ?_, ?_⟩
  · have p2 := q2 W hW
    have p0 := q0 W hW
    have pl := ql W hW
    go_simp
    try rfl
  simp only [Act.put, List.setIfInBounds_toArray, List.set_cons_zero, List.set_cons_succ]
  refine h_take 1 rfl (by kernel_rfl) (by kernel_rfl) (by kernel_rfl) (fun _ _ _ _ h => h) hS0 rfl ?_
  apply Exists.intro
  refine ⟨fun W hW => ?_, ?_⟩
  · have p2 := q2 W hW
    have p0 := q0 W hW
    have pl := ql W hW
    go_simp
    try rfl
  simp only [Act.put, List.setIfInBounds_toArray, List.set_cons_zero, List.set_cons_succ]
  refine h_take 2 rfl (by kernel_rfl) (by kernel_rfl) (by kernel_rfl) (fun _ _ _ _ h => h) hS0 rfl ?_
  apply Exists.intro
  refine ⟨fun W hW => ?_, ?_⟩
  · have p2 := q2 W hW
    have p0 := q0 W hW
    have pl := ql W hW
    go_simp
    try rfl
  simp only [Act.put, List.setIfInBounds_toArray, List.set_cons_zero, List.set_cons_succ]
  refine h_take 3 rfl (by kernel_rfl) (by kernel_rfl) (by kernel_rfl) (fun _ _ _ _ h => h) hS0 rfl ?_
  apply Exists.intro
  refine ⟨fun W hW => ?_, ?_⟩
  · have p2 := q2 W hW
    have p0 := q0 W hW
    have pl := ql W hW
    go_simp
    try rfl
  simp only [Act.put, List.setIfInBounds_toArray, List.set_cons_zero, List.set_cons_succ]
  refine h_take 4 rfl (by kernel_rfl) (by kernel_rfl) (by kernel_rfl) (fun _ _ _ _ h => h) hS0 rfl ?_
  apply Exists.intro
  refine ⟨fun W hW => ?_, ?_⟩
  · have p2 := q2 W hW
    have p0 := q0 W hW
    have pl := ql W hW
    go_simp
    try rfl
  simp only [Act.put, List.setIfInBounds_toArray, List.set_cons_zero, List.set_cons_succ]
  refine h_take 5 rfl (by kernel_rfl) (by kernel_rfl) (by kernel_rfl) (fun _ _ _ _ h => h) hS0 rfl ?_
  apply Exists.intro
  refine ⟨fun W hW => ?_, ?_⟩
  · have p2 := q2 W hW
    have p0 := q0 W hW
    have pl := ql W hW
    go_simp
    try rfl
  simp only [Act.put, List.setIfInBounds_toArray, List.set_cons_zero, List.set_cons_succ]
  refine h_take 6 rfl (by kernel_rfl) (by kernel_rfl) (by kernel_rfl) (fun _ _ _ _ h => h) hS0 rfl ?_
  apply Exists.intro
  refine ⟨fun W hW => ?_, ?_⟩
  · have p2 := q2 W hW
    have p0 := q0 W hW
    have pl := ql W hW
    go_simp
    try rfl
  simp only [Act.put, List.setIfInBounds_toArray, List.set_cons_zero, List.set_cons_succ]
  refine h_take 7 rfl (by kernel_rfl) (by kernel_rfl) (by kernel_rfl) (fun _ _ _ _ h => h) hS0 rfl ?_
  apply Exists.intro
  refine ⟨fun W hW => ?_, ?_⟩
  · have p2 := q2 W hW
    have p0 := q0 W hW
    have pl := ql W hW
    go_simp
    try rfl
  simp only [Act.put, List.setIfInBounds_toArray, List.set_cons_zero, List.set_cons_succ]
  refine h_take 8 rfl (by kernel_rfl) (by kernel_rfl) (by kernel_rfl) (fun _ _ _ _ h => h) hS0 rfl ?_
  apply Exists.intro
  refine ⟨fun W hW => ?_, ?_⟩
  · have p2 := q2 W hW
    have p0 := q0 W hW
    have pl := ql W hW
    go_simp
    try rfl
  simp only [Act.put, List.setIfInBounds_toArray, List.set_cons_zero, List.set_cons_succ]
  refine h_take 9 rfl (by kernel_rfl) (by kernel_rfl) (by kernel_rfl) (fun _ _ _ _ h => h) hS0 rfl ?_
  apply Exists.intro
  refine ⟨fun W hW => ?_, ?_⟩
  · have p2 := q2 W hW
    have p0 := q0 W hW
    have pl := ql W hW
    go_simp
    try rfl
  simp only [Act.put, List.setIfInBounds_toArray, List.set_cons_zero, List.set_cons_succ]
  refine h_one 10 rfl (by kernel_rfl) rfl ?_
  refine op_val (by go_simp; exact ⟨rfl, rfl⟩) ?_
  refine ⟨by rw [hSe]; exact below_drew1 (below_alloc (Below.refl _ _) _), ?_⟩
  simp only [Act.put, List.setIfInBounds_toArray, List.set_cons_zero, List.set_cons_succ]
  refine h_one 11 rfl (by kernel_rfl) rfl ?_
  refine op_skip (w1 := (w2.alloc (.cells #[.string ⟨#[]⟩, .int .i64 0, .int .i64 0, .int .i64 0] 96)).drew) (by go_simp) ?_
  refine ⟨by rw [hSe]; exact below_drew1 (below_alloc (Below.refl _ _) _), ?_⟩
  simp only [Act.put]
  refine h_one 12 rfl (by kernel_rfl) rfl ?_
  refine op_val (by go_simp; exact ⟨rfl, rfl⟩) ?_
  refine ⟨by rw [hSe]; exact below_drew1 (below_alloc (Below.refl _ _) _), ?_⟩
  simp only [Act.put, List.setIfInBounds_toArray, List.set_cons_zero, List.set_cons_succ]
  refine wpAnyH_done (by kernel_rfl) ?_ _
  have hwe : Below w2.heap.size w2 (w2.alloc (.cells #[.string ⟨#[]⟩, .int .i64 0, .int .i64 0, .int .i64 0] 96)).drew := below_drew1 (below_alloc (Below.refl _ _) _)
  have hbn : ((w2.alloc (.cells #[.string ⟨#[]⟩, .int .i64 0, .int .i64 0, .int .i64 0] 96)).drew).heap[w2.heap.size]? = some (.cells #[.string ⟨#[]⟩, .int .i64 0, .int .i64 0, .int .i64 0] 96 (0, 0)) := blk_new w2 _
  generalize (w2.alloc (.cells #[.string ⟨#[]⟩, .int .i64 0, .int .i64 0, .int .i64 0] 96)).drew = w3 at *
  have hbk3 := blk_below hbk2 hwe
  have hrbone : w2.heap.size ≠ b := by have := HW2.out.size; omega
  have HW3 := Aside0.mk (HW2.out.before hwe (by have := HW2.out.size; omega))
  generalize w2.heap.size = rone at *
  have hrwone3 := hbn
  clear q0 q2 ql hS0 hSe hwe kP hbk2 HW2 hbn hrwtwo2 hrwone3 hrbtwo hrbone
  have z0 := blk_cell hbk3 0
  have z1 := blk_cell hbk3 1
  have z2 := blk_cell hbk3 2
  have z3 := blk_cell hbk3 3
  have z4 := blk_cell hbk3 4
  have e1 : (x.f0 == 1) = false := by rw [HOP.out]; rfl
  have e2 : (x.f0 == 2) = false := by rw [HOP.out]; rfl
  have e20 : (x.f0 == 20) = false := by rw [HOP.out]; rfl
  have e5 : (x.f0 == 5) = false := by rw [HOP.out]; rfl
  have e45 : (x.f0 == 45) = false := by rw [HOP.out]; rfl
  have e46 : (x.f0 == 46) = true := by rw [HOP.out]; rfl
  go_wp2_with fail
  clear z0 z1 z2 z3 z4
  refine (writeL_walk B b m2 m1 _ [115, 111, 109, 101, 32] _ HW3.out.1 ?a11 ?b12).mono ?_
  case a11 => have := HL.out; simp only [List.length_append, List.length_cons, List.length_nil, data_length] at this ⊢; omega
  case b12 => have := HW3.out.size; omega
  rintro e w4 ⟨rfl, hw4⟩
  have hbk4 := hw4.blk hbk3 hgb (by decide)
  have HW4 := Aside0.mk (HW3.out.trans hw4)
  clear hw4 HW3 hbk3  
  have z0 := blk_cell hbk4 0
  have z1 := blk_cell hbk4 1
  have z2 := blk_cell hbk4 2
  have z3 := blk_cell hbk4 3
  have z4 := blk_cell hbk4 4
  go_wp2_with fail
  clear z0 z1 z2 z3 z4
  refine (bound_walk x H0.out H1.out w0 B b m2 m1 _ _ _ HX.out ?a13 hB0 HT.out HW4.out.1 ?a14).mono ?_
  case a13 => exact HW4.out.from_ HB0.out hB0
  case a14 => have := HL.out; simp only [List.length_append, List.length_cons, List.length_nil, data_length] at this ⊢; omega
  rintro e w5 ⟨rfl, hw5⟩
  have hbk5 := hw5.blk hbk4 hgb (by decide)
  have HW5 := Aside0.mk (HW4.out.trans hw5)
  clear hw5 HW4 hbk4  
  go_wp2_with fail
  go_end0
  exact ⟨rfl, HW5.out⟩

set_option maxHeartbeats 4000000 in
set_option maxRecDepth 100000 in
theorem node_compr (x : S24) (hop : x.f0 = 15) (hbn : atT x.f0 binT = none) (hb : atT x.f0 preT = none) (h0 : OprC (x.f3.getD 0 z24)) (h1 : NodeC (x.f3.getD 1 z24)) : NodeC x := by
  intro w0 B b m2 m1 bs w cs fin hx hb0 hB0 ht hP hlen
  obtain ⟨A, c, rfl, hlc, hA⟩ := k24_open hx
  have HX := Aside0.mk hx
  have HA := Aside0.mk hA
  have HP := Aside0.mk hP
  have HT := Aside0.mk ht
  have HB0 := Aside0.mk hb0
  have hlt := hP.lt
  have hlow := hP.low
  have hu24 := Tryd.underlying24
  have hu96 := Tryd.underlying96
  have htx : txt x fin = [123] ++ bnd x ++ [125] := by rw [txt_def, hbn, hb]; simp [hop]
  rw [htx] at hlen ⊢
  have HL := Aside0.mk hlen
  have HQtwo := Aside0.mk hbn
  have HQone := Aside0.mk hb
  have HOP := Aside0.mk hop
  have H0 := Aside0.mk h0
  have H1 := Aside0.mk h1
  have hass : bs ++ ([123] ++ bnd x ++ [125]) = ((bs ++ [123]) ++ bnd x) ++ [125] := by simp
  rw [hass]
  clear hx hP ht hb0 hA hlc htx hlen hb hbn hop h0 h1 hass
  go_enter Tryd.func38, Tryd.ntmps38
  go_wp2_with ((with_reducible refine gate_dst (N := 4) rfl ?_); refine box_event rfl (N := 4) rfl (cs := #[.int .i64 x.f0, .string x.f1, .int .i64 x.f2, .slice A x.f3.length c, .int .i64 x.f4]) (t := 24) (by first | (go_simp; done) | (go_simp; rfl)) ?_; intro g hg w1 hbk1 hb1; have HG := Aside0.mk hg; clear hg)
  have HW1 := Aside0.mk (show Wrote B b m2 m1 bs w w1 from ⟨HP.out.below hb1, hb1.mono (by omega), fun i o hi _ _ => (hb1.block i (blk_lt hi)).trans hi⟩)
  have hgb : g ≠ b := by have := HG.out; omega
  clear hb1
  obtain ⟨S, hSe⟩ : ∃ S : World → Prop, S = fun W => Below w1.heap.size w1 W := ⟨_, rfl⟩
  obtain ⟨p, v, kP⟩ := HW1.out.1
  have q2 : ∀ W, S W → W.cell? ⟨b, 2, none⟩ = some (.map (some m2)) := fun W hW => by rw [hSe] at hW; exact blk_cell (blk_below kP.blk hW) 2
  have q0 : ∀ W, S W → W.cell? ⟨g, 0, none⟩ = some (.int .i64 x.f0) := fun W hW => by rw [hSe] at hW; exact blk_cell (blk_below hbk1 hW) 0
  have ql : ∀ W, S W → (Instr.lookup 73 (.map (some m2)) (.int .i64 x.f0) true).run Tryd.prog W = .ok (.tuple #[.agg #[.string ⟨#[]⟩, .int .i64 0, .int .i64 0, .int .i64 0], .bool false]) W := fun W hW => by
    rw [hSe] at hW
    rw [look_tab W m2 binT 17 (kP.below hW).two, HQtwo.out]
    rfl
  have hS0 : S w1.drew := by rw [hSe]; exact below_drew1 (Below.refl _ _)
  refine wp_region_held_drew (S := S) (by kernel_rfl) hS0 (fun _ => ?_)
  refine h_take 0 rfl (by kernel_rfl) (by kernel_rfl) (by kernel_rfl) (fun _ _ _ _ h => h) hS0 rfl ?_
  apply Exists.intro
  refine ⟨fun W hW => ?_, ?_⟩
  · have p2 := q2 W hW
    have p0 := q0 W hW
    have pl := ql W hW
    go_simp
    try rfl
  simp only [Act.put, List.setIfInBounds_toArray, List.set_cons_zero, List.set_cons_succ]
  refine h_take 1 rfl (by kernel_rfl) (by kernel_rfl) (by kernel_rfl) (fun _ _ _ _ h => h) hS0 rfl ?_
  apply Exists.intro
  refine ⟨fun W hW => ?_, ?_⟩
  · have p2 := q2 W hW
    have p0 := q0 W hW
    have pl := ql W hW
    go_simp
    try rfl
  simp only [Act.put, List.setIfInBounds_toArray, List.set_cons_zero, List.set_cons_succ]
  refine h_take 2 rfl (by kernel_rfl) (by kernel_rfl) (by kernel_rfl) (fun _ _ _ _ h => h) hS0 rfl ?_
  apply Exists.intro
  refine ⟨fun W hW => ?_, ?_⟩
  · have p2 := q2 W hW
    have p0 := q0 W hW
    have pl := ql W hW
    go_simp
    try rfl
  simp only [Act.put, List.setIfInBounds_toArray, List.set_cons_zero, List.set_cons_succ]
  refine h_take 3 rfl (by kernel_rfl) (by kernel_rfl) (by kernel_rfl) (fun _ _ _ _ h => h) hS0 rfl ?_
  apply Exists.intro
  refine ⟨fun W hW => ?_, ?_⟩
  · have p2 := q2 W hW
    have p0 := q0 W hW
    have pl := ql W hW
    go_simp
    try rfl
  simp only [Act.put, List.setIfInBounds_toArray, List.set_cons_zero, List.set_cons_succ]
  refine h_take 4 rfl (by kernel_rfl) (by kernel_rfl) (by kernel_rfl) (fun _ _ _ _ h => h) hS0 rfl ?_
  apply Exists.intro
  refine ⟨fun W hW => ?_, ?_⟩
  · have p2 := q2 W hW
    have p0 := q0 W hW
    have pl := ql W hW
    go_simp
    try rfl
  simp only [Act.put, List.setIfInBounds_toArray, List.set_cons_zero, List.set_cons_succ]
  refine h_take 5 rfl (by kernel_rfl) (by kernel_rfl) (by kernel_rfl) (fun _ _ _ _ h => h) hS0 rfl ?_
  apply Exists.intro
  refine ⟨fun W hW => ?_, ?_⟩
  · have p2 := q2 W hW
    have p0 := q0 W hW
    have pl := ql W hW
    go_simp
    try rfl
  simp only [Act.put, List.setIfInBounds_toArray, List.set_cons_zero, List.set_cons_succ]
  refine h_take 6 rfl (by kernel_rfl) (by kernel_rfl) (by kernel_rfl) (fun _ _ _ _ h => h) hS0 rfl ?_
  apply Exists.intro
  refine ⟨fun W hW => ?_, ?_⟩
  · have p2 := q2 W hW
    have p0 := q0 W hW
    have pl := ql W hW
    go_simp
    try rfl
  simp only [Act.put, List.setIfInBounds_toArray, List.set_cons_zero, List.set_cons_succ]
  refine h_take 7 rfl (by kernel_rfl) (by kernel_rfl) (by kernel_rfl) (fun _ _ _ _ h => h) hS0 rfl ?_
  apply Exists.intro
  refine ⟨fun W hW => ?_, ?_⟩
  · have p2 := q2 W hW
    have p0 := q0 W hW
    have pl := ql W hW
    go_simp
    try rfl
  simp only [Act.put, List.setIfInBounds_toArray, List.set_cons_zero, List.set_cons_succ]
  refine h_take 8 rfl (by kernel_rfl) (by kernel_rfl) (by kernel_rfl) (fun _ _ _ _ h => h) hS0 rfl ?_
  apply Exists.intro
  refine ⟨fun W hW => ?_, ?_⟩
  · have p2 := q2 W hW
    have p0 := q0 W hW
    have pl := ql W hW
    go_simp
    try rfl
  simp only [Act.put, List.setIfInBounds_toArray, List.set_cons_zero, List.set_cons_succ]
  refine h_take 9 rfl (by kernel_rfl) (by kernel_rfl) (by kernel_rfl) (fun _ _ _ _ h => h) hS0 rfl ?_
  apply Exists.intro
  refine ⟨fun W hW => ?_, ?_⟩
  · have p2 := q2 W hW
    have p0 := q0 W hW
    have pl := ql W hW
    go_simp
    try rfl
  simp only [Act.put, List.setIfInBounds_toArray, List.set_cons_zero, List.set_cons_succ]
  refine h_one 10 rfl (by kernel_rfl) rfl ?_
  refine op_val (by go_simp; exact ⟨rfl, rfl⟩) ?_
  refine ⟨by rw [hSe]; exact below_drew1 (below_alloc (Below.refl _ _) _), ?_⟩
  simp only [Act.put, List.setIfInBounds_toArray, List.set_cons_zero, List.set_cons_succ]
  refine h_one 11 rfl (by kernel_rfl) rfl ?_
  refine op_skip (w1 := (w1.alloc (.cells #[.string ⟨#[]⟩, .int .i64 0, .int .i64 0, .int .i64 0] 96)).drew) (by go_simp) ?_
  refine ⟨by rw [hSe]; exact below_drew1 (below_alloc (Below.refl _ _) _), ?_⟩
  simp only [Act.put]
  refine h_one 12 rfl (by kernel_rfl) rfl ?_
  refine op_val (by go_simp; exact ⟨rfl, rfl⟩) ?_
  refine ⟨by rw [hSe]; exact below_drew1 (below_alloc (Below.refl _ _) _), ?_⟩
  simp only [Act.put, List.setIfInBounds_toArray, List.set_cons_zero, List.set_cons_succ]
  refine wpAnyH_done (by kernel_rfl) ?_ _
  have hwe : Below w1.heap.size w1 (w1.alloc (.cells #[.string ⟨#[]⟩, .int .i64 0, .int .i64 0, .int .i64 0] 96)).drew := below_drew1 (below_alloc (Below.refl _ _) _)
  have hbn : ((w1.alloc (.cells #[.string ⟨#[]⟩, .int .i64 0, .int .i64 0, .int .i64 0] 96)).drew).heap[w1.heap.size]? = some (.cells #[.string ⟨#[]⟩, .int .i64 0, .int .i64 0, .int .i64 0] 96 (0, 0)) := blk_new w1 _
  generalize (w1.alloc (.cells #[.string ⟨#[]⟩, .int .i64 0, .int .i64 0, .int .i64 0] 96)).drew = w2 at *
  have hbk2 := blk_below hbk1 hwe
  have hrbtwo : w1.heap.size ≠ b := by have := HW1.out.size; omega
  have HW2 := Aside0.mk (HW1.out.before hwe (by have := HW1.out.size; omega))
  generalize w1.heap.size = rtwo at *
  have hrwtwo2 := hbn
  clear q0 q2 ql hS0 hSe hwe kP hbk1 HW1 hbn
  go_wp2_with fail
  obtain ⟨S, hSe⟩ : ∃ S : World → Prop, S = fun W => Below w2.heap.size w2 W := ⟨_, rfl⟩
  obtain ⟨p, v, kP⟩ := HW2.out.1
  have q2 : ∀ W, S W → W.cell? ⟨b, 3, none⟩ = some (.map (some m1)) := fun W hW => by rw [hSe] at hW; exact blk_cell (blk_below kP.blk hW) 3
  have q0 : ∀ W, S W → W.cell? ⟨g, 0, none⟩ = some (.int .i64 x.f0) := fun W hW => by rw [hSe] at hW; exact blk_cell (blk_below hbk2 hW) 0
  have ql : ∀ W, S W → (Instr.lookup 73 (.map (some m1)) (.int .i64 x.f0) true).run Tryd.prog W = .ok (.tuple #[.agg #[.string ⟨#[]⟩, .int .i64 0, .int .i64 0, .int .i64 0], .bool false]) W := fun W hW => by
    rw [hSe] at hW
    rw [look_tab W m1 preT 12 (kP.below hW).one, HQone.out]
    rfl
  have hS0 : S w2.drew := by rw [hSe]; exact below_drew1 (Below.refl _ _)
  refine wp_region_held_drew (S := S) (by kernel_rfl) hS0 (fun _ => ?_)
  refine h_take 0 rfl (by kernel_rfl) (by kernel_rfl) (by kernel_rfl) (fun _ _ _ _ h => h) hS0 rfl ?_
  apply Exists.intro
  refine ⟨fun W hW => ?_, ?_⟩
  · have p2 := q2 W hW
    have p0 := q0 W hW
    have pl := ql W hW
    go_simp
    try rfl
  simp only [Act.put, List.setIfInBounds_toArray, List.set_cons_zero, List.set_cons_succ]
  refine h_take 1 rfl (by kernel_rfl) (by kernel_rfl) (by kernel_rfl) (fun _ _ _ _ h => h) hS0 rfl ?_
  apply Exists.intro
  refine ⟨fun W hW => ?_, ?_⟩
  · have p2 := q2 W hW
    have p0 := q0 W hW
    have pl := ql W hW
    go_simp
    try rfl
  simp only [Act.put, List.setIfInBounds_toArray, List.set_cons_zero, List.set_cons_succ]
  refine h_take 2 rfl (by kernel_rfl) (by kernel_rfl) (by kernel_rfl) (fun _ _ _ _ h => h) hS0 rfl ?_
  apply Exists.intro
  refine ⟨fun W hW => ?_, ?_⟩
  · have p2 := q2 W hW
    have p0 := q0 W hW
    have pl := ql W hW
    go_simp
    try rfl
  simp only [Act.put, List.setIfInBounds_toArray, List.set_cons_zero, List.set_cons_succ]
  refine h_take 3 rfl (by kernel_rfl) (by kernel_rfl) (by kernel_rfl) (fun _ _ _ _ h => h) hS0 rfl ?_
  apply Exists.intro
  refine ⟨fun W hW => ?_, ?_⟩
  · have p2 := q2 W hW
    have p0 := q0 W hW
    have pl := ql W hW
    go_simp
    try rfl
  simp only [Act.put, List.setIfInBounds_toArray, List.set_cons_zero, List.set_cons_succ]
  refine h_take 4 rfl (by kernel_rfl) (by kernel_rfl) (by kernel_rfl) (fun _ _ _ _ h => h) hS0 rfl ?_
  apply Exists.intro
  refine ⟨fun W hW => ?_, ?_⟩
  · have p2 := q2 W hW
    have p0 := q0 W hW
    have pl := ql W hW
    go_simp
    try rfl
  simp only [Act.put, List.setIfInBounds_toArray, List.set_cons_zero, List.set_cons_succ]
  refine h_take 5 rfl (by kernel_rfl) (by kernel_rfl) (by kernel_rfl) (fun _ _ _ _ h => h) hS0 rfl ?_
  apply Exists.intro
  refine ⟨fun W hW => ?_, ?_⟩
  · have p2 := q2 W hW
    have p0 := q0 W hW
    have pl := ql W hW
    go_simp
    try rfl
  simp only [Act.put, List.setIfInBounds_toArray, List.set_cons_zero, List.set_cons_succ]
  refine h_take 6 rfl (by kernel_rfl) (by kernel_rfl) (by kernel_rfl) (fun _ _ _ _ h => h) hS0 rfl ?_
  apply Exists.intro
  refine ⟨fun W hW => ?_, ?_⟩
  · have p2 := q2 W hW
    have p0 := q0 W hW
    have pl := ql W hW
    go_simp
    try rfl
  simp only [Act.put, List.setIfInBounds_toArray, List.set_cons_zero, List.set_cons_succ]
  refine h_take 7 rfl (by kernel_rfl) (by kernel_rfl) (by kernel_rfl) (fun _ _ _ _ h => h) hS0 rfl ?_
  apply Exists.intro
  refine ⟨fun W hW => ?_, ?_⟩
  · have p2 := q2 W hW
    have p0 := q0 W hW
    have pl := ql W hW
    go_simp
    try rfl
  simp only [Act.put, List.setIfInBounds_toArray, List.set_cons_zero, List.set_cons_succ]
  refine h_take 8 rfl (by kernel_rfl) (by kernel_rfl) (by kernel_rfl) (fun _ _ _ _ h => h) hS0 rfl ?_
  apply Exists.intro
  refine ⟨fun W hW => ?_, ?_⟩
  · have p2 := q2 W hW
    have p0 := q0 W hW
    have pl := ql W hW
    go_simp
    try rfl
  simp only [Act.put, List.setIfInBounds_toArray, List.set_cons_zero, List.set_cons_succ]
  refine h_take 9 rfl (by kernel_rfl) (by kernel_rfl) (by kernel_rfl) (fun _ _ _ _ h => h) hS0 rfl ?_
  apply Exists.intro
  refine ⟨fun W hW => ?_, ?_⟩
  · have p2 := q2 W hW
    have p0 := q0 W hW
    have pl := ql W hW
    go_simp
    try rfl
  simp only [Act.put, List.setIfInBounds_toArray, List.set_cons_zero, List.set_cons_succ]
  refine h_one 10 rfl (by kernel_rfl) rfl ?_
  refine op_val (by go_simp; exact ⟨rfl, rfl⟩) ?_
  refine ⟨by rw [hSe]; exact below_drew1 (below_alloc (Below.refl _ _) _), ?_⟩
  simp only [Act.put, List.setIfInBounds_toArray, List.set_cons_zero, List.set_cons_succ]
  refine h_one 11 rfl (by kernel_rfl) rfl ?_
  refine op_skip (w1 := (w2.alloc (.cells #[.string ⟨#[]⟩, .int .i64 0, .int .i64 0, .int .i64 0] 96)).drew) (by go_simp) ?_
  refine ⟨by rw [hSe]; exact below_drew1 (below_alloc (Below.refl _ _) _), ?_⟩
  simp only [Act.put]
  refine h_one 12 rfl (by kernel_rfl) rfl ?_
  refine op_val (by go_simp; exact ⟨rfl, rfl⟩) ?_
  refine ⟨by rw [hSe]; exact below_drew1 (below_alloc (Below.refl _ _) _), ?_⟩
  simp only [Act.put, List.setIfInBounds_toArray, List.set_cons_zero, List.set_cons_succ]
  refine wpAnyH_done (by kernel_rfl) ?_ _
  have hwe : Below w2.heap.size w2 (w2.alloc (.cells #[.string ⟨#[]⟩, .int .i64 0, .int .i64 0, .int .i64 0] 96)).drew := below_drew1 (below_alloc (Below.refl _ _) _)
  have hbn : ((w2.alloc (.cells #[.string ⟨#[]⟩, .int .i64 0, .int .i64 0, .int .i64 0] 96)).drew).heap[w2.heap.size]? = some (.cells #[.string ⟨#[]⟩, .int .i64 0, .int .i64 0, .int .i64 0] 96 (0, 0)) := blk_new w2 _
  generalize (w2.alloc (.cells #[.string ⟨#[]⟩, .int .i64 0, .int .i64 0, .int .i64 0] 96)).drew = w3 at *
  have hbk3 := blk_below hbk2 hwe
  have hrbone : w2.heap.size ≠ b := by have := HW2.out.size; omega
  have HW3 := Aside0.mk (HW2.out.before hwe (by have := HW2.out.size; omega))
  generalize w2.heap.size = rone at *
  have hrwone3 := hbn
  clear q0 q2 ql hS0 hSe hwe kP hbk2 HW2 hbn hrwtwo2 hrwone3 hrbtwo hrbone
  have z0 := blk_cell hbk3 0
  have z1 := blk_cell hbk3 1
  have z2 := blk_cell hbk3 2
  have z3 := blk_cell hbk3 3
  have z4 := blk_cell hbk3 4
  have e1 : (x.f0 == 1) = false := by rw [HOP.out]; rfl
  have e2 : (x.f0 == 2) = false := by rw [HOP.out]; rfl
  have e20 : (x.f0 == 20) = false := by rw [HOP.out]; rfl
  have e5 : (x.f0 == 5) = false := by rw [HOP.out]; rfl
  have e45 : (x.f0 == 45) = false := by rw [HOP.out]; rfl
  have e46 : (x.f0 == 46) = false := by rw [HOP.out]; rfl
  have e15 : (x.f0 == 15) = true := by rw [HOP.out]; rfl
  go_wp2_with fail
  clear z0 z1 z2 z3 z4
  refine (writeByte_walk B b m2 m1 _ 123 _ HW3.out.1 ?a15 ?b16).mono ?_
  case a15 => have := HL.out; simp only [List.length_append, List.length_cons, List.length_nil, data_length] at this ⊢; unfold most at this; omega
  case b16 => have := HW3.out.size; omega
  rintro e w4 ⟨rfl, hw4⟩
  have hbk4 := hw4.blk hbk3 hgb (by decide)
  have HW4 := Aside0.mk (HW3.out.trans hw4)
  clear hw4 HW3 hbk3  
  have z0 := blk_cell hbk4 0
  have z1 := blk_cell hbk4 1
  have z2 := blk_cell hbk4 2
  have z3 := blk_cell hbk4 3
  have z4 := blk_cell hbk4 4
  go_wp2_with fail
  clear z0 z1 z2 z3 z4
  refine (bound_walk x H0.out H1.out w0 B b m2 m1 _ _ _ HX.out ?a17 hB0 HT.out HW4.out.1 ?a18).mono ?_
  case a17 => exact HW4.out.from_ HB0.out hB0
  case a18 => have := HL.out; simp only [List.length_append, List.length_cons, List.length_nil, data_length] at this ⊢; omega
  rintro e w5 ⟨rfl, hw5⟩
  have hbk5 := hw5.blk hbk4 hgb (by decide)
  have HW5 := Aside0.mk (HW4.out.trans hw5)
  clear hw5 HW4 hbk4  
  go_wp2_with fail
  refine (writeByte_walk B b m2 m1 _ 125 _ HW5.out.1 ?a19 ?b20).mono ?_
  case a19 => have := HL.out; simp only [List.length_append, List.length_cons, List.length_nil, data_length] at this ⊢; unfold most at this; omega
  case b20 => have := HW5.out.size; omega
  rintro e w6 ⟨rfl, hw6⟩
  have hbk6 := hw6.blk hbk5 hgb (by decide)
  have HW6 := Aside0.mk (HW5.out.trans hw6)
  clear hw6 HW5 hbk5  
  go_wp2_with fail
  go_end0
  exact ⟨rfl, HW6.out⟩

end Go.Proofs.YtgdiodhaihmnbaaDoor.Own
namespace Go.Proofs.YtgdiodhaihmnbaaDoor.Own
open Go.RowKit Go.Proofs.YtgdiodhaihmnbaaDoorW.PrintWords Go.Proofs.YtgdiodhaihmnbaaDoorW.PrintLast Go.Proofs.YtgdiodhaihmnbaaDoorW.PrintMore Go.Proofs.YtgdiodhaihmnbaaDoor.PPrinterMatchesReference

theorem grow_below (w : World) (k : Nat) (os : Array Obj) : Below w.heap.size w (Go.Sort.grow (w.drewN k) os) := by
  refine ⟨rfl, rfl, rfl, ?_, fun i hi => ?_⟩
  · simp [Go.Sort.grow, World.drewN]
  · simp only [Go.Sort.grow, World.drewN]
    rw [Array.getElem?_append_left hi]
theorem itoa_walk (n : Int) (h0 : -9223372036854775808 ≤ n) (h1 : n ≤ 9223372036854775807) (w : World) (ht : Tab w) : Calls Tryd.prog 61 #[.int .i64 n] w fun e w' => e = .returned (.string ⟨(Lib.itoa n).toArray⟩) ∧ Below w.heap.size w w' :=
  (Tryd.strconv_Itoa n h0 h1 w ht).mono fun e w' ⟨he, k, os, hw⟩ => ⟨he, by rw [hw]; exact grow_below w k os⟩
theorem tab_global : Tryd.prog.globalNamed "internal/strconv.uint64pow10" = some 0 := by kernel_rfl
theorem Tab.below {w w1 : World} (h : Tab w) (hb : Below w.heap.size w w1) : Tab w1 := Lib.tabBelow_of_tabIs h w1 hb

set_option maxHeartbeats 4000000 in
set_option maxRecDepth 100000 in
theorem node_lit (x : S24) (hop : x.f0 = 20) (hn0 : -9223372036854775808 ≤ x.f2) (hn1 : x.f2 ≤ 9223372036854775807) (hbn : atT x.f0 binT = none) (hb : atT x.f0 preT = none) : NodeC x := by
  intro w0 B b m2 m1 bs w cs fin hx hb0 hB0 ht hP hlen
  obtain ⟨A, c, rfl, hlc, hA⟩ := k24_open hx
  have HX := Aside0.mk hx
  have HA := Aside0.mk hA
  have HP := Aside0.mk hP
  have HT := Aside0.mk ht
  have HB0 := Aside0.mk hb0
  have hlt := hP.lt
  have hlow := hP.low
  have hu24 := Tryd.underlying24
  have hu96 := Tryd.underlying96
  have htx : txt x fin = Lib.itoa x.f2 := by rw [txt_def, hbn, hb]; simp [hop]
  rw [htx] at hlen ⊢
  have HL := Aside0.mk hlen
  have HQtwo := Aside0.mk hbn
  have HQone := Aside0.mk hb
  have HOP := Aside0.mk hop
  clear hx hP ht hb0 hA hlc htx hlen hb hbn hop
  go_enter Tryd.func38, Tryd.ntmps38
  go_wp2_with ((with_reducible refine gate_dst (N := 4) rfl ?_); refine box_event rfl (N := 4) rfl (cs := #[.int .i64 x.f0, .string x.f1, .int .i64 x.f2, .slice A x.f3.length c, .int .i64 x.f4]) (t := 24) (by first | (go_simp; done) | (go_simp; rfl)) ?_; intro g hg w1 hbk1 hb1; have HG := Aside0.mk hg; clear hg)
  have HW1 := Aside0.mk (show Wrote B b m2 m1 bs w w1 from ⟨HP.out.below hb1, hb1.mono (by omega), fun i o hi _ _ => (hb1.block i (blk_lt hi)).trans hi⟩)
  have hgb : g ≠ b := by have := HG.out; omega
  clear hb1
  obtain ⟨S, hSe⟩ : ∃ S : World → Prop, S = fun W => Below w1.heap.size w1 W := ⟨_, rfl⟩
  obtain ⟨p, v, kP⟩ := HW1.out.1
  have q2 : ∀ W, S W → W.cell? ⟨b, 2, none⟩ = some (.map (some m2)) := fun W hW => by rw [hSe] at hW; exact blk_cell (blk_below kP.blk hW) 2
  have q0 : ∀ W, S W → W.cell? ⟨g, 0, none⟩ = some (.int .i64 x.f0) := fun W hW => by rw [hSe] at hW; exact blk_cell (blk_below hbk1 hW) 0
  have ql : ∀ W, S W → (Instr.lookup 73 (.map (some m2)) (.int .i64 x.f0) true).run Tryd.prog W = .ok (.tuple #[.agg #[.string ⟨#[]⟩, .int .i64 0, .int .i64 0, .int .i64 0], .bool false]) W := fun W hW => by
    rw [hSe] at hW
    rw [look_tab W m2 binT 17 (kP.below hW).two, HQtwo.out]
    rfl
  have hS0 : S w1.drew := by rw [hSe]; exact below_drew1 (Below.refl _ _)
  refine wp_region_held_drew (S := S) (by kernel_rfl) hS0 (fun _ => ?_)
  refine h_take 0 rfl (by kernel_rfl) (by kernel_rfl) (by kernel_rfl) (fun _ _ _ _ h => h) hS0 rfl ?_
  apply Exists.intro
  refine ⟨fun W hW => ?_, ?_⟩
  · have p2 := q2 W hW
    have p0 := q0 W hW
    have pl := ql W hW
    go_simp
    try rfl
  simp only [Act.put, List.setIfInBounds_toArray, List.set_cons_zero, List.set_cons_succ]
  refine h_take 1 rfl (by kernel_rfl) (by kernel_rfl) (by kernel_rfl) (fun _ _ _ _ h => h) hS0 rfl ?_
  apply Exists.intro
  refine ⟨fun W hW => ?_, ?_⟩
  · have p2 := q2 W hW
    have p0 := q0 W hW
    have pl := ql W hW
    go_simp
    try rfl
  simp only [Act.put, List.setIfInBounds_toArray, List.set_cons_zero, List.set_cons_succ]
  refine h_take 2 rfl (by kernel_rfl) (by kernel_rfl) (by kernel_rfl) (fun _ _ _ _ h => h) hS0 rfl ?_
  apply Exists.intro
  refine ⟨fun W hW => ?_, ?_⟩
  · have p2 := q2 W hW
    have p0 := q0 W hW
    have pl := ql W hW
    go_simp
    try rfl
  simp only [Act.put, List.setIfInBounds_toArray, List.set_cons_zero, List.set_cons_succ]
  refine h_take 3 rfl (by kernel_rfl) (by kernel_rfl) (by kernel_rfl) (fun _ _ _ _ h => h) hS0 rfl ?_
  apply Exists.intro
  refine ⟨fun W hW => ?_, ?_⟩
  · have p2 := q2 W hW
    have p0 := q0 W hW
    have pl := ql W hW
    go_simp
    try rfl
  simp only [Act.put, List.setIfInBounds_toArray, List.set_cons_zero, List.set_cons_succ]
  refine h_take 4 rfl (by kernel_rfl) (by kernel_rfl) (by kernel_rfl) (fun _ _ _ _ h => h) hS0 rfl ?_
  apply Exists.intro
  refine ⟨fun W hW => ?_, ?_⟩
  · have p2 := q2 W hW
    have p0 := q0 W hW
    have pl := ql W hW
    go_simp
    try rfl
  simp only [Act.put, List.setIfInBounds_toArray, List.set_cons_zero, List.set_cons_succ]
  refine h_take 5 rfl (by kernel_rfl) (by kernel_rfl) (by kernel_rfl) (fun _ _ _ _ h => h) hS0 rfl ?_
  apply Exists.intro
  refine ⟨fun W hW => ?_, ?_⟩
  · have p2 := q2 W hW
    have p0 := q0 W hW
    have pl := ql W hW
    go_simp
    try rfl
  simp only [Act.put, List.setIfInBounds_toArray, List.set_cons_zero, List.set_cons_succ]
  refine h_take 6 rfl (by kernel_rfl) (by kernel_rfl) (by kernel_rfl) (fun _ _ _ _ h => h) hS0 rfl ?_
  apply Exists.intro
  refine ⟨fun W hW => ?_, ?_⟩
  · have p2 := q2 W hW
    have p0 := q0 W hW
    have pl := ql W hW
    go_simp
    try rfl
  simp only [Act.put, List.setIfInBounds_toArray, List.set_cons_zero, List.set_cons_succ]
  refine h_take 7 rfl (by kernel_rfl) (by kernel_rfl) (by kernel_rfl) (fun _ _ _ _ h => h) hS0 rfl ?_
  apply Exists.intro
  refine ⟨fun W hW => ?_, ?_⟩
  · have p2 := q2 W hW
    have p0 := q0 W hW
    have pl := ql W hW
    go_simp
    try rfl
  simp only [Act.put, List.setIfInBounds_toArray, List.set_cons_zero, List.set_cons_succ]
  refine h_take 8 rfl (by kernel_rfl) (by kernel_rfl) (by kernel_rfl) (fun _ _ _ _ h => h) hS0 rfl ?_
  apply Exists.intro
  refine ⟨fun W hW => ?_, ?_⟩
  · have p2 := q2 W hW
    have p0 := q0 W hW
    have pl := ql W hW
    go_simp
    try rfl
  simp only [Act.put, List.setIfInBounds_toArray, List.set_cons_zero, List.set_cons_succ]
  refine h_take 9 rfl (by kernel_rfl) (by kernel_rfl) (by kernel_rfl) (fun _ _ _ _ h => h) hS0 rfl ?_
  apply Exists.intro
  refine ⟨fun W hW => ?_, ?_⟩
  · have p2 := q2 W hW
    have p0 := q0 W hW
    have pl := ql W hW
    go_simp
    try rfl
  simp only [Act.put, List.setIfInBounds_toArray, List.set_cons_zero, List.set_cons_succ]
  refine h_one 10 rfl (by kernel_rfl) rfl ?_
  refine op_val (by go_simp; exact ⟨rfl, rfl⟩) ?_
  refine ⟨by rw [hSe]; exact below_drew1 (below_alloc (Below.refl _ _) _), ?_⟩
  simp only [Act.put, List.setIfInBounds_toArray, List.set_cons_zero, List.set_cons_succ]
  refine h_one 11 rfl (by kernel_rfl) rfl ?_
  refine op_skip (w1 := (w1.alloc (.cells #[.string ⟨#[]⟩, .int .i64 0, .int .i64 0, .int .i64 0] 96)).drew) (by go_simp) ?_
  refine ⟨by rw [hSe]; exact below_drew1 (below_alloc (Below.refl _ _) _), ?_⟩
  simp only [Act.put]
  refine h_one 12 rfl (by kernel_rfl) rfl ?_
  refine op_val (by go_simp; exact ⟨rfl, rfl⟩) ?_
  refine ⟨by rw [hSe]; exact below_drew1 (below_alloc (Below.refl _ _) _), ?_⟩
  simp only [Act.put, List.setIfInBounds_toArray, List.set_cons_zero, List.set_cons_succ]
  refine wpAnyH_done (by kernel_rfl) ?_ _
  have hwe : Below w1.heap.size w1 (w1.alloc (.cells #[.string ⟨#[]⟩, .int .i64 0, .int .i64 0, .int .i64 0] 96)).drew := below_drew1 (below_alloc (Below.refl _ _) _)
  have hbn : ((w1.alloc (.cells #[.string ⟨#[]⟩, .int .i64 0, .int .i64 0, .int .i64 0] 96)).drew).heap[w1.heap.size]? = some (.cells #[.string ⟨#[]⟩, .int .i64 0, .int .i64 0, .int .i64 0] 96 (0, 0)) := blk_new w1 _
  generalize (w1.alloc (.cells #[.string ⟨#[]⟩, .int .i64 0, .int .i64 0, .int .i64 0] 96)).drew = w2 at *
  have hbk2 := blk_below hbk1 hwe
  have hrbtwo : w1.heap.size ≠ b := by have := HW1.out.size; omega
  have HW2 := Aside0.mk (HW1.out.before hwe (by have := HW1.out.size; omega))
  generalize w1.heap.size = rtwo at *
  have hrwtwo2 := hbn
  clear q0 q2 ql hS0 hSe hwe kP hbk1 HW1 hbn
  go_wp2_with fail
  obtain ⟨S, hSe⟩ : ∃ S : World → Prop, S = fun W => Below w2.heap.size w2 W := ⟨_, rfl⟩
  obtain ⟨p, v, kP⟩ := HW2.out.1
  have q2 : ∀ W, S W → W.cell? ⟨b, 3, none⟩ = some (.map (some m1)) := fun W hW => by rw [hSe] at hW; exact blk_cell (blk_below kP.blk hW) 3
  have q0 : ∀ W, S W → W.cell? ⟨g, 0, none⟩ = some (.int .i64 x.f0) := fun W hW => by rw [hSe] at hW; exact blk_cell (blk_below hbk2 hW) 0
  have ql : ∀ W, S W → (Instr.lookup 73 (.map (some m1)) (.int .i64 x.f0) true).run Tryd.prog W = .ok (.tuple #[.agg #[.string ⟨#[]⟩, .int .i64 0, .int .i64 0, .int .i64 0], .bool false]) W := fun W hW => by
    rw [hSe] at hW
    rw [look_tab W m1 preT 12 (kP.below hW).one, HQone.out]
    rfl
  have hS0 : S w2.drew := by rw [hSe]; exact below_drew1 (Below.refl _ _)
  refine wp_region_held_drew (S := S) (by kernel_rfl) hS0 (fun _ => ?_)
  refine h_take 0 rfl (by kernel_rfl) (by kernel_rfl) (by kernel_rfl) (fun _ _ _ _ h => h) hS0 rfl ?_
  apply Exists.intro
  refine ⟨fun W hW => ?_, ?_⟩
  · have p2 := q2 W hW
    have p0 := q0 W hW
    have pl := ql W hW
    go_simp
    try rfl
  simp only [Act.put, List.setIfInBounds_toArray, List.set_cons_zero, List.set_cons_succ]
  refine h_take 1 rfl (by kernel_rfl) (by kernel_rfl) (by kernel_rfl) (fun _ _ _ _ h => h) hS0 rfl ?_
  apply Exists.intro
  refine ⟨fun W hW => ?_, ?_⟩
  · have p2 := q2 W hW
    have p0 := q0 W hW
    have pl := ql W hW
    go_simp
    try rfl
  simp only [Act.put, List.setIfInBounds_toArray, List.set_cons_zero, List.set_cons_succ]
  refine h_take 2 rfl (by kernel_rfl) (by kernel_rfl) (by kernel_rfl) (fun _ _ _ _ h => h) hS0 rfl ?_
  apply Exists.intro
  refine ⟨fun W hW => ?_, ?_⟩
  · have p2 := q2 W hW
    have p0 := q0 W hW
    have pl := ql W hW
    go_simp
    try rfl
  simp only [Act.put, List.setIfInBounds_toArray, List.set_cons_zero, List.set_cons_succ]
  refine h_take 3 rfl (by kernel_rfl) (by kernel_rfl) (by kernel_rfl) (fun _ _ _ _ h => h) hS0 rfl ?_
  apply Exists.intro
  refine ⟨fun W hW => ?_, ?_⟩
  · have p2 := q2 W hW
    have p0 := q0 W hW
    have pl := ql W hW
    go_simp
    try rfl
  simp only [Act.put, List.setIfInBounds_toArray, List.set_cons_zero, List.set_cons_succ]
  refine h_take 4 rfl (by kernel_rfl) (by kernel_rfl) (by kernel_rfl) (fun _ _ _ _ h => h) hS0 rfl ?_
  apply Exists.intro
  refine ⟨fun W hW => ?_, ?_⟩
  · have p2 := q2 W hW
    have p0 := q0 W hW
    have pl := ql W hW
    go_simp
    try rfl
  simp only [Act.put, List.setIfInBounds_toArray, List.set_cons_zero, List.set_cons_succ]
  refine h_take 5 rfl (by kernel_rfl) (by kernel_rfl) (by kernel_rfl) (fun _ _ _ _ h => h) hS0 rfl ?_
  apply Exists.intro
  refine ⟨fun W hW => ?_, ?_⟩
  · have p2 := q2 W hW
    have p0 := q0 W hW
    have pl := ql W hW
    go_simp
    try rfl
  simp only [Act.put, List.setIfInBounds_toArray, List.set_cons_zero, List.set_cons_succ]
  refine h_take 6 rfl (by kernel_rfl) (by kernel_rfl) (by kernel_rfl) (fun _ _ _ _ h => h) hS0 rfl ?_
  apply Exists.intro
  refine ⟨fun W hW => ?_, ?_⟩
  · have p2 := q2 W hW
    have p0 := q0 W hW
    have pl := ql W hW
    go_simp
    try rfl
  simp only [Act.put, List.setIfInBounds_toArray, List.set_cons_zero, List.set_cons_succ]
  refine h_take 7 rfl (by kernel_rfl) (by kernel_rfl) (by kernel_rfl) (fun _ _ _ _ h => h) hS0 rfl ?_
  apply Exists.intro
  refine ⟨fun W hW => ?_, ?_⟩
  · have p2 := q2 W hW
    have p0 := q0 W hW
    have pl := ql W hW
    go_simp
    try rfl
  simp only [Act.put, List.setIfInBounds_toArray, List.set_cons_zero, List.set_cons_succ]
  refine h_take 8 rfl (by kernel_rfl) (by kernel_rfl) (by kernel_rfl) (fun _ _ _ _ h => h) hS0 rfl ?_
  apply Exists.intro
  refine ⟨fun W hW => ?_, ?_⟩
  · have p2 := q2 W hW
    have p0 := q0 W hW
    have pl := ql W hW
    go_simp
    try rfl
  simp only [Act.put, List.setIfInBounds_toArray, List.set_cons_zero, List.set_cons_succ]
  refine h_take 9 rfl (by kernel_rfl) (by kernel_rfl) (by kernel_rfl) (fun _ _ _ _ h => h) hS0 rfl ?_
  apply Exists.intro
  refine ⟨fun W hW => ?_, ?_⟩
  · have p2 := q2 W hW
    have p0 := q0 W hW
    have pl := ql W hW
    go_simp
    try rfl
  simp only [Act.put, List.setIfInBounds_toArray, List.set_cons_zero, List.set_cons_succ]
  refine h_one 10 rfl (by kernel_rfl) rfl ?_
  refine op_val (by go_simp; exact ⟨rfl, rfl⟩) ?_
  refine ⟨by rw [hSe]; exact below_drew1 (below_alloc (Below.refl _ _) _), ?_⟩
  simp only [Act.put, List.setIfInBounds_toArray, List.set_cons_zero, List.set_cons_succ]
  refine h_one 11 rfl (by kernel_rfl) rfl ?_
  refine op_skip (w1 := (w2.alloc (.cells #[.string ⟨#[]⟩, .int .i64 0, .int .i64 0, .int .i64 0] 96)).drew) (by go_simp) ?_
  refine ⟨by rw [hSe]; exact below_drew1 (below_alloc (Below.refl _ _) _), ?_⟩
  simp only [Act.put]
  refine h_one 12 rfl (by kernel_rfl) rfl ?_
  refine op_val (by go_simp; exact ⟨rfl, rfl⟩) ?_
  refine ⟨by rw [hSe]; exact below_drew1 (below_alloc (Below.refl _ _) _), ?_⟩
  simp only [Act.put, List.setIfInBounds_toArray, List.set_cons_zero, List.set_cons_succ]
  refine wpAnyH_done (by kernel_rfl) ?_ _
  have hwe : Below w2.heap.size w2 (w2.alloc (.cells #[.string ⟨#[]⟩, .int .i64 0, .int .i64 0, .int .i64 0] 96)).drew := below_drew1 (below_alloc (Below.refl _ _) _)
  have hbn : ((w2.alloc (.cells #[.string ⟨#[]⟩, .int .i64 0, .int .i64 0, .int .i64 0] 96)).drew).heap[w2.heap.size]? = some (.cells #[.string ⟨#[]⟩, .int .i64 0, .int .i64 0, .int .i64 0] 96 (0, 0)) := blk_new w2 _
  generalize (w2.alloc (.cells #[.string ⟨#[]⟩, .int .i64 0, .int .i64 0, .int .i64 0] 96)).drew = w3 at *
  have hbk3 := blk_below hbk2 hwe
  have hrbone : w2.heap.size ≠ b := by have := HW2.out.size; omega
  have HW3 := Aside0.mk (HW2.out.before hwe (by have := HW2.out.size; omega))
  generalize w2.heap.size = rone at *
  have hrwone3 := hbn
  clear q0 q2 ql hS0 hSe hwe kP hbk2 HW2 hbn hrwtwo2 hrwone3 hrbtwo hrbone
  have z0 := blk_cell hbk3 0
  have z1 := blk_cell hbk3 1
  have z2 := blk_cell hbk3 2
  have z3 := blk_cell hbk3 3
  have z4 := blk_cell hbk3 4
  have e1 : (x.f0 == 1) = false := by rw [HOP.out]; rfl
  have e2 : (x.f0 == 2) = false := by rw [HOP.out]; rfl
  have e20 : (x.f0 == 20) = true := by rw [HOP.out]; rfl
  go_wp2_with fail
  clear z0 z1 z2 z3 z4
  have hito : ∀ W, Below w3.heap.size w3 W → Calls Tryd.prog 61 #[.int .i64 x.f2] W fun e w' => e = .returned (.string ⟨(Lib.itoa x.f2).toArray⟩) ∧ Below w3.heap.size w3 w' := fun W hW => (itoa_walk x.f2 hn0 hn1 W (HT.out.below (below_step (HW3.out.from_ HB0.out hB0) hW))).mono fun e w' h => ⟨h.1, below_step hW h.2⟩
  obtain ⟨C, hCe⟩ : ∃ C : World → Prop, C = fun W => Below w3.heap.size w3 W := ⟨_, rfl⟩
  have q0 : ∀ W, C W → W.cell? ⟨g, 2, none⟩ = some (.int .i64 x.f2) := fun W hW => by rw [hCe] at hW; exact blk_cell (blk_below hbk3 hW) 2
  refine wp_quiet_tail C 6 (by kernel_rfl) (by kernel_rfl) (by rw [hCe]; exact below_drew1 (Below.refl _ _)) ?_
  simp only [List.take_succ_cons, List.take_zero, List.drop_succ_cons, List.drop_zero]
  refine q_ex rfl ?_
  apply Exists.intro
  refine ⟨fun W hW => ?_, ?_⟩
  · skip
    have p0 := q0 W hW
    go_simp
    try rfl
  simp only [Act.put, List.setIfInBounds_toArray, List.set_cons_zero, List.set_cons_succ]
  refine q_ex rfl ?_
  apply Exists.intro
  refine ⟨fun W hW => ?_, ?_⟩
  · skip
    have p0 := q0 W hW
    go_simp
    try rfl
  simp only [Act.put, List.setIfInBounds_toArray, List.set_cons_zero, List.set_cons_succ]
  refine q_ex rfl ?_
  apply Exists.intro
  refine ⟨fun W hW => ?_, ?_⟩
  · skip
    have p0 := q0 W hW
    go_simp
    try rfl
  simp only [Act.put, List.setIfInBounds_toArray, List.set_cons_zero, List.set_cons_succ]
  refine q_ex rfl ?_
  apply Exists.intro
  refine ⟨fun W hW => ?_, ?_⟩
  · skip
    have p0 := q0 W hW
    go_simp
    try rfl
  simp only [Act.put, List.setIfInBounds_toArray, List.set_cons_zero, List.set_cons_succ]
  refine q_ex rfl ?_
  apply Exists.intro
  refine ⟨fun W hW => ?_, ?_⟩
  · skip
    have p0 := q0 W hW
    go_simp
    try rfl
  simp only [Act.put, List.setIfInBounds_toArray, List.set_cons_zero, List.set_cons_succ]
  refine q_call rfl (fun W hW => by go_simp; exact ⟨rfl, rfl⟩) (fun W hW => (by subst hCe; exact hito W hW)) ?_
  simp only [Act.put, List.setIfInBounds_toArray, List.set_cons_zero, List.set_cons_succ]
  intro W hW
  have hWb := hW
  rw [hCe] at hWb
  clear hW q0
  clear hCe hito
  have HW4 := Aside0.mk (HW3.out.before hWb (by have := HW3.out.size; omega))
  have hbk4 := blk_below hbk3 hWb
  clear hWb HW3 hbk3 
  go_wp2_with fail
  refine (writeL_walk B b m2 m1 _ (Lib.itoa x.f2) _ HW4.out.1 ?a1 ?b2).mono ?_
  case a1 => have := HL.out; (try simp only [List.length_append, List.length_cons, List.length_nil, data_length] at this ⊢); omega
  case b2 => have := HW4.out.size; omega
  rintro e w5 ⟨rfl, hw5⟩
  have hbk5 := hw5.blk hbk4 hgb (by decide)
  have HW5 := Aside0.mk (HW4.out.trans hw5)
  clear hw5 HW4 hbk4  
  go_wp2_with fail
  go_end0
  exact ⟨rfl, HW5.out⟩

set_option maxHeartbeats 4000000 in
set_option maxRecDepth 100000 in
theorem node_none1 (x : S24) (hop : x.f0 = 2) (hn : x.f2 = 1) (hbn : atT x.f0 binT = none) (hb : atT x.f0 preT = none) : NodeC x := by
  intro w0 B b m2 m1 bs w cs fin hx hb0 hB0 ht hP hlen
  obtain ⟨A, c, rfl, hlc, hA⟩ := k24_open hx
  have HX := Aside0.mk hx
  have HA := Aside0.mk hA
  have HP := Aside0.mk hP
  have HT := Aside0.mk ht
  have HB0 := Aside0.mk hb0
  have hlt := hP.lt
  have hlow := hP.low
  have hu24 := Tryd.underlying24
  have hu96 := Tryd.underlying96
  have htx : txt x fin = [110, 111, 110, 101] := by rw [txt_def, hbn, hb]; simp [hop, hn]
  rw [htx] at hlen ⊢
  have HL := Aside0.mk hlen
  have HQtwo := Aside0.mk hbn
  have HQone := Aside0.mk hb
  have HOP := Aside0.mk hop
  have hnb : (x.f2 != 1) = false := by rw [hn]; rfl
  clear hx hP ht hb0 hA hlc htx hlen hb hbn hop hn
  go_enter Tryd.func38, Tryd.ntmps38
  go_wp2_with ((with_reducible refine gate_dst (N := 4) rfl ?_); refine box_event rfl (N := 4) rfl (cs := #[.int .i64 x.f0, .string x.f1, .int .i64 x.f2, .slice A x.f3.length c, .int .i64 x.f4]) (t := 24) (by first | (go_simp; done) | (go_simp; rfl)) ?_; intro g hg w1 hbk1 hb1; have HG := Aside0.mk hg; clear hg)
  have HW1 := Aside0.mk (show Wrote B b m2 m1 bs w w1 from ⟨HP.out.below hb1, hb1.mono (by omega), fun i o hi _ _ => (hb1.block i (blk_lt hi)).trans hi⟩)
  have hgb : g ≠ b := by have := HG.out; omega
  clear hb1
  obtain ⟨S, hSe⟩ : ∃ S : World → Prop, S = fun W => Below w1.heap.size w1 W := ⟨_, rfl⟩
  obtain ⟨p, v, kP⟩ := HW1.out.1
  have q2 : ∀ W, S W → W.cell? ⟨b, 2, none⟩ = some (.map (some m2)) := fun W hW => by rw [hSe] at hW; exact blk_cell (blk_below kP.blk hW) 2
  have q0 : ∀ W, S W → W.cell? ⟨g, 0, none⟩ = some (.int .i64 x.f0) := fun W hW => by rw [hSe] at hW; exact blk_cell (blk_below hbk1 hW) 0
  have ql : ∀ W, S W → (Instr.lookup 73 (.map (some m2)) (.int .i64 x.f0) true).run Tryd.prog W = .ok (.tuple #[.agg #[.string ⟨#[]⟩, .int .i64 0, .int .i64 0, .int .i64 0], .bool false]) W := fun W hW => by
    rw [hSe] at hW
    rw [look_tab W m2 binT 17 (kP.below hW).two, HQtwo.out]
    rfl
  have hS0 : S w1.drew := by rw [hSe]; exact below_drew1 (Below.refl _ _)
  refine wp_region_held_drew (S := S) (by kernel_rfl) hS0 (fun _ => ?_)
  refine h_take 0 rfl (by kernel_rfl) (by kernel_rfl) (by kernel_rfl) (fun _ _ _ _ h => h) hS0 rfl ?_
  apply Exists.intro
  refine ⟨fun W hW => ?_, ?_⟩
  · have p2 := q2 W hW
    have p0 := q0 W hW
    have pl := ql W hW
    go_simp
    try rfl
  simp only [Act.put, List.setIfInBounds_toArray, List.set_cons_zero, List.set_cons_succ]
  refine h_take 1 rfl (by kernel_rfl) (by kernel_rfl) (by kernel_rfl) (fun _ _ _ _ h => h) hS0 rfl ?_
  apply Exists.intro
  refine ⟨fun W hW => ?_, ?_⟩
  · have p2 := q2 W hW
    have p0 := q0 W hW
    have pl := ql W hW
    go_simp
    try rfl
  simp only [Act.put, List.setIfInBounds_toArray, List.set_cons_zero, List.set_cons_succ]
  refine h_take 2 rfl (by kernel_rfl) (by kernel_rfl) (by kernel_rfl) (fun _ _ _ _ h => h) hS0 rfl ?_
  apply Exists.intro
  refine ⟨fun W hW => ?_, ?_⟩
  · have p2 := q2 W hW
    have p0 := q0 W hW
    have pl := ql W hW
    go_simp
    try rfl
  simp only [Act.put, List.setIfInBounds_toArray, List.set_cons_zero, List.set_cons_succ]
  refine h_take 3 rfl (by kernel_rfl) (by kernel_rfl) (by kernel_rfl) (fun _ _ _ _ h => h) hS0 rfl ?_
  apply Exists.intro
  refine ⟨fun W hW => ?_, ?_⟩
  · have p2 := q2 W hW
    have p0 := q0 W hW
    have pl := ql W hW
    go_simp
    try rfl
  simp only [Act.put, List.setIfInBounds_toArray, List.set_cons_zero, List.set_cons_succ]
  refine h_take 4 rfl (by kernel_rfl) (by kernel_rfl) (by kernel_rfl) (fun _ _ _ _ h => h) hS0 rfl ?_
  apply Exists.intro
  refine ⟨fun W hW => ?_, ?_⟩
  · have p2 := q2 W hW
    have p0 := q0 W hW
    have pl := ql W hW
    go_simp
    try rfl
  simp only [Act.put, List.setIfInBounds_toArray, List.set_cons_zero, List.set_cons_succ]
  refine h_take 5 rfl (by kernel_rfl) (by kernel_rfl) (by kernel_rfl) (fun _ _ _ _ h => h) hS0 rfl ?_
  apply Exists.intro
  refine ⟨fun W hW => ?_, ?_⟩
  · have p2 := q2 W hW
    have p0 := q0 W hW
    have pl := ql W hW
    go_simp
    try rfl
  simp only [Act.put, List.setIfInBounds_toArray, List.set_cons_zero, List.set_cons_succ]
  refine h_take 6 rfl (by kernel_rfl) (by kernel_rfl) (by kernel_rfl) (fun _ _ _ _ h => h) hS0 rfl ?_
  apply Exists.intro
  refine ⟨fun W hW => ?_, ?_⟩
  · have p2 := q2 W hW
    have p0 := q0 W hW
    have pl := ql W hW
    go_simp
    try rfl
  simp only [Act.put, List.setIfInBounds_toArray, List.set_cons_zero, List.set_cons_succ]
  refine h_take 7 rfl (by kernel_rfl) (by kernel_rfl) (by kernel_rfl) (fun _ _ _ _ h => h) hS0 rfl ?_
  apply Exists.intro
  refine ⟨fun W hW => ?_, ?_⟩
  · have p2 := q2 W hW
    have p0 := q0 W hW
    have pl := ql W hW
    go_simp
    try rfl
  simp only [Act.put, List.setIfInBounds_toArray, List.set_cons_zero, List.set_cons_succ]
  refine h_take 8 rfl (by kernel_rfl) (by kernel_rfl) (by kernel_rfl) (fun _ _ _ _ h => h) hS0 rfl ?_
  apply Exists.intro
  refine ⟨fun W hW => ?_, ?_⟩
  · have p2 := q2 W hW
    have p0 := q0 W hW
    have pl := ql W hW
    go_simp
    try rfl
  simp only [Act.put, List.setIfInBounds_toArray, List.set_cons_zero, List.set_cons_succ]
  refine h_take 9 rfl (by kernel_rfl) (by kernel_rfl) (by kernel_rfl) (fun _ _ _ _ h => h) hS0 rfl ?_
  apply Exists.intro
  refine ⟨fun W hW => ?_, ?_⟩
  · have p2 := q2 W hW
    have p0 := q0 W hW
    have pl := ql W hW
    go_simp
    try rfl
  simp only [Act.put, List.setIfInBounds_toArray, List.set_cons_zero, List.set_cons_succ]
  refine h_one 10 rfl (by kernel_rfl) rfl ?_
  refine op_val (by go_simp; exact ⟨rfl, rfl⟩) ?_
  refine ⟨by rw [hSe]; exact below_drew1 (below_alloc (Below.refl _ _) _), ?_⟩
  simp only [Act.put, List.setIfInBounds_toArray, List.set_cons_zero, List.set_cons_succ]
  refine h_one 11 rfl (by kernel_rfl) rfl ?_
  refine op_skip (w1 := (w1.alloc (.cells #[.string ⟨#[]⟩, .int .i64 0, .int .i64 0, .int .i64 0] 96)).drew) (by go_simp) ?_
  refine ⟨by rw [hSe]; exact below_drew1 (below_alloc (Below.refl _ _) _), ?_⟩
  simp only [Act.put]
  refine h_one 12 rfl (by kernel_rfl) rfl ?_
  refine op_val (by go_simp; exact ⟨rfl, rfl⟩) ?_
  refine ⟨by rw [hSe]; exact below_drew1 (below_alloc (Below.refl _ _) _), ?_⟩
  simp only [Act.put, List.setIfInBounds_toArray, List.set_cons_zero, List.set_cons_succ]
  refine wpAnyH_done (by kernel_rfl) ?_ _
  have hwe : Below w1.heap.size w1 (w1.alloc (.cells #[.string ⟨#[]⟩, .int .i64 0, .int .i64 0, .int .i64 0] 96)).drew := below_drew1 (below_alloc (Below.refl _ _) _)
  have hbn : ((w1.alloc (.cells #[.string ⟨#[]⟩, .int .i64 0, .int .i64 0, .int .i64 0] 96)).drew).heap[w1.heap.size]? = some (.cells #[.string ⟨#[]⟩, .int .i64 0, .int .i64 0, .int .i64 0] 96 (0, 0)) := blk_new w1 _
  generalize (w1.alloc (.cells #[.string ⟨#[]⟩, .int .i64 0, .int .i64 0, .int .i64 0] 96)).drew = w2 at *
  have hbk2 := blk_below hbk1 hwe
  have hrbtwo : w1.heap.size ≠ b := by have := HW1.out.size; omega
  have HW2 := Aside0.mk (HW1.out.before hwe (by have := HW1.out.size; omega))
  generalize w1.heap.size = rtwo at *
  have hrwtwo2 := hbn
  clear q0 q2 ql hS0 hSe hwe kP hbk1 HW1 hbn
  go_wp2_with fail
  obtain ⟨S, hSe⟩ : ∃ S : World → Prop, S = fun W => Below w2.heap.size w2 W := ⟨_, rfl⟩
  obtain ⟨p, v, kP⟩ := HW2.out.1
  have q2 : ∀ W, S W → W.cell? ⟨b, 3, none⟩ = some (.map (some m1)) := fun W hW => by rw [hSe] at hW; exact blk_cell (blk_below kP.blk hW) 3
  have q0 : ∀ W, S W → W.cell? ⟨g, 0, none⟩ = some (.int .i64 x.f0) := fun W hW => by rw [hSe] at hW; exact blk_cell (blk_below hbk2 hW) 0
  have ql : ∀ W, S W → (Instr.lookup 73 (.map (some m1)) (.int .i64 x.f0) true).run Tryd.prog W = .ok (.tuple #[.agg #[.string ⟨#[]⟩, .int .i64 0, .int .i64 0, .int .i64 0], .bool false]) W := fun W hW => by
    rw [hSe] at hW
    rw [look_tab W m1 preT 12 (kP.below hW).one, HQone.out]
    rfl
  have hS0 : S w2.drew := by rw [hSe]; exact below_drew1 (Below.refl _ _)
  refine wp_region_held_drew (S := S) (by kernel_rfl) hS0 (fun _ => ?_)
  refine h_take 0 rfl (by kernel_rfl) (by kernel_rfl) (by kernel_rfl) (fun _ _ _ _ h => h) hS0 rfl ?_
  apply Exists.intro
  refine ⟨fun W hW => ?_, ?_⟩
  · have p2 := q2 W hW
    have p0 := q0 W hW
    have pl := ql W hW
    go_simp
    try rfl
  simp only [Act.put, List.setIfInBounds_toArray, List.set_cons_zero, List.set_cons_succ]
  refine h_take 1 rfl (by kernel_rfl) (by kernel_rfl) (by kernel_rfl) (fun _ _ _ _ h => h) hS0 rfl ?_
  apply Exists.intro
  refine ⟨fun W hW => ?_, ?_⟩
  · have p2 := q2 W hW
    have p0 := q0 W hW
    have pl := ql W hW
    go_simp
    try rfl
  simp only [Act.put, List.setIfInBounds_toArray, List.set_cons_zero, List.set_cons_succ]
  refine h_take 2 rfl (by kernel_rfl) (by kernel_rfl) (by kernel_rfl) (fun _ _ _ _ h => h) hS0 rfl ?_
  apply Exists.intro
  refine ⟨fun W hW => ?_, ?_⟩
  · have p2 := q2 W hW
    have p0 := q0 W hW
    have pl := ql W hW
    go_simp
    try rfl
  simp only [Act.put, List.setIfInBounds_toArray, List.set_cons_zero, List.set_cons_succ]
  refine h_take 3 rfl (by kernel_rfl) (by kernel_rfl) (by kernel_rfl) (fun _ _ _ _ h => h) hS0 rfl ?_
  apply Exists.intro
  refine ⟨fun W hW => ?_, ?_⟩
  · have p2 := q2 W hW
    have p0 := q0 W hW
    have pl := ql W hW
    go_simp
    try rfl
  simp only [Act.put, List.setIfInBounds_toArray, List.set_cons_zero, List.set_cons_succ]
  refine h_take 4 rfl (by kernel_rfl) (by kernel_rfl) (by kernel_rfl) (fun _ _ _ _ h => h) hS0 rfl ?_
  apply Exists.intro
  refine ⟨fun W hW => ?_, ?_⟩
  · have p2 := q2 W hW
    have p0 := q0 W hW
    have pl := ql W hW
    go_simp
    try rfl
  simp only [Act.put, List.setIfInBounds_toArray, List.set_cons_zero, List.set_cons_succ]
  refine h_take 5 rfl (by kernel_rfl) (by kernel_rfl) (by kernel_rfl) (fun _ _ _ _ h => h) hS0 rfl ?_
  apply Exists.intro
  refine ⟨fun W hW => ?_, ?_⟩
  · have p2 := q2 W hW
    have p0 := q0 W hW
    have pl := ql W hW
    go_simp
    try rfl
  simp only [Act.put, List.setIfInBounds_toArray, List.set_cons_zero, List.set_cons_succ]
  refine h_take 6 rfl (by kernel_rfl) (by kernel_rfl) (by kernel_rfl) (fun _ _ _ _ h => h) hS0 rfl ?_
  apply Exists.intro
  refine ⟨fun W hW => ?_, ?_⟩
  · have p2 := q2 W hW
    have p0 := q0 W hW
    have pl := ql W hW
    go_simp
    try rfl
  simp only [Act.put, List.setIfInBounds_toArray, List.set_cons_zero, List.set_cons_succ]
  refine h_take 7 rfl (by kernel_rfl) (by kernel_rfl) (by kernel_rfl) (fun _ _ _ _ h => h) hS0 rfl ?_
  apply Exists.intro
  refine ⟨fun W hW => ?_, ?_⟩
  · have p2 := q2 W hW
    have p0 := q0 W hW
    have pl := ql W hW
    go_simp
    try rfl
  simp only [Act.put, List.setIfInBounds_toArray, List.set_cons_zero, List.set_cons_succ]
  refine h_take 8 rfl (by kernel_rfl) (by kernel_rfl) (by kernel_rfl) (fun _ _ _ _ h => h) hS0 rfl ?_
  apply Exists.intro
  refine ⟨fun W hW => ?_, ?_⟩
  · have p2 := q2 W hW
    have p0 := q0 W hW
    have pl := ql W hW
    go_simp
    try rfl
  simp only [Act.put, List.setIfInBounds_toArray, List.set_cons_zero, List.set_cons_succ]
  refine h_take 9 rfl (by kernel_rfl) (by kernel_rfl) (by kernel_rfl) (fun _ _ _ _ h => h) hS0 rfl ?_
  apply Exists.intro
  refine ⟨fun W hW => ?_, ?_⟩
  · have p2 := q2 W hW
    have p0 := q0 W hW
    have pl := ql W hW
    go_simp
    try rfl
  simp only [Act.put, List.setIfInBounds_toArray, List.set_cons_zero, List.set_cons_succ]
  refine h_one 10 rfl (by kernel_rfl) rfl ?_
  refine op_val (by go_simp; exact ⟨rfl, rfl⟩) ?_
  refine ⟨by rw [hSe]; exact below_drew1 (below_alloc (Below.refl _ _) _), ?_⟩
  simp only [Act.put, List.setIfInBounds_toArray, List.set_cons_zero, List.set_cons_succ]
  refine h_one 11 rfl (by kernel_rfl) rfl ?_
  refine op_skip (w1 := (w2.alloc (.cells #[.string ⟨#[]⟩, .int .i64 0, .int .i64 0, .int .i64 0] 96)).drew) (by go_simp) ?_
  refine ⟨by rw [hSe]; exact below_drew1 (below_alloc (Below.refl _ _) _), ?_⟩
  simp only [Act.put]
  refine h_one 12 rfl (by kernel_rfl) rfl ?_
  refine op_val (by go_simp; exact ⟨rfl, rfl⟩) ?_
  refine ⟨by rw [hSe]; exact below_drew1 (below_alloc (Below.refl _ _) _), ?_⟩
  simp only [Act.put, List.setIfInBounds_toArray, List.set_cons_zero, List.set_cons_succ]
  refine wpAnyH_done (by kernel_rfl) ?_ _
  have hwe : Below w2.heap.size w2 (w2.alloc (.cells #[.string ⟨#[]⟩, .int .i64 0, .int .i64 0, .int .i64 0] 96)).drew := below_drew1 (below_alloc (Below.refl _ _) _)
  have hbn : ((w2.alloc (.cells #[.string ⟨#[]⟩, .int .i64 0, .int .i64 0, .int .i64 0] 96)).drew).heap[w2.heap.size]? = some (.cells #[.string ⟨#[]⟩, .int .i64 0, .int .i64 0, .int .i64 0] 96 (0, 0)) := blk_new w2 _
  generalize (w2.alloc (.cells #[.string ⟨#[]⟩, .int .i64 0, .int .i64 0, .int .i64 0] 96)).drew = w3 at *
  have hbk3 := blk_below hbk2 hwe
  have hrbone : w2.heap.size ≠ b := by have := HW2.out.size; omega
  have HW3 := Aside0.mk (HW2.out.before hwe (by have := HW2.out.size; omega))
  generalize w2.heap.size = rone at *
  have hrwone3 := hbn
  clear q0 q2 ql hS0 hSe hwe kP hbk2 HW2 hbn hrwtwo2 hrwone3 hrbtwo hrbone
  have z0 := blk_cell hbk3 0
  have z1 := blk_cell hbk3 1
  have z2 := blk_cell hbk3 2
  have z3 := blk_cell hbk3 3
  have z4 := blk_cell hbk3 4
  have e1 : (x.f0 == 1) = false := by rw [HOP.out]; rfl
  have e2 : (x.f0 == 2) = true := by rw [HOP.out]; rfl
  go_wp2_with fail
  clear z0 z1 z2 z3 z4
  refine (writeL_walk B b m2 m1 _ [110, 111, 110, 101] _ HW3.out.1 ?a3 ?b4).mono ?_
  case a3 => have := HL.out; (try simp only [List.length_append, List.length_cons, List.length_nil, data_length] at this ⊢); omega
  case b4 => have := HW3.out.size; omega
  rintro e w4 ⟨rfl, hw4⟩
  have hbk4 := hw4.blk hbk3 hgb (by decide)
  have HW4 := Aside0.mk (HW3.out.trans hw4)
  clear hw4 HW3 hbk3  
  have z0 := blk_cell hbk4 0
  have z1 := blk_cell hbk4 1
  have z2 := blk_cell hbk4 2
  have z3 := blk_cell hbk4 3
  have z4 := blk_cell hbk4 4
  go_wp2_with fail
  go_end0
  exact ⟨rfl, HW4.out⟩

set_option maxHeartbeats 4000000 in
set_option maxRecDepth 100000 in
theorem node_none2 (x : S24) (hop : x.f0 = 2) (hn : x.f2 ≠ 1) (hn0 : -9223372036854775808 ≤ x.f2) (hn1 : x.f2 ≤ 9223372036854775807) (hbn : atT x.f0 binT = none) (hb : atT x.f0 preT = none) : NodeC x := by
  intro w0 B b m2 m1 bs w cs fin hx hb0 hB0 ht hP hlen
  obtain ⟨A, c, rfl, hlc, hA⟩ := k24_open hx
  have HX := Aside0.mk hx
  have HA := Aside0.mk hA
  have HP := Aside0.mk hP
  have HT := Aside0.mk ht
  have HB0 := Aside0.mk hb0
  have hlt := hP.lt
  have hlow := hP.low
  have hu24 := Tryd.underlying24
  have hu96 := Tryd.underlying96
  have htx : txt x fin = [110, 111, 110, 101] ++ ([91] ++ Lib.itoa x.f2 ++ [93]) := by rw [txt_def, hbn, hb]; simp [hop, hn]
  rw [htx] at hlen ⊢
  have HL := Aside0.mk hlen
  have HQtwo := Aside0.mk hbn
  have HQone := Aside0.mk hb
  have HOP := Aside0.mk hop
  have hnb : (x.f2 != 1) = true := by simpa using hn
  have hl2 : bs.length + (4 + ((Lib.itoa x.f2).length + 2)) ≤ most := by have := HL.out; simp only [List.length_append, List.length_cons, List.length_nil] at this; omega
  have hz1 : ¬ 9223372036854775807 < 1 + (Lib.itoa x.f2).length := by unfold most at hl2; omega
  have hz2 : ¬ 9223372036854775807 < 1 + (Lib.itoa x.f2).length + 1 := by unfold most at hl2; omega
  have HS2 := Aside0.mk (show ((⟨#[91]⟩ : ByteArray) ++ (⟨(Lib.itoa x.f2).toArray⟩ : ByteArray) ++ (⟨#[93]⟩ : ByteArray)).size = (Lib.itoa x.f2).length + 2 by rw [ByteArray.size_append, ByteArray.size_append, toL_size (Lib.itoa x.f2)]; show 1 + _ + 1 = _; omega)
  have HL2 := Aside0.mk hl2
  have hass : bs ++ ([110, 111, 110, 101] ++ ([91] ++ Lib.itoa x.f2 ++ [93])) = (bs ++ [110, 111, 110, 101]) ++ ((⟨#[91]⟩ : ByteArray) ++ (⟨(Lib.itoa x.f2).toArray⟩ : ByteArray) ++ (⟨#[93]⟩ : ByteArray)).data.toList := by simp [ByteArray.data_append]
  rw [hass]
  clear hx hP ht hb0 hA hlc htx hlen hb hbn hop hn hass hl2
  go_enter Tryd.func38, Tryd.ntmps38
  go_wp2_with ((with_reducible refine gate_dst (N := 4) rfl ?_); refine box_event rfl (N := 4) rfl (cs := #[.int .i64 x.f0, .string x.f1, .int .i64 x.f2, .slice A x.f3.length c, .int .i64 x.f4]) (t := 24) (by first | (go_simp; done) | (go_simp; rfl)) ?_; intro g hg w1 hbk1 hb1; have HG := Aside0.mk hg; clear hg)
  have HW1 := Aside0.mk (show Wrote B b m2 m1 bs w w1 from ⟨HP.out.below hb1, hb1.mono (by omega), fun i o hi _ _ => (hb1.block i (blk_lt hi)).trans hi⟩)
  have hgb : g ≠ b := by have := HG.out; omega
  clear hb1
  obtain ⟨S, hSe⟩ : ∃ S : World → Prop, S = fun W => Below w1.heap.size w1 W := ⟨_, rfl⟩
  obtain ⟨p, v, kP⟩ := HW1.out.1
  have q2 : ∀ W, S W → W.cell? ⟨b, 2, none⟩ = some (.map (some m2)) := fun W hW => by rw [hSe] at hW; exact blk_cell (blk_below kP.blk hW) 2
  have q0 : ∀ W, S W → W.cell? ⟨g, 0, none⟩ = some (.int .i64 x.f0) := fun W hW => by rw [hSe] at hW; exact blk_cell (blk_below hbk1 hW) 0
  have ql : ∀ W, S W → (Instr.lookup 73 (.map (some m2)) (.int .i64 x.f0) true).run Tryd.prog W = .ok (.tuple #[.agg #[.string ⟨#[]⟩, .int .i64 0, .int .i64 0, .int .i64 0], .bool false]) W := fun W hW => by
    rw [hSe] at hW
    rw [look_tab W m2 binT 17 (kP.below hW).two, HQtwo.out]
    rfl
  have hS0 : S w1.drew := by rw [hSe]; exact below_drew1 (Below.refl _ _)
  refine wp_region_held_drew (S := S) (by kernel_rfl) hS0 (fun _ => ?_)
  refine h_take 0 rfl (by kernel_rfl) (by kernel_rfl) (by kernel_rfl) (fun _ _ _ _ h => h) hS0 rfl ?_
  apply Exists.intro
  refine ⟨fun W hW => ?_, ?_⟩
  · have p2 := q2 W hW
    have p0 := q0 W hW
    have pl := ql W hW
    go_simp
    try rfl
  simp only [Act.put, List.setIfInBounds_toArray, List.set_cons_zero, List.set_cons_succ]
  refine h_take 1 rfl (by kernel_rfl) (by kernel_rfl) (by kernel_rfl) (fun _ _ _ _ h => h) hS0 rfl ?_
  apply Exists.intro
  refine ⟨fun W hW => ?_, ?_⟩
  · have p2 := q2 W hW
    have p0 := q0 W hW
    have pl := ql W hW
    go_simp
    try rfl
  simp only [Act.put, List.setIfInBounds_toArray, List.set_cons_zero, List.set_cons_succ]
  refine h_take 2 rfl (by kernel_rfl) (by kernel_rfl) (by kernel_rfl) (fun _ _ _ _ h => h) hS0 rfl ?_
  apply Exists.intro
  refine ⟨fun W hW => ?_, ?_⟩
  · have p2 := q2 W hW
    have p0 := q0 W hW
    have pl := ql W hW
    go_simp
    try rfl
  simp only [Act.put, List.setIfInBounds_toArray, List.set_cons_zero, List.set_cons_succ]
  refine h_take 3 rfl (by kernel_rfl) (by kernel_rfl) (by kernel_rfl) (fun _ _ _ _ h => h) hS0 rfl ?_
  apply Exists.intro
  refine ⟨fun W hW => ?_, ?_⟩
  · have p2 := q2 W hW
    have p0 := q0 W hW
    have pl := ql W hW
    go_simp
    try rfl
  simp only [Act.put, List.setIfInBounds_toArray, List.set_cons_zero, List.set_cons_succ]
  refine h_take 4 rfl (by kernel_rfl) (by kernel_rfl) (by kernel_rfl) (fun _ _ _ _ h => h) hS0 rfl ?_
  apply Exists.intro
  refine ⟨fun W hW => ?_, ?_⟩
  · have p2 := q2 W hW
    have p0 := q0 W hW
    have pl := ql W hW
    go_simp
    try rfl
  simp only [Act.put, List.setIfInBounds_toArray, List.set_cons_zero, List.set_cons_succ]
  refine h_take 5 rfl (by kernel_rfl) (by kernel_rfl) (by kernel_rfl) (fun _ _ _ _ h => h) hS0 rfl ?_
  apply Exists.intro
  refine ⟨fun W hW => ?_, ?_⟩
  · have p2 := q2 W hW
    have p0 := q0 W hW
    have pl := ql W hW
    go_simp
    try rfl
  simp only [Act.put, List.setIfInBounds_toArray, List.set_cons_zero, List.set_cons_succ]
  refine h_take 6 rfl (by kernel_rfl) (by kernel_rfl) (by kernel_rfl) (fun _ _ _ _ h => h) hS0 rfl ?_
  apply Exists.intro
  refine ⟨fun W hW => ?_, ?_⟩
  · have p2 := q2 W hW
    have p0 := q0 W hW
    have pl := ql W hW
    go_simp
    try rfl
  simp only [Act.put, List.setIfInBounds_toArray, List.set_cons_zero, List.set_cons_succ]
  refine h_take 7 rfl (by kernel_rfl) (by kernel_rfl) (by kernel_rfl) (fun _ _ _ _ h => h) hS0 rfl ?_
  apply Exists.intro
  refine ⟨fun W hW => ?_, ?_⟩
  · have p2 := q2 W hW
    have p0 := q0 W hW
    have pl := ql W hW
    go_simp
    try rfl
  simp only [Act.put, List.setIfInBounds_toArray, List.set_cons_zero, List.set_cons_succ]
  refine h_take 8 rfl (by kernel_rfl) (by kernel_rfl) (by kernel_rfl) (fun _ _ _ _ h => h) hS0 rfl ?_
  apply Exists.intro
  refine ⟨fun W hW => ?_, ?_⟩
  · have p2 := q2 W hW
    have p0 := q0 W hW
    have pl := ql W hW
    go_simp
    try rfl
  simp only [Act.put, List.setIfInBounds_toArray, List.set_cons_zero, List.set_cons_succ]
  refine h_take 9 rfl (by kernel_rfl) (by kernel_rfl) (by kernel_rfl) (fun _ _ _ _ h => h) hS0 rfl ?_
  apply Exists.intro
  refine ⟨fun W hW => ?_, ?_⟩
  · have p2 := q2 W hW
    have p0 := q0 W hW
    have pl := ql W hW
    go_simp
    try rfl
  simp only [Act.put, List.setIfInBounds_toArray, List.set_cons_zero, List.set_cons_succ]
  refine h_one 10 rfl (by kernel_rfl) rfl ?_
  refine op_val (by go_simp; exact ⟨rfl, rfl⟩) ?_
  refine ⟨by rw [hSe]; exact below_drew1 (below_alloc (Below.refl _ _) _), ?_⟩
  simp only [Act.put, List.setIfInBounds_toArray, List.set_cons_zero, List.set_cons_succ]
  refine h_one 11 rfl (by kernel_rfl) rfl ?_
  refine op_skip (w1 := (w1.alloc (.cells #[.string ⟨#[]⟩, .int .i64 0, .int .i64 0, .int .i64 0] 96)).drew) (by go_simp) ?_
  refine ⟨by rw [hSe]; exact below_drew1 (below_alloc (Below.refl _ _) _), ?_⟩
  simp only [Act.put]
  refine h_one 12 rfl (by kernel_rfl) rfl ?_
  refine op_val (by go_simp; exact ⟨rfl, rfl⟩) ?_
  refine ⟨by rw [hSe]; exact below_drew1 (below_alloc (Below.refl _ _) _), ?_⟩
  simp only [Act.put, List.setIfInBounds_toArray, List.set_cons_zero, List.set_cons_succ]
  refine wpAnyH_done (by kernel_rfl) ?_ _
  have hwe : Below w1.heap.size w1 (w1.alloc (.cells #[.string ⟨#[]⟩, .int .i64 0, .int .i64 0, .int .i64 0] 96)).drew := below_drew1 (below_alloc (Below.refl _ _) _)
  have hbn : ((w1.alloc (.cells #[.string ⟨#[]⟩, .int .i64 0, .int .i64 0, .int .i64 0] 96)).drew).heap[w1.heap.size]? = some (.cells #[.string ⟨#[]⟩, .int .i64 0, .int .i64 0, .int .i64 0] 96 (0, 0)) := blk_new w1 _
  generalize (w1.alloc (.cells #[.string ⟨#[]⟩, .int .i64 0, .int .i64 0, .int .i64 0] 96)).drew = w2 at *
  have hbk2 := blk_below hbk1 hwe
  have hrbtwo : w1.heap.size ≠ b := by have := HW1.out.size; omega
  have HW2 := Aside0.mk (HW1.out.before hwe (by have := HW1.out.size; omega))
  generalize w1.heap.size = rtwo at *
  have hrwtwo2 := hbn
  clear q0 q2 ql hS0 hSe hwe kP hbk1 HW1 hbn
  go_wp2_with fail
  obtain ⟨S, hSe⟩ : ∃ S : World → Prop, S = fun W => Below w2.heap.size w2 W := ⟨_, rfl⟩
  obtain ⟨p, v, kP⟩ := HW2.out.1
  have q2 : ∀ W, S W → W.cell? ⟨b, 3, none⟩ = some (.map (some m1)) := fun W hW => by rw [hSe] at hW; exact blk_cell (blk_below kP.blk hW) 3
  have q0 : ∀ W, S W → W.cell? ⟨g, 0, none⟩ = some (.int .i64 x.f0) := fun W hW => by rw [hSe] at hW; exact blk_cell (blk_below hbk2 hW) 0
  have ql : ∀ W, S W → (Instr.lookup 73 (.map (some m1)) (.int .i64 x.f0) true).run Tryd.prog W = .ok (.tuple #[.agg #[.string ⟨#[]⟩, .int .i64 0, .int .i64 0, .int .i64 0], .bool false]) W := fun W hW => by
    rw [hSe] at hW
    rw [look_tab W m1 preT 12 (kP.below hW).one, HQone.out]
    rfl
  have hS0 : S w2.drew := by rw [hSe]; exact below_drew1 (Below.refl _ _)
  refine wp_region_held_drew (S := S) (by kernel_rfl) hS0 (fun _ => ?_)
  refine h_take 0 rfl (by kernel_rfl) (by kernel_rfl) (by kernel_rfl) (fun _ _ _ _ h => h) hS0 rfl ?_
  apply Exists.intro
  refine ⟨fun W hW => ?_, ?_⟩
  · have p2 := q2 W hW
    have p0 := q0 W hW
    have pl := ql W hW
    go_simp
    try rfl
  simp only [Act.put, List.setIfInBounds_toArray, List.set_cons_zero, List.set_cons_succ]
  refine h_take 1 rfl (by kernel_rfl) (by kernel_rfl) (by kernel_rfl) (fun _ _ _ _ h => h) hS0 rfl ?_
  apply Exists.intro
  refine ⟨fun W hW => ?_, ?_⟩
  · have p2 := q2 W hW
    have p0 := q0 W hW
    have pl := ql W hW
    go_simp
    try rfl
  simp only [Act.put, List.setIfInBounds_toArray, List.set_cons_zero, List.set_cons_succ]
  refine h_take 2 rfl (by kernel_rfl) (by kernel_rfl) (by kernel_rfl) (fun _ _ _ _ h => h) hS0 rfl ?_
  apply Exists.intro
  refine ⟨fun W hW => ?_, ?_⟩
  · have p2 := q2 W hW
    have p0 := q0 W hW
    have pl := ql W hW
    go_simp
    try rfl
  simp only [Act.put, List.setIfInBounds_toArray, List.set_cons_zero, List.set_cons_succ]
  refine h_take 3 rfl (by kernel_rfl) (by kernel_rfl) (by kernel_rfl) (fun _ _ _ _ h => h) hS0 rfl ?_
  apply Exists.intro
  refine ⟨fun W hW => ?_, ?_⟩
  · have p2 := q2 W hW
    have p0 := q0 W hW
    have pl := ql W hW
    go_simp
    try rfl
  simp only [Act.put, List.setIfInBounds_toArray, List.set_cons_zero, List.set_cons_succ]
  refine h_take 4 rfl (by kernel_rfl) (by kernel_rfl) (by kernel_rfl) (fun _ _ _ _ h => h) hS0 rfl ?_
  apply Exists.intro
  refine ⟨fun W hW => ?_, ?_⟩
  · have p2 := q2 W hW
    have p0 := q0 W hW
    have pl := ql W hW
    go_simp
    try rfl
  simp only [Act.put, List.setIfInBounds_toArray, List.set_cons_zero, List.set_cons_succ]
  refine h_take 5 rfl (by kernel_rfl) (by kernel_rfl) (by kernel_rfl) (fun _ _ _ _ h => h) hS0 rfl ?_
  apply Exists.intro
  refine ⟨fun W hW => ?_, ?_⟩
  · have p2 := q2 W hW
    have p0 := q0 W hW
    have pl := ql W hW
    go_simp
    try rfl
  simp only [Act.put, List.setIfInBounds_toArray, List.set_cons_zero, List.set_cons_succ]
  refine h_take 6 rfl (by kernel_rfl) (by kernel_rfl) (by kernel_rfl) (fun _ _ _ _ h => h) hS0 rfl ?_
  apply Exists.intro
  refine ⟨fun W hW => ?_, ?_⟩
  · have p2 := q2 W hW
    have p0 := q0 W hW
    have pl := ql W hW
    go_simp
    try rfl
  simp only [Act.put, List.setIfInBounds_toArray, List.set_cons_zero, List.set_cons_succ]
  refine h_take 7 rfl (by kernel_rfl) (by kernel_rfl) (by kernel_rfl) (fun _ _ _ _ h => h) hS0 rfl ?_
  apply Exists.intro
  refine ⟨fun W hW => ?_, ?_⟩
  · have p2 := q2 W hW
    have p0 := q0 W hW
    have pl := ql W hW
    go_simp
    try rfl
  simp only [Act.put, List.setIfInBounds_toArray, List.set_cons_zero, List.set_cons_succ]
  refine h_take 8 rfl (by kernel_rfl) (by kernel_rfl) (by kernel_rfl) (fun _ _ _ _ h => h) hS0 rfl ?_
  apply Exists.intro
  refine ⟨fun W hW => ?_, ?_⟩
  · have p2 := q2 W hW
    have p0 := q0 W hW
    have pl := ql W hW
    go_simp
    try rfl
  simp only [Act.put, List.setIfInBounds_toArray, List.set_cons_zero, List.set_cons_succ]
  refine h_take 9 rfl (by kernel_rfl) (by kernel_rfl) (by kernel_rfl) (fun _ _ _ _ h => h) hS0 rfl ?_
  apply Exists.intro
  refine ⟨fun W hW => ?_, ?_⟩
  · have p2 := q2 W hW
    have p0 := q0 W hW
    have pl := ql W hW
    go_simp
    try rfl
  simp only [Act.put, List.setIfInBounds_toArray, List.set_cons_zero, List.set_cons_succ]
  refine h_one 10 rfl (by kernel_rfl) rfl ?_
  refine op_val (by go_simp; exact ⟨rfl, rfl⟩) ?_
  refine ⟨by rw [hSe]; exact below_drew1 (below_alloc (Below.refl _ _) _), ?_⟩
  simp only [Act.put, List.setIfInBounds_toArray, List.set_cons_zero, List.set_cons_succ]
  refine h_one 11 rfl (by kernel_rfl) rfl ?_
  refine op_skip (w1 := (w2.alloc (.cells #[.string ⟨#[]⟩, .int .i64 0, .int .i64 0, .int .i64 0] 96)).drew) (by go_simp) ?_
  refine ⟨by rw [hSe]; exact below_drew1 (below_alloc (Below.refl _ _) _), ?_⟩
  simp only [Act.put]
  refine h_one 12 rfl (by kernel_rfl) rfl ?_
  refine op_val (by go_simp; exact ⟨rfl, rfl⟩) ?_
  refine ⟨by rw [hSe]; exact below_drew1 (below_alloc (Below.refl _ _) _), ?_⟩
  simp only [Act.put, List.setIfInBounds_toArray, List.set_cons_zero, List.set_cons_succ]
  refine wpAnyH_done (by kernel_rfl) ?_ _
  have hwe : Below w2.heap.size w2 (w2.alloc (.cells #[.string ⟨#[]⟩, .int .i64 0, .int .i64 0, .int .i64 0] 96)).drew := below_drew1 (below_alloc (Below.refl _ _) _)
  have hbn : ((w2.alloc (.cells #[.string ⟨#[]⟩, .int .i64 0, .int .i64 0, .int .i64 0] 96)).drew).heap[w2.heap.size]? = some (.cells #[.string ⟨#[]⟩, .int .i64 0, .int .i64 0, .int .i64 0] 96 (0, 0)) := blk_new w2 _
  generalize (w2.alloc (.cells #[.string ⟨#[]⟩, .int .i64 0, .int .i64 0, .int .i64 0] 96)).drew = w3 at *
  have hbk3 := blk_below hbk2 hwe
  have hrbone : w2.heap.size ≠ b := by have := HW2.out.size; omega
  have HW3 := Aside0.mk (HW2.out.before hwe (by have := HW2.out.size; omega))
  generalize w2.heap.size = rone at *
  have hrwone3 := hbn
  clear q0 q2 ql hS0 hSe hwe kP hbk2 HW2 hbn hrwtwo2 hrwone3 hrbtwo hrbone
  have z0 := blk_cell hbk3 0
  have z1 := blk_cell hbk3 1
  have z2 := blk_cell hbk3 2
  have z3 := blk_cell hbk3 3
  have z4 := blk_cell hbk3 4
  have e1 : (x.f0 == 1) = false := by rw [HOP.out]; rfl
  have e2 : (x.f0 == 2) = true := by rw [HOP.out]; rfl
  go_wp2_with fail
  clear z0 z1 z2 z3 z4
  refine (writeL_walk B b m2 m1 _ [110, 111, 110, 101] _ HW3.out.1 ?a5 ?b6).mono ?_
  case a5 => have := HL.out; (try simp only [List.length_append, List.length_cons, List.length_nil, data_length] at this ⊢); omega
  case b6 => have := HW3.out.size; omega
  rintro e w4 ⟨rfl, hw4⟩
  have hbk4 := hw4.blk hbk3 hgb (by decide)
  have HW4 := Aside0.mk (HW3.out.trans hw4)
  clear hw4 HW3 hbk3  
  have z0 := blk_cell hbk4 0
  have z1 := blk_cell hbk4 1
  have z2 := blk_cell hbk4 2
  have z3 := blk_cell hbk4 3
  have z4 := blk_cell hbk4 4
  go_wp2_with fail
  clear z0 z1 z2 z3 z4
  have hito : ∀ W, Below w4.heap.size w4 W → Calls Tryd.prog 61 #[.int .i64 x.f2] W fun e w' => e = .returned (.string ⟨(Lib.itoa x.f2).toArray⟩) ∧ Below w4.heap.size w4 w' := fun W hW => (itoa_walk x.f2 hn0 hn1 W (HT.out.below (below_step (HW4.out.from_ HB0.out hB0) hW))).mono fun e w' h => ⟨h.1, below_step hW h.2⟩
  obtain ⟨C, hCe⟩ : ∃ C : World → Prop, C = fun W => Below w4.heap.size w4 W := ⟨_, rfl⟩
  have q0 : ∀ W, C W → W.cell? ⟨g, 2, none⟩ = some (.int .i64 x.f2) := fun W hW => by rw [hCe] at hW; exact blk_cell (blk_below hbk4 hW) 2
  refine wp_quiet_tail C 8 (by kernel_rfl) (by kernel_rfl) (by rw [hCe]; exact below_drew1 (Below.refl _ _)) ?_
  simp only [List.take_succ_cons, List.take_zero, List.drop_succ_cons, List.drop_zero]
  refine q_ex rfl ?_
  apply Exists.intro
  refine ⟨fun W hW => ?_, ?_⟩
  · skip
    have p0 := q0 W hW
    go_simp
    try rfl
  simp only [Act.put, List.setIfInBounds_toArray, List.set_cons_zero, List.set_cons_succ]
  refine q_ex rfl ?_
  apply Exists.intro
  refine ⟨fun W hW => ?_, ?_⟩
  · skip
    have p0 := q0 W hW
    go_simp
    try rfl
  simp only [Act.put, List.setIfInBounds_toArray, List.set_cons_zero, List.set_cons_succ]
  refine q_ex rfl ?_
  apply Exists.intro
  refine ⟨fun W hW => ?_, ?_⟩
  · skip
    have p0 := q0 W hW
    go_simp
    try rfl
  simp only [Act.put, List.setIfInBounds_toArray, List.set_cons_zero, List.set_cons_succ]
  refine q_ex rfl ?_
  apply Exists.intro
  refine ⟨fun W hW => ?_, ?_⟩
  · skip
    have p0 := q0 W hW
    go_simp
    try rfl
  simp only [Act.put, List.setIfInBounds_toArray, List.set_cons_zero, List.set_cons_succ]
  refine q_ex rfl ?_
  apply Exists.intro
  refine ⟨fun W hW => ?_, ?_⟩
  · skip
    have p0 := q0 W hW
    go_simp
    try rfl
  simp only [Act.put, List.setIfInBounds_toArray, List.set_cons_zero, List.set_cons_succ]
  refine q_call rfl (fun W hW => by go_simp; exact ⟨rfl, rfl⟩) (fun W hW => (by subst hCe; exact hito W hW)) ?_
  simp only [Act.put, List.setIfInBounds_toArray, List.set_cons_zero, List.set_cons_succ]
  refine q_ex rfl ?_
  apply Exists.intro
  refine ⟨fun W hW => ?_, ?_⟩
  · skip
    have p0 := q0 W hW
    go_simp
    try rfl
  simp only [Act.put, List.setIfInBounds_toArray, List.set_cons_zero, List.set_cons_succ]
  refine q_ex rfl ?_
  apply Exists.intro
  refine ⟨fun W hW => ?_, ?_⟩
  · skip
    have p0 := q0 W hW
    go_simp
    try rfl
  simp only [Act.put, List.setIfInBounds_toArray, List.set_cons_zero, List.set_cons_succ]
  intro W hW
  have hWb := hW
  rw [hCe] at hWb
  clear hW q0
  clear hCe hito
  have HW5 := Aside0.mk (HW4.out.before hWb (by have := HW4.out.size; omega))
  have hbk5 := blk_below hbk4 hWb
  clear hWb HW4 hbk4 
  go_wp2_with fail
  refine (writeString_walk B b m2 m1 _ _ _ HW5.out.1 ?a7 ?b8).mono ?_
  case a7 => have := HL2.out; have := HS2.out; unfold most at *; rw [List.length_append]; show _ + 4 + _ ≤ _; omega
  case b8 => have := HW5.out.size; omega
  rintro e w6 ⟨rfl, hw6⟩
  have hbk6 := hw6.blk hbk5 hgb (by decide)
  have HW6 := Aside0.mk (HW5.out.trans hw6)
  clear hw6 HW5 hbk5  
  go_wp2_with fail
  go_end0
  exact ⟨rfl, HW6.out⟩

set_option maxHeartbeats 4000000 in
set_option maxRecDepth 100000 in
theorem node_call (x : S24) (hop : x.f0 = 47) (hbn : atT x.f0 binT = none) (hb : atT x.f0 preT = none) (hO : ∀ y ∈ x.f3, OprC y) : NodeC x := by
  intro w0 B b m2 m1 bs w cs fin hx hb0 hB0 ht hP hlen
  obtain ⟨A, c, rfl, hlc, hA⟩ := k24_open hx
  have HX := Aside0.mk hx
  have HA := Aside0.mk hA
  have HP := Aside0.mk hP
  have HT := Aside0.mk ht
  have HB0 := Aside0.mk hb0
  have hlt := hP.lt
  have hlow := hP.low
  have hu24 := Tryd.underlying24
  have hu96 := Tryd.underlying96
  have htx : txt x fin = x.f1.data.toList ++ [91] ++ argl x.f3 true ++ [93] := by rw [txt_def, hbn, hb]; simp [hop]
  rw [htx] at hlen ⊢
  have HL := Aside0.mk hlen
  have HQtwo := Aside0.mk hbn
  have HQone := Aside0.mk hb
  have HOP := Aside0.mk hop
  have HO := Aside0.mk hO
  have hl2 : bs.length + (x.f1.size + 1 + (argl x.f3 true).length + 1) ≤ most := by have := HL.out; simp only [List.length_append, List.length_cons, List.length_nil, data_length] at this; omega
  have hz1 : ¬ 9223372036854775807 < x.f1.size + 1 := by unfold most at hl2; omega
  have HS2 := Aside0.mk (show (x.f1 ++ (⟨#[91]⟩ : ByteArray)).size = x.f1.size + 1 by rw [ByteArray.size_append]; rfl)
  have HL2 := Aside0.mk hl2
  have hass : bs ++ (x.f1.data.toList ++ [91] ++ argl x.f3 true ++ [93]) = ((bs ++ (x.f1 ++ (⟨#[91]⟩ : ByteArray)).data.toList) ++ argl x.f3 true) ++ [93] := by simp [ByteArray.data_append]
  rw [hass]
  clear hx hP ht hb0 hA hlc htx hlen hb hbn hop hass hl2 hO
  go_enter Tryd.func38, Tryd.ntmps38
  go_wp2_with ((with_reducible refine gate_dst (N := 4) rfl ?_); refine box_event rfl (N := 4) rfl (cs := #[.int .i64 x.f0, .string x.f1, .int .i64 x.f2, .slice A x.f3.length c, .int .i64 x.f4]) (t := 24) (by first | (go_simp; done) | (go_simp; rfl)) ?_; intro g hg w1 hbk1 hb1; have HG := Aside0.mk hg; clear hg)
  have HW1 := Aside0.mk (show Wrote B b m2 m1 bs w w1 from ⟨HP.out.below hb1, hb1.mono (by omega), fun i o hi _ _ => (hb1.block i (blk_lt hi)).trans hi⟩)
  have hgb : g ≠ b := by have := HG.out; omega
  clear hb1
  obtain ⟨S, hSe⟩ : ∃ S : World → Prop, S = fun W => Below w1.heap.size w1 W := ⟨_, rfl⟩
  obtain ⟨p, v, kP⟩ := HW1.out.1
  have q2 : ∀ W, S W → W.cell? ⟨b, 2, none⟩ = some (.map (some m2)) := fun W hW => by rw [hSe] at hW; exact blk_cell (blk_below kP.blk hW) 2
  have q0 : ∀ W, S W → W.cell? ⟨g, 0, none⟩ = some (.int .i64 x.f0) := fun W hW => by rw [hSe] at hW; exact blk_cell (blk_below hbk1 hW) 0
  have ql : ∀ W, S W → (Instr.lookup 73 (.map (some m2)) (.int .i64 x.f0) true).run Tryd.prog W = .ok (.tuple #[.agg #[.string ⟨#[]⟩, .int .i64 0, .int .i64 0, .int .i64 0], .bool false]) W := fun W hW => by
    rw [hSe] at hW
    rw [look_tab W m2 binT 17 (kP.below hW).two, HQtwo.out]
    rfl
  have hS0 : S w1.drew := by rw [hSe]; exact below_drew1 (Below.refl _ _)
  refine wp_region_held_drew (S := S) (by kernel_rfl) hS0 (fun _ => ?_)
  refine h_take 0 rfl (by kernel_rfl) (by kernel_rfl) (by kernel_rfl) (fun _ _ _ _ h => h) hS0 rfl ?_
  apply Exists.intro
  refine ⟨fun W hW => ?_, ?_⟩
  · have p2 := q2 W hW
    have p0 := q0 W hW
    have pl := ql W hW
    go_simp
    try rfl
  simp only [Act.put, List.setIfInBounds_toArray, List.set_cons_zero, List.set_cons_succ]
  refine h_take 1 rfl (by kernel_rfl) (by kernel_rfl) (by kernel_rfl) (fun _ _ _ _ h => h) hS0 rfl ?_
  apply Exists.intro
  refine ⟨fun W hW => ?_, ?_⟩
  · have p2 := q2 W hW
    have p0 := q0 W hW
    have pl := ql W hW
    go_simp
    try rfl
  simp only [Act.put, List.setIfInBounds_toArray, List.set_cons_zero, List.set_cons_succ]
  refine h_take 2 rfl (by kernel_rfl) (by kernel_rfl) (by kernel_rfl) (fun _ _ _ _ h => h) hS0 rfl ?_
  apply Exists.intro
  refine ⟨fun W hW => ?_, ?_⟩
  · have p2 := q2 W hW
    have p0 := q0 W hW
    have pl := ql W hW
    go_simp
    try rfl
  simp only [Act.put, List.setIfInBounds_toArray, List.set_cons_zero, List.set_cons_succ]
  refine h_take 3 rfl (by kernel_rfl) (by kernel_rfl) (by kernel_rfl) (fun _ _ _ _ h => h) hS0 rfl ?_
  apply Exists.intro
  refine ⟨fun W hW => ?_, ?_⟩
  · have p2 := q2 W hW
    have p0 := q0 W hW
    have pl := ql W hW
    go_simp
    try rfl
  simp only [Act.put, List.setIfInBounds_toArray, List.set_cons_zero, List.set_cons_succ]
  refine h_take 4 rfl (by kernel_rfl) (by kernel_rfl) (by kernel_rfl) (fun _ _ _ _ h => h) hS0 rfl ?_
  apply Exists.intro
  refine ⟨fun W hW => ?_, ?_⟩
  · have p2 := q2 W hW
    have p0 := q0 W hW
    have pl := ql W hW
    go_simp
    try rfl
  simp only [Act.put, List.setIfInBounds_toArray, List.set_cons_zero, List.set_cons_succ]
  refine h_take 5 rfl (by kernel_rfl) (by kernel_rfl) (by kernel_rfl) (fun _ _ _ _ h => h) hS0 rfl ?_
  apply Exists.intro
  refine ⟨fun W hW => ?_, ?_⟩
  · have p2 := q2 W hW
    have p0 := q0 W hW
    have pl := ql W hW
    go_simp
    try rfl
  simp only [Act.put, List.setIfInBounds_toArray, List.set_cons_zero, List.set_cons_succ]
  refine h_take 6 rfl (by kernel_rfl) (by kernel_rfl) (by kernel_rfl) (fun _ _ _ _ h => h) hS0 rfl ?_
  apply Exists.intro
  refine ⟨fun W hW => ?_, ?_⟩
  · have p2 := q2 W hW
    have p0 := q0 W hW
    have pl := ql W hW
    go_simp
    try rfl
  simp only [Act.put, List.setIfInBounds_toArray, List.set_cons_zero, List.set_cons_succ]
  refine h_take 7 rfl (by kernel_rfl) (by kernel_rfl) (by kernel_rfl) (fun _ _ _ _ h => h) hS0 rfl ?_
  apply Exists.intro
  refine ⟨fun W hW => ?_, ?_⟩
  · have p2 := q2 W hW
    have p0 := q0 W hW
    have pl := ql W hW
    go_simp
    try rfl
  simp only [Act.put, List.setIfInBounds_toArray, List.set_cons_zero, List.set_cons_succ]
  refine h_take 8 rfl (by kernel_rfl) (by kernel_rfl) (by kernel_rfl) (fun _ _ _ _ h => h) hS0 rfl ?_
  apply Exists.intro
  refine ⟨fun W hW => ?_, ?_⟩
  · have p2 := q2 W hW
    have p0 := q0 W hW
    have pl := ql W hW
    go_simp
    try rfl
  simp only [Act.put, List.setIfInBounds_toArray, List.set_cons_zero, List.set_cons_succ]
  refine h_take 9 rfl (by kernel_rfl) (by kernel_rfl) (by kernel_rfl) (fun _ _ _ _ h => h) hS0 rfl ?_
  apply Exists.intro
  refine ⟨fun W hW => ?_, ?_⟩
  · have p2 := q2 W hW
    have p0 := q0 W hW
    have pl := ql W hW
    go_simp
    try rfl
  simp only [Act.put, List.setIfInBounds_toArray, List.set_cons_zero, List.set_cons_succ]
  refine h_one 10 rfl (by kernel_rfl) rfl ?_
  refine op_val (by go_simp; exact ⟨rfl, rfl⟩) ?_
  refine ⟨by rw [hSe]; exact below_drew1 (below_alloc (Below.refl _ _) _), ?_⟩
  simp only [Act.put, List.setIfInBounds_toArray, List.set_cons_zero, List.set_cons_succ]
  refine h_one 11 rfl (by kernel_rfl) rfl ?_
  refine op_skip (w1 := (w1.alloc (.cells #[.string ⟨#[]⟩, .int .i64 0, .int .i64 0, .int .i64 0] 96)).drew) (by go_simp) ?_
  refine ⟨by rw [hSe]; exact below_drew1 (below_alloc (Below.refl _ _) _), ?_⟩
  simp only [Act.put]
  refine h_one 12 rfl (by kernel_rfl) rfl ?_
  refine op_val (by go_simp; exact ⟨rfl, rfl⟩) ?_
  refine ⟨by rw [hSe]; exact below_drew1 (below_alloc (Below.refl _ _) _), ?_⟩
  simp only [Act.put, List.setIfInBounds_toArray, List.set_cons_zero, List.set_cons_succ]
  refine wpAnyH_done (by kernel_rfl) ?_ _
  have hwe : Below w1.heap.size w1 (w1.alloc (.cells #[.string ⟨#[]⟩, .int .i64 0, .int .i64 0, .int .i64 0] 96)).drew := below_drew1 (below_alloc (Below.refl _ _) _)
  have hbn : ((w1.alloc (.cells #[.string ⟨#[]⟩, .int .i64 0, .int .i64 0, .int .i64 0] 96)).drew).heap[w1.heap.size]? = some (.cells #[.string ⟨#[]⟩, .int .i64 0, .int .i64 0, .int .i64 0] 96 (0, 0)) := blk_new w1 _
  generalize (w1.alloc (.cells #[.string ⟨#[]⟩, .int .i64 0, .int .i64 0, .int .i64 0] 96)).drew = w2 at *
  have hbk2 := blk_below hbk1 hwe
  have hrbtwo : w1.heap.size ≠ b := by have := HW1.out.size; omega
  have HW2 := Aside0.mk (HW1.out.before hwe (by have := HW1.out.size; omega))
  generalize w1.heap.size = rtwo at *
  have hrwtwo2 := hbn
  clear q0 q2 ql hS0 hSe hwe kP hbk1 HW1 hbn
  go_wp2_with fail
  obtain ⟨S, hSe⟩ : ∃ S : World → Prop, S = fun W => Below w2.heap.size w2 W := ⟨_, rfl⟩
  obtain ⟨p, v, kP⟩ := HW2.out.1
  have q2 : ∀ W, S W → W.cell? ⟨b, 3, none⟩ = some (.map (some m1)) := fun W hW => by rw [hSe] at hW; exact blk_cell (blk_below kP.blk hW) 3
  have q0 : ∀ W, S W → W.cell? ⟨g, 0, none⟩ = some (.int .i64 x.f0) := fun W hW => by rw [hSe] at hW; exact blk_cell (blk_below hbk2 hW) 0
  have ql : ∀ W, S W → (Instr.lookup 73 (.map (some m1)) (.int .i64 x.f0) true).run Tryd.prog W = .ok (.tuple #[.agg #[.string ⟨#[]⟩, .int .i64 0, .int .i64 0, .int .i64 0], .bool false]) W := fun W hW => by
    rw [hSe] at hW
    rw [look_tab W m1 preT 12 (kP.below hW).one, HQone.out]
    rfl
  have hS0 : S w2.drew := by rw [hSe]; exact below_drew1 (Below.refl _ _)
  refine wp_region_held_drew (S := S) (by kernel_rfl) hS0 (fun _ => ?_)
  refine h_take 0 rfl (by kernel_rfl) (by kernel_rfl) (by kernel_rfl) (fun _ _ _ _ h => h) hS0 rfl ?_
  apply Exists.intro
  refine ⟨fun W hW => ?_, ?_⟩
  · have p2 := q2 W hW
    have p0 := q0 W hW
    have pl := ql W hW
    go_simp
    try rfl
  simp only [Act.put, List.setIfInBounds_toArray, List.set_cons_zero, List.set_cons_succ]
  refine h_take 1 rfl (by kernel_rfl) (by kernel_rfl) (by kernel_rfl) (fun _ _ _ _ h => h) hS0 rfl ?_
  apply Exists.intro
  refine ⟨fun W hW => ?_, ?_⟩
  · have p2 := q2 W hW
    have p0 := q0 W hW
    have pl := ql W hW
    go_simp
    try rfl
  simp only [Act.put, List.setIfInBounds_toArray, List.set_cons_zero, List.set_cons_succ]
  refine h_take 2 rfl (by kernel_rfl) (by kernel_rfl) (by kernel_rfl) (fun _ _ _ _ h => h) hS0 rfl ?_
  apply Exists.intro
  refine ⟨fun W hW => ?_, ?_⟩
  · have p2 := q2 W hW
    have p0 := q0 W hW
    have pl := ql W hW
    go_simp
    try rfl
  simp only [Act.put, List.setIfInBounds_toArray, List.set_cons_zero, List.set_cons_succ]
  refine h_take 3 rfl (by kernel_rfl) (by kernel_rfl) (by kernel_rfl) (fun _ _ _ _ h => h) hS0 rfl ?_
  apply Exists.intro
  refine ⟨fun W hW => ?_, ?_⟩
  · have p2 := q2 W hW
    have p0 := q0 W hW
    have pl := ql W hW
    go_simp
    try rfl
  simp only [Act.put, List.setIfInBounds_toArray, List.set_cons_zero, List.set_cons_succ]
  refine h_take 4 rfl (by kernel_rfl) (by kernel_rfl) (by kernel_rfl) (fun _ _ _ _ h => h) hS0 rfl ?_
  apply Exists.intro
  refine ⟨fun W hW => ?_, ?_⟩
  · have p2 := q2 W hW
    have p0 := q0 W hW
    have pl := ql W hW
    go_simp
    try rfl
  simp only [Act.put, List.setIfInBounds_toArray, List.set_cons_zero, List.set_cons_succ]
  refine h_take 5 rfl (by kernel_rfl) (by kernel_rfl) (by kernel_rfl) (fun _ _ _ _ h => h) hS0 rfl ?_
  apply Exists.intro
  refine ⟨fun W hW => ?_, ?_⟩
  · have p2 := q2 W hW
    have p0 := q0 W hW
    have pl := ql W hW
    go_simp
    try rfl
  simp only [Act.put, List.setIfInBounds_toArray, List.set_cons_zero, List.set_cons_succ]
  refine h_take 6 rfl (by kernel_rfl) (by kernel_rfl) (by kernel_rfl) (fun _ _ _ _ h => h) hS0 rfl ?_
  apply Exists.intro
  refine ⟨fun W hW => ?_, ?_⟩
  · have p2 := q2 W hW
    have p0 := q0 W hW
    have pl := ql W hW
    go_simp
    try rfl
  simp only [Act.put, List.setIfInBounds_toArray, List.set_cons_zero, List.set_cons_succ]
  refine h_take 7 rfl (by kernel_rfl) (by kernel_rfl) (by kernel_rfl) (fun _ _ _ _ h => h) hS0 rfl ?_
  apply Exists.intro
  refine ⟨fun W hW => ?_, ?_⟩
  · have p2 := q2 W hW
    have p0 := q0 W hW
    have pl := ql W hW
    go_simp
    try rfl
  simp only [Act.put, List.setIfInBounds_toArray, List.set_cons_zero, List.set_cons_succ]
  refine h_take 8 rfl (by kernel_rfl) (by kernel_rfl) (by kernel_rfl) (fun _ _ _ _ h => h) hS0 rfl ?_
  apply Exists.intro
  refine ⟨fun W hW => ?_, ?_⟩
  · have p2 := q2 W hW
    have p0 := q0 W hW
    have pl := ql W hW
    go_simp
    try rfl
  simp only [Act.put, List.setIfInBounds_toArray, List.set_cons_zero, List.set_cons_succ]
  refine h_take 9 rfl (by kernel_rfl) (by kernel_rfl) (by kernel_rfl) (fun _ _ _ _ h => h) hS0 rfl ?_
  apply Exists.intro
  refine ⟨fun W hW => ?_, ?_⟩
  · have p2 := q2 W hW
    have p0 := q0 W hW
    have pl := ql W hW
    go_simp
    try rfl
  simp only [Act.put, List.setIfInBounds_toArray, List.set_cons_zero, List.set_cons_succ]
  refine h_one 10 rfl (by kernel_rfl) rfl ?_
  refine op_val (by go_simp; exact ⟨rfl, rfl⟩) ?_
  refine ⟨by rw [hSe]; exact below_drew1 (below_alloc (Below.refl _ _) _), ?_⟩
  simp only [Act.put, List.setIfInBounds_toArray, List.set_cons_zero, List.set_cons_succ]
  refine h_one 11 rfl (by kernel_rfl) rfl ?_
  refine op_skip (w1 := (w2.alloc (.cells #[.string ⟨#[]⟩, .int .i64 0, .int .i64 0, .int .i64 0] 96)).drew) (by go_simp) ?_
  refine ⟨by rw [hSe]; exact below_drew1 (below_alloc (Below.refl _ _) _), ?_⟩
  simp only [Act.put]
  refine h_one 12 rfl (by kernel_rfl) rfl ?_
  refine op_val (by go_simp; exact ⟨rfl, rfl⟩) ?_
  refine ⟨by rw [hSe]; exact below_drew1 (below_alloc (Below.refl _ _) _), ?_⟩
  simp only [Act.put, List.setIfInBounds_toArray, List.set_cons_zero, List.set_cons_succ]
  refine wpAnyH_done (by kernel_rfl) ?_ _
  have hwe : Below w2.heap.size w2 (w2.alloc (.cells #[.string ⟨#[]⟩, .int .i64 0, .int .i64 0, .int .i64 0] 96)).drew := below_drew1 (below_alloc (Below.refl _ _) _)
  have hbn : ((w2.alloc (.cells #[.string ⟨#[]⟩, .int .i64 0, .int .i64 0, .int .i64 0] 96)).drew).heap[w2.heap.size]? = some (.cells #[.string ⟨#[]⟩, .int .i64 0, .int .i64 0, .int .i64 0] 96 (0, 0)) := blk_new w2 _
  generalize (w2.alloc (.cells #[.string ⟨#[]⟩, .int .i64 0, .int .i64 0, .int .i64 0] 96)).drew = w3 at *
  have hbk3 := blk_below hbk2 hwe
  have hrbone : w2.heap.size ≠ b := by have := HW2.out.size; omega
  have HW3 := Aside0.mk (HW2.out.before hwe (by have := HW2.out.size; omega))
  generalize w2.heap.size = rone at *
  have hrwone3 := hbn
  clear q0 q2 ql hS0 hSe hwe kP hbk2 HW2 hbn hrwtwo2 hrwone3 hrbtwo hrbone
  have z0 := blk_cell hbk3 0
  have z1 := blk_cell hbk3 1
  have z2 := blk_cell hbk3 2
  have z3 := blk_cell hbk3 3
  have z4 := blk_cell hbk3 4
  have e1 : (x.f0 == 1) = false := by rw [HOP.out]; rfl
  have e2 : (x.f0 == 2) = false := by rw [HOP.out]; rfl
  have e20 : (x.f0 == 20) = false := by rw [HOP.out]; rfl
  have e5 : (x.f0 == 5) = false := by rw [HOP.out]; rfl
  have e45 : (x.f0 == 45) = false := by rw [HOP.out]; rfl
  have e46 : (x.f0 == 46) = false := by rw [HOP.out]; rfl
  have e15 : (x.f0 == 15) = false := by rw [HOP.out]; rfl
  have e47 : (x.f0 == 47) = true := by rw [HOP.out]; rfl
  go_wp2_with fail
  clear z0 z1 z2 z3 z4
  obtain ⟨C, hCe⟩ : ∃ C : World → Prop, C = fun W => Below w3.heap.size w3 W := ⟨_, rfl⟩
  have q0 : ∀ W, C W → W.cell? ⟨g, 1, none⟩ = some (.string x.f1) := fun W hW => by rw [hCe] at hW; exact blk_cell (blk_below hbk3 hW) 1
  refine wp_quiet_tail C 6 (by kernel_rfl) (by kernel_rfl) (by rw [hCe]; exact below_drew1 (Below.refl _ _)) ?_
  simp only [List.take_succ_cons, List.take_zero, List.drop_succ_cons, List.drop_zero]
  refine q_ex rfl ?_
  apply Exists.intro
  refine ⟨fun W hW => ?_, ?_⟩
  · skip
    have p0 := q0 W hW
    go_simp
    try rfl
  simp only [Act.put, List.setIfInBounds_toArray, List.set_cons_zero, List.set_cons_succ]
  refine q_ex rfl ?_
  apply Exists.intro
  refine ⟨fun W hW => ?_, ?_⟩
  · skip
    have p0 := q0 W hW
    go_simp
    try rfl
  simp only [Act.put, List.setIfInBounds_toArray, List.set_cons_zero, List.set_cons_succ]
  refine q_ex rfl ?_
  apply Exists.intro
  refine ⟨fun W hW => ?_, ?_⟩
  · skip
    have p0 := q0 W hW
    go_simp
    try rfl
  simp only [Act.put, List.setIfInBounds_toArray, List.set_cons_zero, List.set_cons_succ]
  refine q_ex rfl ?_
  apply Exists.intro
  refine ⟨fun W hW => ?_, ?_⟩
  · skip
    have p0 := q0 W hW
    go_simp
    try rfl
  simp only [Act.put, List.setIfInBounds_toArray, List.set_cons_zero, List.set_cons_succ]
  refine q_ex rfl ?_
  apply Exists.intro
  refine ⟨fun W hW => ?_, ?_⟩
  · skip
    have p0 := q0 W hW
    go_simp
    try rfl
  simp only [Act.put, List.setIfInBounds_toArray, List.set_cons_zero, List.set_cons_succ]
  refine q_ex rfl ?_
  apply Exists.intro
  refine ⟨fun W hW => ?_, ?_⟩
  · skip
    have p0 := q0 W hW
    go_simp
    try rfl
  simp only [Act.put, List.setIfInBounds_toArray, List.set_cons_zero, List.set_cons_succ]
  intro W hW
  have hWb := hW
  rw [hCe] at hWb
  clear hW q0
  clear hCe
  have HW4 := Aside0.mk (HW3.out.before hWb (by have := HW3.out.size; omega))
  have hbk4 := blk_below hbk3 hWb
  clear hWb HW3 hbk3 
  go_wp2_with fail
  refine (writeString_walk B b m2 m1 _ _ _ HW4.out.1 ?a9 ?b10).mono ?_
  case a9 => have := HL2.out; have := HS2.out; (try simp only [List.length_append, List.length_cons, List.length_nil, data_length]); unfold most at *; omega
  case b10 => have := HW4.out.size; omega
  rintro e w5 ⟨rfl, hw5⟩
  have hbk5 := hw5.blk hbk4 hgb (by decide)
  have HW5 := Aside0.mk (HW4.out.trans hw5)
  clear hw5 HW4 hbk4  
  have z0 := blk_cell hbk5 0
  have z1 := blk_cell hbk5 1
  have z2 := blk_cell hbk5 2
  have z3 := blk_cell hbk5 3
  have z4 := blk_cell hbk5 4
  go_wp2_with fail
  clear z0 z1 z2 z3 z4
  refine (list_walk x.f3 HO.out w0 B b m2 m1 _ _ A c HA.out ?k1 hB0 HT.out HW5.out.1 ?k2).mono ?_
  case k1 => exact HW5.out.from_ HB0.out hB0
  case k2 => have := HL2.out; have := HS2.out; (try simp only [List.length_append, List.length_cons, List.length_nil, data_length]); unfold most at *; omega
  rintro e w6 ⟨rfl, hw6⟩
  have hbk6 := hw6.blk hbk5 hgb (by decide)
  have HW6 := Aside0.mk (HW5.out.trans hw6)
  clear hw6 HW5 hbk5  
  go_wp2_with fail
  refine (writeByte_walk B b m2 m1 _ 93 _ HW6.out.1 ?a11 ?b12).mono ?_
  case a11 => have := HL2.out; have := HS2.out; (try simp only [List.length_append, List.length_cons, List.length_nil, data_length]); unfold most at *; omega
  case b12 => have := HW6.out.size; omega
  rintro e w7 ⟨rfl, hw7⟩
  have hbk7 := hw7.blk hbk6 hgb (by decide)
  have HW7 := Aside0.mk (HW6.out.trans hw7)
  clear hw7 HW6 hbk6  
  go_wp2_with fail
  go_end0
  exact ⟨rfl, HW7.out⟩

end Go.Proofs.YtgdiodhaihmnbaaDoor.Own
namespace Go.Proofs.YtgdiodhaihmnbaaDoor.Own
open Go

/-! A region whose inserts into one new map may come up in any order. -/
section
variable {P : Program} {ops : Array Oper} {md : Region.Mode} {S : World → Prop} {Q : Exit → Act → World → Prop}

/-- From here on just these may come up, in any order. -/
def onlyB (md : Region.Mode) (ops : Array Oper) : Nat → Array Bool → List Nat → Bool
  | 0, _, R => R.isEmpty
  | n + 1, listed, R => decide (Region.ready md ops listed = R) && !R.isEmpty && R.all fun i => onlyB md ops n (listed.setIfInBounds i true) (R.erase i)
def doneL (listed : Array Bool) (R : List Nat) : Array Bool := R.foldl (fun a i => a.setIfInBounds i true) listed

theorem doneL_erase (listed : Array Bool) (R : List Nat) (i : Nat) (h : i ∈ R) : doneL (listed.setIfInBounds i true) (R.erase i) = doneL listed R := by
  unfold doneL
  have hp := List.perm_cons_erase h
  have : R.foldl (fun a i => a.setIfInBounds i true) listed = (i :: R.erase i).foldl (fun a i => a.setIfInBounds i true) listed := by
    refine hp.foldl_eq' (fun x _ y _ z => ?_) listed
    by_cases hxy : x = y
    · rw [hxy]
    · exact Array.setIfInBounds_comm _ _ hxy
  rw [this]; rfl

theorem look_snoc (k a : Int) (v : Value) (c : Nat) : ∀ l, lookI k (l ++ [(⟨.int .i64 a, v, c⟩ : MapEntry)]) = match lookI k l with | some u => some u | none => if k = a then some v else none
  | [] => rfl
  | e :: r => by
    rw [List.cons_append, lookI, lookI]
    obtain ⟨ek, ev, eb⟩ := e
    cases ek with
    | int kk b =>
      cases kk with
      | i64 => by_cases h : k = b <;> simp [h, look_snoc k a v c r]
      | _ => exact look_snoc k a v c r
    | _ => exact look_snoc k a v c r
theorem keys_snoc (a : Int) (v : Value) (c : Nat) : ∀ l, keysI l = true → keysI (l ++ [(⟨.int .i64 a, v, c⟩ : MapEntry)]) = true
  | [], _ => rfl
  | e :: r, h => by
    rw [keysI, Bool.and_eq_true] at h
    rw [List.cons_append, keysI, h.1, keys_snoc a v c r h.2]; rfl
theorem noKey_of (k : Int) : ∀ l, keysI l = true → lookI k l = none → noKey k l = true
  | [], _, _ => rfl
  | e :: r, h, hl => by
    rw [keysI, Bool.and_eq_true] at h
    rw [lookI] at hl
    rw [noKey]
    obtain ⟨ek, ev, eb⟩ := e
    cases ek with
    | int kk b =>
      cases kk <;> simp at h
      by_cases hkb : k = b
      · simp [hkb] at hl
      · simp only [hkb, if_false] at hl
        simp [hkb, noKey_of k r h hl]
    | _ => simp at h

theorem ins_all (w : World) (a : Act) (key : Nat → Int) (val : Nat → Value) (target : Int → Option Value) {fuel : Nat} (hS : ∀ o, S (w.alloc o)) : ∀ (n : Nat) (R : List Nat) (listed : Array Bool) (l : List MapEntry) (c : Nat),
    onlyB md ops n listed R = true → R.length = n → (R.map key).Nodup → (∀ i ∈ R, target (key i) = some (val i)) →
    (∀ i ∈ R, ∃ o tl, ops.toList.drop i = o :: tl ∧ o.guard = none ∧ o.dst = none ∧ ∀ (l : List MapEntry) (c : Nat), noKey (key i) l = true → (execOp a.eval o).run P (w.alloc (.map l.toArray c)) = .ok .skip (w.alloc (.map (l ++ [(⟨.int .i64 (key i), val i, c⟩ : MapEntry)]).toArray (c + 1)))) →
    keysI l = true → (∀ k, lookI k l = if k ∈ R.map key then none else target k) →
    (∀ l', keysI l' = true → (∀ k, lookI k l' = target k) → wpAnyH P md ops Q S fuel (doneL listed R) a (w.alloc (.map l'.toArray (c + n)))) →
    wpAnyH P md ops Q S (fuel + n) listed a (w.alloc (.map l.toArray c))
  | 0, R, listed, l, c, _, hR, _, _, _, hk, hl, ht => by
    obtain rfl := List.eq_nil_of_length_eq_zero hR
    exact ht l hk (fun k => by rw [hl k]; simp)
  | n + 1, R, listed, l, c, hB, hR, hnd, htg, hop, hk, hl, ht => by
    simp only [onlyB, Bool.and_eq_true, decide_eq_true_eq, List.all_eq_true] at hB
    obtain ⟨⟨hr, hne⟩, hB⟩ := hB
    have hne' : R ≠ [] := fun e => by rw [e] at hne; simp at hne
    refine wpAnyH_all hr hne' fun i hi => ?_
    obtain ⟨o, tl, hd, hg, hds, hrun⟩ := hop i hi
    unfold wpOp
    simp only [at_drop hd, Region.wanted, hg, if_true]
    left
    have hki : key i ∈ R.map key := List.mem_map_of_mem hi
    have hno : noKey (key i) l = true := noKey_of _ l hk (by rw [hl]; simp [hki])
    refine op_skip (hrun l c hno) ⟨hS _, ?_⟩
    rw [hds]
    show wpAnyH P md ops Q S (fuel + n) _ a _
    have hsub : ∀ j, j ∈ R.erase i → j ∈ R := fun j hj => List.mem_of_mem_erase hj
    have hmem : ∀ k, k ∈ (R.erase i).map key ↔ (k ∈ R.map key ∧ k ≠ key i) := by
      intro k
      have hp : (R.map key).Perm (key i :: (R.erase i).map key) := (List.perm_cons_erase hi).map key
      have hnd2 : (key i :: (R.erase i).map key).Nodup := hp.nodup_iff.1 hnd
      rw [hp.mem_iff, List.mem_cons]
      constructor
      · intro h
        exact ⟨.inr h, fun e => (List.nodup_cons.1 hnd2).1 (e ▸ h)⟩
      · rintro ⟨h | h, h2⟩
        · exact absurd h h2
        · exact h
    have hnd' : ((R.erase i).map key).Nodup := ((List.perm_cons_erase hi).map key).nodup_iff.1 hnd |> fun h => (List.nodup_cons.1 h).2
    refine ins_all w a key val target hS n (R.erase i) _ _ _ (hB i hi) (by rw [List.length_erase_of_mem hi, hR]; rfl) hnd' (fun j hj => htg j (hsub j hj)) (fun j hj => hop j (hsub j hj)) (keys_snoc _ _ _ l hk) ?_ ?_
    · intro k
      rw [look_snoc, hl k]
      by_cases hke : k = key i
      · subst hke
        have : ¬ key i ∈ (R.erase i).map key := fun h => ((hmem _).1 h).2 rfl
        simp only [hki, if_true, this, if_false, htg i hi]
      · by_cases hkm : k ∈ R.map key
        · have h2 : k ∈ (R.erase i).map key := (hmem k).2 ⟨hkm, hke⟩
          simp only [hkm, if_true, h2, hke, if_false]
        · have h2 : ¬ k ∈ (R.erase i).map key := fun h => hkm ((hmem k).1 h).1
          simp only [hkm, if_false, h2, hke]
          cases target k <;> rfl
    · intro l' h1 h2
      rw [doneL_erase listed R i hi]
      have := ht l' h1 h2
      rwa [show c + 1 + n = c + (n + 1) by omega]
end
end Go.Proofs.YtgdiodhaihmnbaaDoor.Own
namespace Go.Proofs.YtgdiodhaihmnbaaDoor.Own
open Go.RowKit Go.Proofs.YtgdiodhaihmnbaaDoorW.PrintWords Go.Proofs.YtgdiodhaihmnbaaDoorW.PrintLast Go.Proofs.YtgdiodhaihmnbaaDoorW.PrintMore Go.Proofs.YtgdiodhaihmnbaaDoor.PPrinterMatchesReference

theorem zero9 (w : World) : (zeroValue 9).run Tryd.prog w = .ok (.string ⟨#[]⟩) w := by kernel_rfl
def entW : List MapEntry := [(⟨.int .i64 3, .string ⟨[117, 110, 105, 118].toArray⟩, 0⟩ : MapEntry), (⟨.int .i64 4, .string ⟨[105, 100, 101, 110].toArray⟩, 1⟩ : MapEntry), (⟨.int .i64 30, .string ⟨[116, 114, 117, 101].toArray⟩, 2⟩ : MapEntry), (⟨.int .i64 31, .string ⟨[102, 97, 108, 115, 101].toArray⟩, 3⟩ : MapEntry)]
theorem look_entW (k : Int) : (lookI k entW).getD (.string ⟨#[]⟩) = .string ⟨(wordT k).toArray⟩ := by
  simp only [entW, lookI, wordT]
  split <;> (try rfl)
  split <;> (try rfl)
  split <;> (try rfl)
  split <;> rfl
theorem look_word (w : World) (m : Nat) (l : List MapEntry) (n : Nat) (h : w.heap[m]? = some (.map l.toArray n)) (hk : keysI l = true) (hl : ∀ k, lookI k l = lookI k entW) (k : Int) : (Instr.lookup 103 (.map (some m)) (.int .i64 k) false).run Tryd.prog w = .ok (.string ⟨(wordT k).toArray⟩) w := by
  rw [run_look1 3 Tryd.underlying103 Tryd.underlying3 _ zero9 w m l n h hk k, hl k, look_entW]
def keyW : Nat → Int | 4 => 3 | 5 => 4 | 6 => 30 | _ => 31
def valW : Nat → Value | 4 => .string ⟨#[117, 110, 105, 118]⟩ | 5 => .string ⟨#[105, 100, 101, 110]⟩ | 6 => .string ⟨#[116, 114, 117, 101]⟩ | _ => .string ⟨#[102, 97, 108, 115, 101]⟩
theorem entW_none (k : Int) : lookI k [] = if k ∈ [4, 5, 6, 7].map keyW then none else lookI k entW := by
  simp only [lookI, entW, List.map_cons, List.map_nil, keyW, List.mem_cons, List.not_mem_nil, or_false]
  split
  · rfl
  · rename_i h
    rw [if_neg (fun e => h (.inl e)), if_neg (fun e => h (.inr (.inl e))), if_neg (fun e => h (.inr (.inr (.inl e)))), if_neg (fun e => h (.inr (.inr (.inr e))))]

theorem ins_run (w : World) {a : Act} {o : Oper} {m k x : Operand} (l : List MapEntry) (c : Nat) (ki : Int) (v : Value) (ho : o.op = .insert 103 m k x) (hm : a.eval m = .map (some w.heap.size)) (hk : a.eval k = .int .i64 ki ∧ a.eval x = v) (hno : noKey ki l = true) :
    (execOp a.eval o).run Tryd.prog (w.alloc (.map l.toArray c)) = .ok .skip (w.alloc (.map (l ++ [(⟨.int .i64 ki, v, c⟩ : MapEntry)]).toArray (c + 1))) := by
  have := run_insert_new 3 Tryd.underlying103 Tryd.underlying3 w l c ki v hno
  obtain ⟨od, oo, ot, op, oa, og⟩ := o
  simp only at ho
  subst ho
  simp [execOp, hm, hk.1, hk.2, this, Result.andThen]

set_option maxHeartbeats 4000000 in
set_option maxRecDepth 100000 in
theorem node_leaf (x : S24) (hno : ∀ k ∈ ([1, 2, 20, 5, 45, 46, 15, 47] : List Int), x.f0 ≠ k) (hbn : atT x.f0 binT = none) (hb : atT x.f0 preT = none) : NodeC x := by
  intro w0 B b m2 m1 bs w cs fin hx hb0 hB0 ht hP hlen
  obtain ⟨A, c, rfl, hlc, hA⟩ := k24_open hx
  have HX := Aside0.mk hx
  have HA := Aside0.mk hA
  have HP := Aside0.mk hP
  have HT := Aside0.mk ht
  have HB0 := Aside0.mk hb0
  have hlt := hP.lt
  have hlow := hP.low
  have hu24 := Tryd.underlying24
  have hu96 := Tryd.underlying96
  have htx : txt x fin = wordT x.f0 := by rw [txt_def, hbn, hb]; simp only [List.forall_mem_cons] at hno; simp [hno]
  rw [htx] at hlen ⊢
  have HL := Aside0.mk hlen
  have HQtwo := Aside0.mk hbn
  have HQone := Aside0.mk hb
  have HNO := Aside0.mk hno
  clear hx hP ht hb0 hA hlc htx hlen hb hbn hno
  go_enter Tryd.func38, Tryd.ntmps38
  go_wp2_with ((with_reducible refine gate_dst (N := 4) rfl ?_); refine box_event rfl (N := 4) rfl (cs := #[.int .i64 x.f0, .string x.f1, .int .i64 x.f2, .slice A x.f3.length c, .int .i64 x.f4]) (t := 24) (by first | (go_simp; done) | (go_simp; rfl)) ?_; intro g hg w1 hbk1 hb1; have HG := Aside0.mk hg; clear hg)
  have HW1 := Aside0.mk (show Wrote B b m2 m1 bs w w1 from ⟨HP.out.below hb1, hb1.mono (by omega), fun i o hi _ _ => (hb1.block i (blk_lt hi)).trans hi⟩)
  have hgb : g ≠ b := by have := HG.out; omega
  clear hb1
  obtain ⟨S, hSe⟩ : ∃ S : World → Prop, S = fun W => Below w1.heap.size w1 W := ⟨_, rfl⟩
  obtain ⟨p, v, kP⟩ := HW1.out.1
  have q2 : ∀ W, S W → W.cell? ⟨b, 2, none⟩ = some (.map (some m2)) := fun W hW => by rw [hSe] at hW; exact blk_cell (blk_below kP.blk hW) 2
  have q0 : ∀ W, S W → W.cell? ⟨g, 0, none⟩ = some (.int .i64 x.f0) := fun W hW => by rw [hSe] at hW; exact blk_cell (blk_below hbk1 hW) 0
  have ql : ∀ W, S W → (Instr.lookup 73 (.map (some m2)) (.int .i64 x.f0) true).run Tryd.prog W = .ok (.tuple #[.agg #[.string ⟨#[]⟩, .int .i64 0, .int .i64 0, .int .i64 0], .bool false]) W := fun W hW => by
    rw [hSe] at hW
    rw [look_tab W m2 binT 17 (kP.below hW).two, HQtwo.out]
    rfl
  have hS0 : S w1.drew := by rw [hSe]; exact below_drew1 (Below.refl _ _)
  refine wp_region_held_drew (S := S) (by kernel_rfl) hS0 (fun _ => ?_)
  refine h_take 0 rfl (by kernel_rfl) (by kernel_rfl) (by kernel_rfl) (fun _ _ _ _ h => h) hS0 rfl ?_
  apply Exists.intro
  refine ⟨fun W hW => ?_, ?_⟩
  · have p2 := q2 W hW
    have p0 := q0 W hW
    have pl := ql W hW
    go_simp
    try rfl
  simp only [Act.put, List.setIfInBounds_toArray, List.set_cons_zero, List.set_cons_succ]
  refine h_take 1 rfl (by kernel_rfl) (by kernel_rfl) (by kernel_rfl) (fun _ _ _ _ h => h) hS0 rfl ?_
  apply Exists.intro
  refine ⟨fun W hW => ?_, ?_⟩
  · have p2 := q2 W hW
    have p0 := q0 W hW
    have pl := ql W hW
    go_simp
    try rfl
  simp only [Act.put, List.setIfInBounds_toArray, List.set_cons_zero, List.set_cons_succ]
  refine h_take 2 rfl (by kernel_rfl) (by kernel_rfl) (by kernel_rfl) (fun _ _ _ _ h => h) hS0 rfl ?_
  apply Exists.intro
  refine ⟨fun W hW => ?_, ?_⟩
  · have p2 := q2 W hW
    have p0 := q0 W hW
    have pl := ql W hW
    go_simp
    try rfl
  simp only [Act.put, List.setIfInBounds_toArray, List.set_cons_zero, List.set_cons_succ]
  refine h_take 3 rfl (by kernel_rfl) (by kernel_rfl) (by kernel_rfl) (fun _ _ _ _ h => h) hS0 rfl ?_
  apply Exists.intro
  refine ⟨fun W hW => ?_, ?_⟩
  · have p2 := q2 W hW
    have p0 := q0 W hW
    have pl := ql W hW
    go_simp
    try rfl
  simp only [Act.put, List.setIfInBounds_toArray, List.set_cons_zero, List.set_cons_succ]
  refine h_take 4 rfl (by kernel_rfl) (by kernel_rfl) (by kernel_rfl) (fun _ _ _ _ h => h) hS0 rfl ?_
  apply Exists.intro
  refine ⟨fun W hW => ?_, ?_⟩
  · have p2 := q2 W hW
    have p0 := q0 W hW
    have pl := ql W hW
    go_simp
    try rfl
  simp only [Act.put, List.setIfInBounds_toArray, List.set_cons_zero, List.set_cons_succ]
  refine h_take 5 rfl (by kernel_rfl) (by kernel_rfl) (by kernel_rfl) (fun _ _ _ _ h => h) hS0 rfl ?_
  apply Exists.intro
  refine ⟨fun W hW => ?_, ?_⟩
  · have p2 := q2 W hW
    have p0 := q0 W hW
    have pl := ql W hW
    go_simp
    try rfl
  simp only [Act.put, List.setIfInBounds_toArray, List.set_cons_zero, List.set_cons_succ]
  refine h_take 6 rfl (by kernel_rfl) (by kernel_rfl) (by kernel_rfl) (fun _ _ _ _ h => h) hS0 rfl ?_
  apply Exists.intro
  refine ⟨fun W hW => ?_, ?_⟩
  · have p2 := q2 W hW
    have p0 := q0 W hW
    have pl := ql W hW
    go_simp
    try rfl
  simp only [Act.put, List.setIfInBounds_toArray, List.set_cons_zero, List.set_cons_succ]
  refine h_take 7 rfl (by kernel_rfl) (by kernel_rfl) (by kernel_rfl) (fun _ _ _ _ h => h) hS0 rfl ?_
  apply Exists.intro
  refine ⟨fun W hW => ?_, ?_⟩
  · have p2 := q2 W hW
    have p0 := q0 W hW
    have pl := ql W hW
    go_simp
    try rfl
  simp only [Act.put, List.setIfInBounds_toArray, List.set_cons_zero, List.set_cons_succ]
  refine h_take 8 rfl (by kernel_rfl) (by kernel_rfl) (by kernel_rfl) (fun _ _ _ _ h => h) hS0 rfl ?_
  apply Exists.intro
  refine ⟨fun W hW => ?_, ?_⟩
  · have p2 := q2 W hW
    have p0 := q0 W hW
    have pl := ql W hW
    go_simp
    try rfl
  simp only [Act.put, List.setIfInBounds_toArray, List.set_cons_zero, List.set_cons_succ]
  refine h_take 9 rfl (by kernel_rfl) (by kernel_rfl) (by kernel_rfl) (fun _ _ _ _ h => h) hS0 rfl ?_
  apply Exists.intro
  refine ⟨fun W hW => ?_, ?_⟩
  · have p2 := q2 W hW
    have p0 := q0 W hW
    have pl := ql W hW
    go_simp
    try rfl
  simp only [Act.put, List.setIfInBounds_toArray, List.set_cons_zero, List.set_cons_succ]
  refine h_one 10 rfl (by kernel_rfl) rfl ?_
  refine op_val (by go_simp; exact ⟨rfl, rfl⟩) ?_
  refine ⟨by rw [hSe]; exact below_drew1 (below_alloc (Below.refl _ _) _), ?_⟩
  simp only [Act.put, List.setIfInBounds_toArray, List.set_cons_zero, List.set_cons_succ]
  refine h_one 11 rfl (by kernel_rfl) rfl ?_
  refine op_skip (w1 := (w1.alloc (.cells #[.string ⟨#[]⟩, .int .i64 0, .int .i64 0, .int .i64 0] 96)).drew) (by go_simp) ?_
  refine ⟨by rw [hSe]; exact below_drew1 (below_alloc (Below.refl _ _) _), ?_⟩
  simp only [Act.put]
  refine h_one 12 rfl (by kernel_rfl) rfl ?_
  refine op_val (by go_simp; exact ⟨rfl, rfl⟩) ?_
  refine ⟨by rw [hSe]; exact below_drew1 (below_alloc (Below.refl _ _) _), ?_⟩
  simp only [Act.put, List.setIfInBounds_toArray, List.set_cons_zero, List.set_cons_succ]
  refine wpAnyH_done (by kernel_rfl) ?_ _
  have hwe : Below w1.heap.size w1 (w1.alloc (.cells #[.string ⟨#[]⟩, .int .i64 0, .int .i64 0, .int .i64 0] 96)).drew := below_drew1 (below_alloc (Below.refl _ _) _)
  have hbn : ((w1.alloc (.cells #[.string ⟨#[]⟩, .int .i64 0, .int .i64 0, .int .i64 0] 96)).drew).heap[w1.heap.size]? = some (.cells #[.string ⟨#[]⟩, .int .i64 0, .int .i64 0, .int .i64 0] 96 (0, 0)) := blk_new w1 _
  generalize (w1.alloc (.cells #[.string ⟨#[]⟩, .int .i64 0, .int .i64 0, .int .i64 0] 96)).drew = w2 at *
  have hbk2 := blk_below hbk1 hwe
  have hrbtwo : w1.heap.size ≠ b := by have := HW1.out.size; omega
  have HW2 := Aside0.mk (HW1.out.before hwe (by have := HW1.out.size; omega))
  generalize w1.heap.size = rtwo at *
  have hrwtwo2 := hbn
  clear q0 q2 ql hS0 hSe hwe kP hbk1 HW1 hbn
  go_wp2_with fail
  obtain ⟨S, hSe⟩ : ∃ S : World → Prop, S = fun W => Below w2.heap.size w2 W := ⟨_, rfl⟩
  obtain ⟨p, v, kP⟩ := HW2.out.1
  have q2 : ∀ W, S W → W.cell? ⟨b, 3, none⟩ = some (.map (some m1)) := fun W hW => by rw [hSe] at hW; exact blk_cell (blk_below kP.blk hW) 3
  have q0 : ∀ W, S W → W.cell? ⟨g, 0, none⟩ = some (.int .i64 x.f0) := fun W hW => by rw [hSe] at hW; exact blk_cell (blk_below hbk2 hW) 0
  have ql : ∀ W, S W → (Instr.lookup 73 (.map (some m1)) (.int .i64 x.f0) true).run Tryd.prog W = .ok (.tuple #[.agg #[.string ⟨#[]⟩, .int .i64 0, .int .i64 0, .int .i64 0], .bool false]) W := fun W hW => by
    rw [hSe] at hW
    rw [look_tab W m1 preT 12 (kP.below hW).one, HQone.out]
    rfl
  have hS0 : S w2.drew := by rw [hSe]; exact below_drew1 (Below.refl _ _)
  refine wp_region_held_drew (S := S) (by kernel_rfl) hS0 (fun _ => ?_)
  refine h_take 0 rfl (by kernel_rfl) (by kernel_rfl) (by kernel_rfl) (fun _ _ _ _ h => h) hS0 rfl ?_
  apply Exists.intro
  refine ⟨fun W hW => ?_, ?_⟩
  · have p2 := q2 W hW
    have p0 := q0 W hW
    have pl := ql W hW
    go_simp
    try rfl
  simp only [Act.put, List.setIfInBounds_toArray, List.set_cons_zero, List.set_cons_succ]
  refine h_take 1 rfl (by kernel_rfl) (by kernel_rfl) (by kernel_rfl) (fun _ _ _ _ h => h) hS0 rfl ?_
  apply Exists.intro
  refine ⟨fun W hW => ?_, ?_⟩
  · have p2 := q2 W hW
    have p0 := q0 W hW
    have pl := ql W hW
    go_simp
    try rfl
  simp only [Act.put, List.setIfInBounds_toArray, List.set_cons_zero, List.set_cons_succ]
  refine h_take 2 rfl (by kernel_rfl) (by kernel_rfl) (by kernel_rfl) (fun _ _ _ _ h => h) hS0 rfl ?_
  apply Exists.intro
  refine ⟨fun W hW => ?_, ?_⟩
  · have p2 := q2 W hW
    have p0 := q0 W hW
    have pl := ql W hW
    go_simp
    try rfl
  simp only [Act.put, List.setIfInBounds_toArray, List.set_cons_zero, List.set_cons_succ]
  refine h_take 3 rfl (by kernel_rfl) (by kernel_rfl) (by kernel_rfl) (fun _ _ _ _ h => h) hS0 rfl ?_
  apply Exists.intro
  refine ⟨fun W hW => ?_, ?_⟩
  · have p2 := q2 W hW
    have p0 := q0 W hW
    have pl := ql W hW
    go_simp
    try rfl
  simp only [Act.put, List.setIfInBounds_toArray, List.set_cons_zero, List.set_cons_succ]
  refine h_take 4 rfl (by kernel_rfl) (by kernel_rfl) (by kernel_rfl) (fun _ _ _ _ h => h) hS0 rfl ?_
  apply Exists.intro
  refine ⟨fun W hW => ?_, ?_⟩
  · have p2 := q2 W hW
    have p0 := q0 W hW
    have pl := ql W hW
    go_simp
    try rfl
  simp only [Act.put, List.setIfInBounds_toArray, List.set_cons_zero, List.set_cons_succ]
  refine h_take 5 rfl (by kernel_rfl) (by kernel_rfl) (by kernel_rfl) (fun _ _ _ _ h => h) hS0 rfl ?_
  apply Exists.intro
  refine ⟨fun W hW => ?_, ?_⟩
  · have p2 := q2 W hW
    have p0 := q0 W hW
    have pl := ql W hW
    go_simp
    try rfl
  simp only [Act.put, List.setIfInBounds_toArray, List.set_cons_zero, List.set_cons_succ]
  refine h_take 6 rfl (by kernel_rfl) (by kernel_rfl) (by kernel_rfl) (fun _ _ _ _ h => h) hS0 rfl ?_
  apply Exists.intro
  refine ⟨fun W hW => ?_, ?_⟩
  · have p2 := q2 W hW
    have p0 := q0 W hW
    have pl := ql W hW
    go_simp
    try rfl
  simp only [Act.put, List.setIfInBounds_toArray, List.set_cons_zero, List.set_cons_succ]
  refine h_take 7 rfl (by kernel_rfl) (by kernel_rfl) (by kernel_rfl) (fun _ _ _ _ h => h) hS0 rfl ?_
  apply Exists.intro
  refine ⟨fun W hW => ?_, ?_⟩
  · have p2 := q2 W hW
    have p0 := q0 W hW
    have pl := ql W hW
    go_simp
    try rfl
  simp only [Act.put, List.setIfInBounds_toArray, List.set_cons_zero, List.set_cons_succ]
  refine h_take 8 rfl (by kernel_rfl) (by kernel_rfl) (by kernel_rfl) (fun _ _ _ _ h => h) hS0 rfl ?_
  apply Exists.intro
  refine ⟨fun W hW => ?_, ?_⟩
  · have p2 := q2 W hW
    have p0 := q0 W hW
    have pl := ql W hW
    go_simp
    try rfl
  simp only [Act.put, List.setIfInBounds_toArray, List.set_cons_zero, List.set_cons_succ]
  refine h_take 9 rfl (by kernel_rfl) (by kernel_rfl) (by kernel_rfl) (fun _ _ _ _ h => h) hS0 rfl ?_
  apply Exists.intro
  refine ⟨fun W hW => ?_, ?_⟩
  · have p2 := q2 W hW
    have p0 := q0 W hW
    have pl := ql W hW
    go_simp
    try rfl
  simp only [Act.put, List.setIfInBounds_toArray, List.set_cons_zero, List.set_cons_succ]
  refine h_one 10 rfl (by kernel_rfl) rfl ?_
  refine op_val (by go_simp; exact ⟨rfl, rfl⟩) ?_
  refine ⟨by rw [hSe]; exact below_drew1 (below_alloc (Below.refl _ _) _), ?_⟩
  simp only [Act.put, List.setIfInBounds_toArray, List.set_cons_zero, List.set_cons_succ]
  refine h_one 11 rfl (by kernel_rfl) rfl ?_
  refine op_skip (w1 := (w2.alloc (.cells #[.string ⟨#[]⟩, .int .i64 0, .int .i64 0, .int .i64 0] 96)).drew) (by go_simp) ?_
  refine ⟨by rw [hSe]; exact below_drew1 (below_alloc (Below.refl _ _) _), ?_⟩
  simp only [Act.put]
  refine h_one 12 rfl (by kernel_rfl) rfl ?_
  refine op_val (by go_simp; exact ⟨rfl, rfl⟩) ?_
  refine ⟨by rw [hSe]; exact below_drew1 (below_alloc (Below.refl _ _) _), ?_⟩
  simp only [Act.put, List.setIfInBounds_toArray, List.set_cons_zero, List.set_cons_succ]
  refine wpAnyH_done (by kernel_rfl) ?_ _
  have hwe : Below w2.heap.size w2 (w2.alloc (.cells #[.string ⟨#[]⟩, .int .i64 0, .int .i64 0, .int .i64 0] 96)).drew := below_drew1 (below_alloc (Below.refl _ _) _)
  have hbn : ((w2.alloc (.cells #[.string ⟨#[]⟩, .int .i64 0, .int .i64 0, .int .i64 0] 96)).drew).heap[w2.heap.size]? = some (.cells #[.string ⟨#[]⟩, .int .i64 0, .int .i64 0, .int .i64 0] 96 (0, 0)) := blk_new w2 _
  generalize (w2.alloc (.cells #[.string ⟨#[]⟩, .int .i64 0, .int .i64 0, .int .i64 0] 96)).drew = w3 at *
  have hbk3 := blk_below hbk2 hwe
  have hrbone : w2.heap.size ≠ b := by have := HW2.out.size; omega
  have HW3 := Aside0.mk (HW2.out.before hwe (by have := HW2.out.size; omega))
  generalize w2.heap.size = rone at *
  have hrwone3 := hbn
  clear q0 q2 ql hS0 hSe hwe kP hbk2 HW2 hbn hrwtwo2 hrwone3 hrbtwo hrbone
  have z0 := blk_cell hbk3 0
  have z1 := blk_cell hbk3 1
  have z2 := blk_cell hbk3 2
  have z3 := blk_cell hbk3 3
  have z4 := blk_cell hbk3 4
  have e1 : (x.f0 == 1) = false := by simpa using HNO.out 1 (by decide)
  have e2 : (x.f0 == 2) = false := by simpa using HNO.out 2 (by decide)
  have e20 : (x.f0 == 20) = false := by simpa using HNO.out 20 (by decide)
  have e5 : (x.f0 == 5) = false := by simpa using HNO.out 5 (by decide)
  have e45 : (x.f0 == 45) = false := by simpa using HNO.out 45 (by decide)
  have e46 : (x.f0 == 46) = false := by simpa using HNO.out 46 (by decide)
  have e15 : (x.f0 == 15) = false := by simpa using HNO.out 15 (by decide)
  have e47 : (x.f0 == 47) = false := by simpa using HNO.out 47 (by decide)
  go_wp2_with fail
  clear z1 z2 z3 z4
  obtain ⟨S, hSe⟩ : ∃ S : World → Prop, S = fun W => W.heap[g]? = some (.cells #[.int .i64 x.f0, .string x.f1, .int .i64 x.f2, .slice A x.f3.length c, .int .i64 x.f4] 24 (0, 0)) := ⟨_, rfl⟩
  have q0 : ∀ W, S W → W.cell? ⟨g, 0, none⟩ = some (.int .i64 x.f0) := fun W hW => by rw [hSe] at hW; exact blk_cell hW 0
  have hS0 : S w3.drew := by rw [hSe]; exact hbk3
  have hmm := @run_makeMap Tryd.prog
  refine wp_region_held_drew (S := S) (by kernel_rfl) hS0 (fun _ => ?_)
  refine h_take 0 rfl (by kernel_rfl) (by kernel_rfl) (by kernel_rfl) (fun _ _ _ _ h => h) hS0 rfl ?_
  apply Exists.intro
  refine ⟨fun W hW => ?_, ?_⟩
  · have p0 := q0 W hW
    go_simp
    try rfl
  simp only [Act.put, List.setIfInBounds_toArray, List.set_cons_zero, List.set_cons_succ]
  refine h_take 1 rfl (by kernel_rfl) (by kernel_rfl) (by kernel_rfl) (fun _ _ _ _ h => h) hS0 rfl ?_
  apply Exists.intro
  refine ⟨fun W hW => ?_, ?_⟩
  · have p0 := q0 W hW
    go_simp
    try rfl
  simp only [Act.put, List.setIfInBounds_toArray, List.set_cons_zero, List.set_cons_succ]
  refine h_take 2 rfl (by kernel_rfl) (by kernel_rfl) (by kernel_rfl) (fun _ _ _ _ h => h) hS0 rfl ?_
  apply Exists.intro
  refine ⟨fun W hW => ?_, ?_⟩
  · have p0 := q0 W hW
    go_simp
    try rfl
  simp only [Act.put, List.setIfInBounds_toArray, List.set_cons_zero, List.set_cons_succ]
  refine h_take 9 rfl (by kernel_rfl) (by kernel_rfl) (by kernel_rfl) (fun _ _ _ _ h => h) hS0 rfl ?_
  apply Exists.intro
  refine ⟨fun W hW => ?_, ?_⟩
  · have p0 := q0 W hW
    go_simp
    try rfl
  simp only [Act.put, List.setIfInBounds_toArray, List.set_cons_zero, List.set_cons_succ]
  refine h_take 10 rfl (by kernel_rfl) (by kernel_rfl) (by kernel_rfl) (fun _ _ _ _ h => h) hS0 rfl ?_
  apply Exists.intro
  refine ⟨fun W hW => ?_, ?_⟩
  · have p0 := q0 W hW
    go_simp
    try rfl
  simp only [Act.put, List.setIfInBounds_toArray, List.set_cons_zero, List.set_cons_succ]
  refine h_one 3 rfl (by kernel_rfl) rfl ?_
  refine op_val (v := .map (some w3.heap.size)) (w1 := w3.drew.alloc (.map ([] : List MapEntry).toArray 0)) (by go_simp; first | done | rfl) ?_
  refine ⟨by rw [hSe]; exact blk_alloc hbk3 _, ?_⟩
  simp only [Act.put, List.setIfInBounds_toArray, List.set_cons_zero, List.set_cons_succ]
  refine ins_all w3.drew _ keyW valW (fun k => lookI k entW) (fun o => by rw [hSe]; exact blk_alloc hbk3 o) 4 [4, 5, 6, 7] _ [] 0 (by kernel_rfl) rfl (by decide) ?_ ?_ rfl ?_ ?_
  · intro i hi
    simp only [List.mem_cons, List.not_mem_nil, or_false] at hi
    rcases hi with rfl | rfl | rfl | rfl <;> rfl
  · intro i hi
    simp only [List.mem_cons, List.not_mem_nil, or_false] at hi
    rcases hi with rfl | rfl | rfl | rfl
    · exact ⟨_, _, rfl, rfl, rfl, fun l c hno => ins_run _ l c _ _ rfl rfl ⟨rfl, rfl⟩ hno⟩
    · exact ⟨_, _, rfl, rfl, rfl, fun l c hno => ins_run _ l c _ _ rfl rfl ⟨rfl, rfl⟩ hno⟩
    · exact ⟨_, _, rfl, rfl, rfl, fun l c hno => ins_run _ l c _ _ rfl rfl ⟨rfl, rfl⟩ hno⟩
    · exact ⟨_, _, rfl, rfl, rfl, fun l c hno => ins_run _ l c _ _ rfl rfl ⟨rfl, rfl⟩ hno⟩
  · intro k
    exact entW_none k
  intro l' hk' hl'
  have hlw : (Instr.lookup 103 (.map (some w3.heap.size)) (.int .i64 x.f0) false).run Tryd.prog (w3.drew.alloc (.map l'.toArray (0 + 4))) = .ok (.string ⟨(wordT x.f0).toArray⟩) (w3.drew.alloc (.map l'.toArray (0 + 4))) := look_word (w3.drew.alloc (.map l'.toArray (0 + 4))) w3.drew.heap.size l' (0 + 4) (blk_new _ _) hk' hl' x.f0
  obtain ⟨w4, hw4⟩ : ∃ w4, w4 = w3.drew.alloc (.map l'.toArray (0 + 4)) := ⟨_, rfl⟩
  rw [← hw4] at hlw ⊢
  have hwb : Below w3.heap.size w3 w4 := by rw [hw4]; exact below_alloc (below_drew1 (Below.refl _ _)) _
  have hbk4 := blk_below hbk3 hwb
  have HW4 := Aside0.mk (HW3.out.before hwb (by have := HW3.out.size; omega))
  clear hw4 hk' hl' hwb hmm
  have hS4 : S w4 := by rw [hSe]; exact hbk4
  refine h_one 8 rfl (by kernel_rfl) rfl ?_
  refine op_val (by go_simp; exact ⟨rfl, rfl⟩) ?_
  refine ⟨hS4, ?_⟩
  simp only [Act.put, List.setIfInBounds_toArray, List.set_cons_zero, List.set_cons_succ]
  refine h_one 11 rfl (by kernel_rfl) rfl ?_
  refine op_val (v := .string ⟨(wordT x.f0).toArray⟩) (w1 := w4) (by go_simp; done) ?_
  refine ⟨hS4, ?_⟩
  simp only [Act.put, List.setIfInBounds_toArray, List.set_cons_zero, List.set_cons_succ]
  refine h_one 12 rfl (by kernel_rfl) rfl ?_
  refine op_call (by go_simp) (writeL_walk B b m2 m1 bs (wordT x.f0) w4 HW4.out.1 HL.out (by have := HW4.out.size; omega)) ?_
  intro w5 hw5
  refine ⟨by rw [hSe]; exact hw5.blk hbk4 hgb (by decide), ?_⟩
  simp only [Act.put, List.setIfInBounds_toArray, List.set_cons_zero, List.set_cons_succ]
  refine wpAnyH_done (by kernel_rfl) ?_ _
  have HW5 := Aside0.mk (HW4.out.trans hw5)
  clear q0 hS0 hS4 hlw hSe hw5 HW4 hbk4 HW3 hbk3
  go_wp2_with fail
  go_end0
  exact ⟨rfl, HW5.out⟩
end Go.Proofs.YtgdiodhaihmnbaaDoor.Own
namespace Go.Proofs.YtgdiodhaihmnbaaDoor.Own
open Go.RowKit Go.Proofs.YtgdiodhaihmnbaaDoorW.PrintWords Go.Proofs.YtgdiodhaihmnbaaDoorW.PrintLast Go.Proofs.YtgdiodhaihmnbaaDoorW.PrintMore Go.Proofs.YtgdiodhaihmnbaaDoor.PPrinterMatchesReference

theorem atT_mem {k : Int} {v : List UInt8 × Int × Int × Int} : ∀ {T : List (Int × List UInt8 × Int × Int × Int)}, atT k T = some v → (k, v) ∈ T
  | [], h => by cases h
  | (a, u) :: r, h => by
    rw [atT] at h
    split at h
    · rename_i e; subst e; cases h; exact List.mem_cons_self
    · exact List.mem_cons_of_mem _ (atT_mem h)
theorem bin_needs {k : Int} {s : List UInt8} {l a b : Int} (h : atT k binT = some (s, l, a, b)) : a ≤ 15 ∧ b ≤ 15 := by
  have : ∀ p ∈ binT, p.2.2.2.1 ≤ 15 ∧ p.2.2.2.2 ≤ 15 := by decide
  exact this _ (atT_mem h)
theorem pre_needs {k : Int} {s : List UInt8} {l a b : Int} (h : atT k preT = some (s, l, a, b)) : a ≤ 15 ∧ b ≤ 15 := by
  have : ∀ p ∈ preT, p.2.2.2.1 ≤ 15 ∧ p.2.2.2.2 ≤ 15 := by decide
  exact this _ (atT_mem h)

theorem node_z24 : NodeC z24 := node_leaf z24 (by decide) rfl rfl

theorem node_all_aux (n : Nat) : ∀ x : S24, SizeOf.sizeOf x < n → numOK x → NodeC x := by
  induction n with
  | zero => intro x h; omega
  | succ n ih =>
    intro x hx hn
    rw [numOK_def] at hn
    have hkid : ∀ y ∈ x.f3, NodeC y := fun y hy => ih y (by
      have h3 := List.sizeOf_lt_of_mem hy
      have h4 : SizeOf.sizeOf x.f3 < SizeOf.sizeOf x := by cases x; simp; omega
      omega) (numsOK_mem hn.2 hy)
    have hget : ∀ i, NodeC (x.f3.getD i z24) := fun i => by
      rw [List.getD_eq_getElem?_getD]
      cases h : x.f3[i]? with
      | none => exact node_z24
      | some y => exact hkid y (List.mem_of_getElem? h)
    have hopr : ∀ i, OprC (x.f3.getD i z24) := fun i => opr_walk _ (hget i)
    cases hb : atT x.f0 binT with
    | some q =>
      obtain ⟨s, l, a, b⟩ := q
      exact node_bin x s l a b hb (hopr 0) (hopr 1) (bin_needs hb).1 (bin_needs hb).2
    | none =>
      cases hp : atT x.f0 preT with
      | some q =>
        obtain ⟨s, l, a, b⟩ := q
        exact node_pre x s l a b hb hp (hopr 0) (pre_needs hp).1
      | none =>
        by_cases h1 : x.f0 = 1
        · exact node_name x h1 hb hp
        by_cases h2 : x.f0 = 2
        · by_cases h : x.f2 = 1
          · exact node_none1 x h2 h hb hp
          · exact node_none2 x h2 h hn.1.1.1 hn.1.1.2 hb hp
        by_cases h20 : x.f0 = 20
        · exact node_lit x h20 hn.1.1.1 hn.1.1.2 hb hp
        by_cases h5 : x.f0 = 5
        · exact node_prime x h5 hb hp (hopr 0)
        by_cases h45 : x.f0 = 45
        · exact node_all x h45 hb hp (hopr 0) (hget 1)
        by_cases h46 : x.f0 = 46
        · exact node_some x h46 hb hp (hopr 0) (hget 1)
        by_cases h15 : x.f0 = 15
        · exact node_compr x h15 hb hp (hopr 0) (hget 1)
        by_cases h47 : x.f0 = 47
        · exact node_call x h47 hb hp (fun y hy => opr_walk y (hkid y hy))
        · exact node_leaf x (by intro k hk; simp only [List.mem_cons, List.not_mem_nil, or_false] at hk; rcases hk with rfl | rfl | rfl | rfl | rfl | rfl | rfl | rfl <;> assumption) hb hp

theorem node_walk (x : S24) (h : numOK x) : NodeC x := node_all_aux _ x (Nat.lt_succ_self _) h

/-- newPrinter: a printer that holds nothing yet. -/
theorem newp_walk (w : World) : Calls Tryd.prog 37 #[] w fun e w' => ∃ b m2 m1, e = .returned (.pointer (some ⟨b, 0, none⟩)) ∧ IsPa w.heap.size b m2 m1 none (.slice none 0 0) [] w' ∧ Below w.heap.size w w' := by
  refine (new_walk w).mono ?_
  rintro e w' ⟨rfl, rfl⟩
  refine ⟨w.heap.size + 2, w.heap.size, w.heap.size + 1, rfl, ⟨by omega, ?_, .inl rfl, World.ownsRow_nil _ _ _ _, ?_, ?_⟩, by repeat (first | exact Below.refl _ _ | apply below_alloc)⟩
  · simpa using blk_new ((w.alloc (.map (entT binT 0).toArray 17)).alloc (.map (entT preT 0).toArray 12)) (.cells #[.pointer none, .slice none 0 0, .map (some w.heap.size), .map (some (w.heap.size + 1))] 75)
  · exact blk_alloc (blk_alloc (blk_new _ _) _) _
  · exact blk_alloc (blk_two _ _ _) _

set_option maxHeartbeats 1000000 in
set_option maxRecDepth 100000 in
/-- Formula. -/
theorem formula_walk (x : S24) (hn : numOK x) (w : World) (cs : List Value) (hx : k24.K w x cs) (ht : Tab w) (hne : txt x true ≠ []) (hlen : (txt x true).length ≤ most) :
    Calls Tryd.prog 13 #[.agg cs.toArray] w fun e w' => e = .returned (.string ⟨(txt x true).toArray⟩) ∧ Below w.heap.size w w' := by
  obtain ⟨A, c, rfl, hlc, hA⟩ := k24_open hx
  have HN := Aside0.mk (node_walk x hn)
  have HX := Aside0.mk hx
  have HT := Aside0.mk ht
  have HE := Aside0.mk hne
  have HL := Aside0.mk hlen
  have hu24 := Tryd.underlying24
  clear hx ht hn hne hlen hA hlc
  go_enter Tryd.func13, Tryd.ntmps13
  go_wp2_with fail
  have hb0 : Below w.heap.size w (w.alloc (.cells #[.int .i64 x.f0, .string x.f1, .int .i64 x.f2, .slice A x.f3.length c, .int .i64 x.f4] 24)) := below_alloc (Below.refl _ _) _
  have hbk0 := blk_new w (.cells #[.int .i64 x.f0, .string x.f1, .int .i64 x.f2, .slice A x.f3.length c, .int .i64 x.f4] 24)
  refine (newp_walk _).mono ?_
  rintro e w1 ⟨b, m2, m1, rfl, hP, hb1⟩
  have hbk1 := blk_below hbk0 hb1
  have HB1 := Aside0.mk (below_step hb0 hb1)
  have HP := Aside0.mk hP
  have HSZ := Aside0.mk (hb0.size)
  clear hb1 hbk0 hb0 hP
  have z0 := blk_cell hbk1 0
  have z1 := blk_cell hbk1 1
  have z2 := blk_cell hbk1 2
  have z3 := blk_cell hbk1 3
  have z4 := blk_cell hbk1 4
  clear hbk1
  go_wp2_with fail
  refine (HN.out w _ b m2 m1 [] w1 _ true HX.out HB1.out HSZ.out HT.out ⟨_, _, HP.out⟩ ?l1).mono ?_
  case l1 => have := HL.out; simpa using this
  rintro e w2 ⟨rfl, hw⟩
  have HW := Aside0.mk hw
  have HB2 := Aside0.mk (hw.from_ HB1.out HSZ.out)
  clear hw z0 z1 z2 z3 z4
  go_wp2_with fail
  refine (string_walk _ b m2 m1 _ w2 HW.out.1 ?l2 ?l3).mono ?_
  case l2 => have := HE.out; simpa using this
  case l3 => have := HW.out.size; have := HP.out.low; have := HP.out.lt; omega
  rintro e w3 ⟨rfl, hb3⟩
  have HB3 := Aside0.mk (show Below w.heap.size w w3 from HB2.out.trans (hb3.mono HSZ.out))
  clear hb3
  go_wp2
  go_ret
  exact ⟨rfl, HB3.out⟩
end Go.Proofs.YtgdiodhaihmnbaaDoor.Own
namespace Go.Proofs.YtgdiodhaihmnbaaDoor.Own
open Go.RowKit Go.Proofs.YtgdiodhaihmnbaaDoorW.PrintWords Go.Proofs.YtgdiodhaihmnbaaDoorW.PrintLast Go.Proofs.YtgdiodhaihmnbaaDoorW.PrintMore Go.Proofs.YtgdiodhaihmnbaaDoor.PPrinterMatchesReference
attribute [local go_sem high] eqA42 eqA47

/-- Lists of equal lengths whose elements are equal, pair by pair. -/
def eqBy {α : Type} (f : α → α → Bool) : List α → List α → Bool
  | [], [] => true
  | a :: r, b :: q => f a b && eqBy f r q
  | _, _ => false
theorem eqBy_len {α : Type} (f : α → α → Bool) : ∀ (xs ys : List α), xs.length ≠ ys.length → eqBy f xs ys = false
  | [], [], h => absurd rfl h
  | [], _ :: _, _ => by simp [eqBy]
  | _ :: _, [], _ => by simp [eqBy]
  | x :: xs, y :: ys, h => by
    rw [eqBy, eqBy_len f xs ys (fun e => h (by simp [e]))]; simp
theorem drop_get {α : Type} (z : α) (xs : List α) (k : Nat) (h : k < xs.length) : xs.drop k = xs.getD k z :: xs.drop (k + 1) := by
  rw [List.drop_eq_getElem_cons h]; simp [h]
theorem mem_get {α : Type} (z : α) (xs : List α) (k : Nat) (h : k < xs.length) : xs.getD k z ∈ xs := List.mem_of_mem_drop (by rw [drop_get z xs k h]; exact List.mem_cons_self)
theorem eqBy_step {α : Type} (f : α → α → Bool) (z : α) (xs ys : List α) (k : Nat) (h : k < xs.length) (h' : k < ys.length) : eqBy f (xs.drop k) (ys.drop k) = (f (xs.getD k z) (ys.getD k z) && eqBy f (xs.drop (k + 1)) (ys.drop (k + 1))) := by
  rw [drop_get z xs k h, drop_get z ys k h', eqBy]

def eqSort (a b : S42) : Bool := a.f0.toList == b.f0.toList && (a.f1 == b.f1)
def eqParam (a b : S47) : Bool := a.f0.toList == b.f0.toList && (a.f1 == b.f1)
def eqInt (a b : Int) : Bool := a == b
def eqFld (a b : S45) : Bool := a.f0.toList == b.f0.toList && (a.f2 == b.f2) && eqBy eqInt a.f1 b.f1
def eqPred (a b : S50) : Bool := a.f0.toList == b.f0.toList && eqBy eqParam a.f1 b.f1 && eqN a.f2 b.f2
def eqFact (a b : S52) : Bool := a.f0.toList == b.f0.toList && eqN a.f1 b.f1

theorem int_at {w : World} {A : Option Addr} {n : Nat} {xs : List Int} (h : (Kd.int .i64).C w A n xs) (k : Nat) (hk : k < n) : ∃ ad, A = some ad ∧ w.cell? (ad.add k) = some (.int .i64 (xs.getD k 0)) := by
  obtain ⟨ad, c, e, _, hK, hc0⟩ := Kd.C_get h 0 k (by omega) (by omega)
  refine ⟨ad, e, ?_⟩
  have hc : ∀ j u, c[j]? = some u → w.cell? (ad.add ((k : Int).toNat * 1 + j)) = some u := hc0
  have hcs : c = [.int .i64 (xs.getD (k : Int).toNat 0)] := hK
  have := hc 0 _ (by rw [hcs]; rfl)
  simpa using this

set_option maxHeartbeats 1000000 in
set_option maxRecDepth 100000 in
theorem eqInts_walk (xs ys : List Int) (A B : Option Addr) (c d : Nat) (w : World) (hx : (Kd.int .i64).C w A xs.length xs) (hy : (Kd.int .i64).C w B ys.length ys) : Calls Tryd.prog 25 #[.slice A xs.length c, .slice B ys.length d] w (SaysB w (eqBy eqInt xs ys)) := by
  have hlx := row_len hx
  have hly := row_len hy
  have HX := Aside0.mk hx
  have HY := Aside0.mk hy
  have hu42 := Tryd.underlying42
  have hu47 := Tryd.underlying47
  clear hx hy
  by_cases hl : xs.length = ys.length
  · have hlb : ((xs.length : Int) != (ys.length : Int)) = false := by simp [hl]
    have HL := Aside0.mk hl
    clear hl
    go_enter Tryd.func25, Tryd.ntmps25
    go_wp2_with fail
    go_loopw [13] (fun v wr => ∃ k : Nat, k ≤ xs.length ∧ v = .int .i64 k ∧ Aside0 (eqBy eqInt (xs.drop k) (ys.drop k) = eqBy eqInt xs ys) ∧ Aside0 (Below w.heap.size w wr)) (fun v _ => xs.length - (intOf v).toNat)
    case atStart => exact ⟨0, Nat.zero_le _, rfl, ⟨by simp⟩, ⟨Below.refl _ _⟩⟩
    case round =>
      obtain ⟨k, hk, rfl, HE, HB⟩ := hrel
      by_cases hlt : k < xs.length
      · have hlt2 : (k : Int) < (ys.length : Int) := by have := HL.out; omega
        have hlt3 : k < ys.length := by have := HL.out; omega
        have HST := Aside0.mk (eqBy_step eqInt 0 xs ys k hlt (by have := HL.out; omega))
        obtain ⟨ad, e1, g0⟩ := int_at (Kd.C_below HX.out HB.out) k (by omega)
        cases e1
        obtain ⟨bd, e2, f0⟩ := int_at (Kd.C_below HY.out HB.out) k (by omega)
        cases e2
        obtain ⟨r, HR⟩ : ∃ r, Aside0 (eqInt (xs.getD k 0) (ys.getD k 0) = r) := ⟨_, ⟨rfl⟩⟩
        generalize xs.getD k 0 = u at *
        generalize ys.getD k 0 = v at *
        cases r
        · have hq : (u != v) = true := by have := HR.out; unfold eqInt at this; rw [bne, this]; rfl
          go_wp2_with fail
          go_quiet (fail)
          go_wp2_with fail
          go_ret
          exact ⟨by rw [← HE.out, HST.out, HR.out]; rfl, pw_below_drewN HB.out _⟩
        · have hq : (u != v) = false := by have := HR.out; unfold eqInt at this; rw [bne, this]; rfl
          go_wp2_with fail
          go_quiet (fail)
          go_wp2_with fail
          go_roundw
          case rel => exact ⟨k + 1, by omega, by go_num, ⟨by rw [← HE.out, HST.out, HR.out]; rfl⟩, ⟨pw_below_drewN HB.out _⟩⟩
          case measure => simp [intOf]; omega
      · have HF : Aside0 (eqBy eqInt xs ys = true) := ⟨by rw [← HE.out, List.drop_of_length_le (by omega), List.drop_of_length_le (by have := HL.out; omega)]; rfl⟩
        go_wp2_with fail
        go_ret
        exact ⟨by rw [HF.out]; rfl, HB.out⟩
  · have hlb : ((xs.length : Int) != (ys.length : Int)) = true := by rw [bne_iff_ne]; omega
    rw [eqBy_len _ _ _ hl]
    clear hl
    go_enter Tryd.func25, Tryd.ntmps25
    go_wp2_with fail
    go_ret
    exact ⟨rfl, Below.refl _ _⟩
set_option maxHeartbeats 1000000 in
set_option maxRecDepth 100000 in
theorem eqSorts_walk (xs ys : List S42) (A B : Option Addr) (c d : Nat) (w : World) (hx : k42.C w A xs.length xs) (hy : k42.C w B ys.length ys) : Calls Tryd.prog 29 #[.slice A xs.length c, .slice B ys.length d] w (SaysB w (eqBy eqSort xs ys)) := by
  have hlx := row_len hx
  have hly := row_len hy
  have HX := Aside0.mk hx
  have HY := Aside0.mk hy
  have hu42 := Tryd.underlying42
  have hu47 := Tryd.underlying47
  clear hx hy
  by_cases hl : xs.length = ys.length
  · have hlb : ((xs.length : Int) != (ys.length : Int)) = false := by simp [hl]
    have HL := Aside0.mk hl
    clear hl
    go_enter Tryd.func29, Tryd.ntmps29
    go_wp2_with fail
    go_loopw [13] (fun v wr => ∃ k : Nat, k ≤ xs.length ∧ v = .int .i64 k ∧ Aside0 (eqBy eqSort (xs.drop k) (ys.drop k) = eqBy eqSort xs ys) ∧ Aside0 (Below w.heap.size w wr)) (fun v _ => xs.length - (intOf v).toNat)
    case atStart => exact ⟨0, Nat.zero_le _, rfl, ⟨by simp⟩, ⟨Below.refl _ _⟩⟩
    case round =>
      obtain ⟨k, hk, rfl, HE, HB⟩ := hrel
      by_cases hlt : k < xs.length
      · have hlt2 : (k : Int) < (ys.length : Int) := by have := HL.out; omega
        have hlt3 : k < ys.length := by have := HL.out; omega
        have HST := Aside0.mk (eqBy_step eqSort z42 xs ys k hlt (by have := HL.out; omega))
        obtain ⟨ad, eg, g0, g1⟩ := at_T42 (Kd.C_below HX.out HB.out) k (by omega) (by omega)
        cases eg
        simp only [Int.toNat_natCast] at g0 g1
        change _ = some (Value.string (xs.getD k z42).f0) at g0
        change _ = some (Value.bool (xs.getD k z42).f1) at g1
        obtain ⟨bd, ef, f0, f1⟩ := at_T42 (Kd.C_below HY.out HB.out) k (by omega) (by omega)
        cases ef
        simp only [Int.toNat_natCast] at f0 f1
        change _ = some (Value.string (ys.getD k z42).f0) at f0
        change _ = some (Value.bool (ys.getD k z42).f1) at f1
        obtain ⟨r, HR⟩ : ∃ r, Aside0 (eqSort (xs.getD k z42) (ys.getD k z42) = r) := ⟨_, ⟨rfl⟩⟩
        generalize xs.getD k z42 = u at *
        generalize ys.getD k z42 = v at *
        cases r
        · have hq : (!(u.f0.toList == v.f0.toList && (u.f1 == v.f1))) = true := by have := HR.out; unfold eqSort at this; rw [this]; rfl
          go_wp2_with fail
          go_quiet (fail)
          go_wp2_with fail
          go_ret
          exact ⟨by rw [← HE.out, HST.out, HR.out]; rfl, pw_below_drewN HB.out _⟩
        · have hq : (!(u.f0.toList == v.f0.toList && (u.f1 == v.f1))) = false := by have := HR.out; unfold eqSort at this; rw [this]; rfl
          go_wp2_with fail
          go_quiet (fail)
          go_wp2_with fail
          go_roundw
          case rel => exact ⟨k + 1, by omega, by go_num, ⟨by rw [← HE.out, HST.out, HR.out]; rfl⟩, ⟨pw_below_drewN HB.out _⟩⟩
          case measure => simp [intOf]; omega
      · have HF : Aside0 (eqBy eqSort xs ys = true) := ⟨by rw [← HE.out, List.drop_of_length_le (by omega), List.drop_of_length_le (by have := HL.out; omega)]; rfl⟩
        go_wp2_with fail
        go_ret
        exact ⟨by rw [HF.out]; rfl, HB.out⟩
  · have hlb : ((xs.length : Int) != (ys.length : Int)) = true := by rw [bne_iff_ne]; omega
    rw [eqBy_len _ _ _ hl]
    clear hl
    go_enter Tryd.func29, Tryd.ntmps29
    go_wp2_with fail
    go_ret
    exact ⟨rfl, Below.refl _ _⟩
set_option maxHeartbeats 1000000 in
set_option maxRecDepth 100000 in
theorem eqParams_walk (xs ys : List S47) (A B : Option Addr) (c d : Nat) (w : World) (hx : k47.C w A xs.length xs) (hy : k47.C w B ys.length ys) : Calls Tryd.prog 27 #[.slice A xs.length c, .slice B ys.length d] w (SaysB w (eqBy eqParam xs ys)) := by
  have hlx := row_len hx
  have hly := row_len hy
  have HX := Aside0.mk hx
  have HY := Aside0.mk hy
  have hu42 := Tryd.underlying42
  have hu47 := Tryd.underlying47
  clear hx hy
  by_cases hl : xs.length = ys.length
  · have hlb : ((xs.length : Int) != (ys.length : Int)) = false := by simp [hl]
    have HL := Aside0.mk hl
    clear hl
    go_enter Tryd.func27, Tryd.ntmps27
    go_wp2_with fail
    go_loopw [13] (fun v wr => ∃ k : Nat, k ≤ xs.length ∧ v = .int .i64 k ∧ Aside0 (eqBy eqParam (xs.drop k) (ys.drop k) = eqBy eqParam xs ys) ∧ Aside0 (Below w.heap.size w wr)) (fun v _ => xs.length - (intOf v).toNat)
    case atStart => exact ⟨0, Nat.zero_le _, rfl, ⟨by simp⟩, ⟨Below.refl _ _⟩⟩
    case round =>
      obtain ⟨k, hk, rfl, HE, HB⟩ := hrel
      by_cases hlt : k < xs.length
      · have hlt2 : (k : Int) < (ys.length : Int) := by have := HL.out; omega
        have hlt3 : k < ys.length := by have := HL.out; omega
        have HST := Aside0.mk (eqBy_step eqParam z47 xs ys k hlt (by have := HL.out; omega))
        obtain ⟨ad, eg, g0, g1⟩ := at_T47 (Kd.C_below HX.out HB.out) k (by omega) (by omega)
        cases eg
        simp only [Int.toNat_natCast] at g0 g1
        change _ = some (Value.string (xs.getD k z47).f0) at g0
        change _ = some (Value.int .i64 (xs.getD k z47).f1) at g1
        obtain ⟨bd, ef, f0, f1⟩ := at_T47 (Kd.C_below HY.out HB.out) k (by omega) (by omega)
        cases ef
        simp only [Int.toNat_natCast] at f0 f1
        change _ = some (Value.string (ys.getD k z47).f0) at f0
        change _ = some (Value.int .i64 (ys.getD k z47).f1) at f1
        obtain ⟨r, HR⟩ : ∃ r, Aside0 (eqParam (xs.getD k z47) (ys.getD k z47) = r) := ⟨_, ⟨rfl⟩⟩
        generalize xs.getD k z47 = u at *
        generalize ys.getD k z47 = v at *
        cases r
        · have hq : (!(u.f0.toList == v.f0.toList && (u.f1 == v.f1))) = true := by have := HR.out; unfold eqParam at this; rw [this]; rfl
          go_wp2_with fail
          go_quiet (fail)
          go_wp2_with fail
          go_ret
          exact ⟨by rw [← HE.out, HST.out, HR.out]; rfl, pw_below_drewN HB.out _⟩
        · have hq : (!(u.f0.toList == v.f0.toList && (u.f1 == v.f1))) = false := by have := HR.out; unfold eqParam at this; rw [this]; rfl
          go_wp2_with fail
          go_quiet (fail)
          go_wp2_with fail
          go_roundw
          case rel => exact ⟨k + 1, by omega, by go_num, ⟨by rw [← HE.out, HST.out, HR.out]; rfl⟩, ⟨pw_below_drewN HB.out _⟩⟩
          case measure => simp [intOf]; omega
      · have HF : Aside0 (eqBy eqParam xs ys = true) := ⟨by rw [← HE.out, List.drop_of_length_le (by omega), List.drop_of_length_le (by have := HL.out; omega)]; rfl⟩
        go_wp2_with fail
        go_ret
        exact ⟨by rw [HF.out]; rfl, HB.out⟩
  · have hlb : ((xs.length : Int) != (ys.length : Int)) = true := by rw [bne_iff_ne]; omega
    rw [eqBy_len _ _ _ hl]
    clear hl
    go_enter Tryd.func27, Tryd.ntmps27
    go_wp2_with fail
    go_ret
    exact ⟨rfl, Below.refl _ _⟩
set_option maxHeartbeats 1000000 in
set_option maxRecDepth 100000 in
theorem eqFlds_walk (xs ys : List S45) (ih : ∀ (x y : S45) (w : World) (cx cy : List Value), k45.K w x cx → k45.K w y cy → Calls Tryd.prog 24 #[.agg cx.toArray, .agg cy.toArray] w (SaysB w (eqFld x y)))
    (A B : Option Addr) (c d : Nat) (w : World) (hx : k45.C w A xs.length xs) (hy : k45.C w B ys.length ys) :
   Calls Tryd.prog 30 #[.slice A xs.length c, .slice B ys.length d, .func (.func 24) #[] #[]] w (SaysB w (eqBy eqFld xs ys)) := by
  have hlx := row_len hx
  have hly := row_len hy
  have hu24 := Tryd.underlying24
  have hu45 := Tryd.underlying45
  have HX := Aside0.mk hx
  have HY := Aside0.mk hy
  have IH := Aside0.mk ih
  clear hx hy ih
  by_cases hl : xs.length = ys.length
  · have hlb : ((xs.length : Int) != (ys.length : Int)) = false := by simp [hl]
    have HL := Aside0.mk hl
    clear hl
    go_enter Tryd.func30, Tryd.ntmps30
    go_wp2_with fail
    go_loopw [17] (fun v wr => ∃ k : Nat, k ≤ xs.length ∧ v = .int .i64 k ∧ Aside0 (eqBy eqFld (xs.drop k) (ys.drop k) = eqBy eqFld xs ys) ∧ Aside0 (Below w.heap.size w wr)) (fun v _ => xs.length - (intOf v).toNat)
    case atStart => exact ⟨0, Nat.zero_le _, rfl, ⟨by simp⟩, ⟨Below.refl _ _⟩⟩
    case round =>
      obtain ⟨k, hk, rfl, HE, HB⟩ := hrel
      by_cases hlt : k < xs.length
      · have hlt2 : (k : Int) < (ys.length : Int) := by have := HL.out; omega
        have HST := Aside0.mk (eqBy_step eqFld z45 xs ys k hlt (by have := HL.out; omega))
        obtain ⟨ad, xA1, xc1, e1, g0, g1, g2, p0, p1⟩ := at_T45 (Kd.C_below HX.out HB.out) k (by omega) (by omega)
        cases e1
        simp only [Int.toNat_natCast] at g0 g1 g2
        obtain ⟨bd, yA1, yc1, e2, f0, f1, f2, q0, q1⟩ := at_T45 (Kd.C_below HY.out HB.out) k (by omega) (by omega)
        cases e2
        simp only [Int.toNat_natCast] at f0 f1 f2
        have KX : Aside0 (k45.K wr (rd_T45 xs k) [.string (rd_T45 xs k).f0, .slice xA1 (rd_T45 xs k).f1.length xc1, .bool (rd_T45 xs k).f2]) := ⟨k45_mk wr _ p0 p1⟩
        have KY : Aside0 (k45.K wr (rd_T45 ys k) [.string (rd_T45 ys k).f0, .slice yA1 (rd_T45 ys k).f1.length yc1, .bool (rd_T45 ys k).f2]) := ⟨k45_mk wr _ q0 q1⟩
        clear p0 p1 q0 q1
        replace f0 := cell_new f0
        replace f1 := cell_new f1
        replace f2 := cell_new f2
        obtain ⟨r, HR⟩ : ∃ r, Aside0 (eqFld (rd_T45 xs k) (rd_T45 ys k) = r) := ⟨_, ⟨rfl⟩⟩
        have HST2 : Aside0 (eqBy eqFld (xs.drop k) (ys.drop k) = (r && eqBy eqFld (xs.drop (k + 1)) (ys.drop (k + 1)))) := ⟨by rw [← HR.out]; exact HST.out⟩
        go_wp2_with fail
        refine (IH.out _ (rd_T45 ys k) _ _ _ (k45.K_below ?b1 KX.out) (k45.K_below ?b2 KY.out)).mono ?_
        case b1 => repeat (first | exact Below.refl _ _ | apply below_alloc)
        case b2 => repeat (first | exact Below.refl _ _ | apply below_alloc)
        rintro e w1 ⟨rfl, hb1⟩
        have HB1 : Aside0 (Below w.heap.size w w1) := ⟨below_step (by repeat (first | exact HB.out | apply below_alloc)) hb1⟩
        clear hb1
        rw [HR.out]
        cases r
        · go_wp2
          go_ret
          exact ⟨by rw [← HE.out, HST2.out]; rfl, HB1.out⟩
        · go_wp2
          go_roundw
          case rel => exact ⟨k + 1, by omega, by go_num, ⟨by rw [← HE.out, HST2.out]; rfl⟩, HB1⟩
          case measure => simp [intOf]; omega
      · have HE2 : Aside0 (eqBy eqFld xs ys = true) := ⟨by rw [← HE.out, List.drop_of_length_le (by omega), List.drop_of_length_le (by have := HL.out; omega)]; rfl⟩
        go_wp2
        go_ret
        exact ⟨by rw [HE2.out]; rfl, HB.out⟩
  · have hlb : ((xs.length : Int) != (ys.length : Int)) = true := by rw [bne_iff_ne]; omega
    rw [eqBy_len _ _ _ hl]
    clear hl
    go_enter Tryd.func30, Tryd.ntmps30
    go_wp2_with fail
    go_ret
    exact ⟨rfl, Below.refl _ _⟩
set_option maxHeartbeats 1000000 in
set_option maxRecDepth 100000 in
theorem eqPreds_walk (xs ys : List S50) (ih : ∀ (x y : S50) (w : World) (cx cy : List Value), k50.K w x cx → k50.K w y cy → Calls Tryd.prog 26 #[.agg cx.toArray, .agg cy.toArray] w (SaysB w (eqPred x y)))
    (A B : Option Addr) (c d : Nat) (w : World) (hx : k50.C w A xs.length xs) (hy : k50.C w B ys.length ys) :
   Calls Tryd.prog 31 #[.slice A xs.length c, .slice B ys.length d, .func (.func 26) #[] #[]] w (SaysB w (eqBy eqPred xs ys)) := by
  have hlx := row_len hx
  have hly := row_len hy
  have hu24 := Tryd.underlying24
  have hu50 := Tryd.underlying50
  have HX := Aside0.mk hx
  have HY := Aside0.mk hy
  have IH := Aside0.mk ih
  clear hx hy ih
  by_cases hl : xs.length = ys.length
  · have hlb : ((xs.length : Int) != (ys.length : Int)) = false := by simp [hl]
    have HL := Aside0.mk hl
    clear hl
    go_enter Tryd.func31, Tryd.ntmps31
    go_wp2_with fail
    go_loopw [17] (fun v wr => ∃ k : Nat, k ≤ xs.length ∧ v = .int .i64 k ∧ Aside0 (eqBy eqPred (xs.drop k) (ys.drop k) = eqBy eqPred xs ys) ∧ Aside0 (Below w.heap.size w wr)) (fun v _ => xs.length - (intOf v).toNat)
    case atStart => exact ⟨0, Nat.zero_le _, rfl, ⟨by simp⟩, ⟨Below.refl _ _⟩⟩
    case round =>
      obtain ⟨k, hk, rfl, HE, HB⟩ := hrel
      by_cases hlt : k < xs.length
      · have hlt2 : (k : Int) < (ys.length : Int) := by have := HL.out; omega
        have HST := Aside0.mk (eqBy_step eqPred z50 xs ys k hlt (by have := HL.out; omega))
        obtain ⟨ad, xA1, xc1, xA5, xc5, e1, g0, g1, g2, g3, g4, g5, g6, p0, p1, p2, p3⟩ := at_T50 (Kd.C_below HX.out HB.out) k (by omega) (by omega)
        cases e1
        simp only [Int.toNat_natCast] at g0 g1 g2 g3 g4 g5 g6
        obtain ⟨bd, yA1, yc1, yA5, yc5, e2, f0, f1, f2, f3, f4, f5, f6, q0, q1, q2, q3⟩ := at_T50 (Kd.C_below HY.out HB.out) k (by omega) (by omega)
        cases e2
        simp only [Int.toNat_natCast] at f0 f1 f2 f3 f4 f5 f6
        have KX : Aside0 (k50.K wr (rd_T50 xs k) [.string (rd_T50 xs k).f0, .slice xA1 (rd_T50 xs k).f1.length xc1, .int .i64 (rd_T50 xs k).f2.f0, .string (rd_T50 xs k).f2.f1, .int .i64 (rd_T50 xs k).f2.f2, .slice xA5 (rd_T50 xs k).f2.f3.length xc5, .int .i64 (rd_T50 xs k).f2.f4]) := ⟨k50_mk wr _ p0 p1 p2 p3⟩
        have KY : Aside0 (k50.K wr (rd_T50 ys k) [.string (rd_T50 ys k).f0, .slice yA1 (rd_T50 ys k).f1.length yc1, .int .i64 (rd_T50 ys k).f2.f0, .string (rd_T50 ys k).f2.f1, .int .i64 (rd_T50 ys k).f2.f2, .slice yA5 (rd_T50 ys k).f2.f3.length yc5, .int .i64 (rd_T50 ys k).f2.f4]) := ⟨k50_mk wr _ q0 q1 q2 q3⟩
        clear p0 p1 p2 p3 q0 q1 q2 q3
        replace f0 := cell_new f0
        replace f1 := cell_new f1
        replace f2 := cell_new f2
        replace f3 := cell_new f3
        replace f4 := cell_new f4
        replace f5 := cell_new f5
        replace f6 := cell_new f6
        obtain ⟨r, HR⟩ : ∃ r, Aside0 (eqPred (rd_T50 xs k) (rd_T50 ys k) = r) := ⟨_, ⟨rfl⟩⟩
        have HST2 : Aside0 (eqBy eqPred (xs.drop k) (ys.drop k) = (r && eqBy eqPred (xs.drop (k + 1)) (ys.drop (k + 1)))) := ⟨by rw [← HR.out]; exact HST.out⟩
        go_wp2_with fail
        refine (IH.out _ (rd_T50 ys k) _ _ _ (k50.K_below ?b1 KX.out) (k50.K_below ?b2 KY.out)).mono ?_
        case b1 => repeat (first | exact Below.refl _ _ | apply below_alloc)
        case b2 => repeat (first | exact Below.refl _ _ | apply below_alloc)
        rintro e w1 ⟨rfl, hb1⟩
        have HB1 : Aside0 (Below w.heap.size w w1) := ⟨below_step (by repeat (first | exact HB.out | apply below_alloc)) hb1⟩
        clear hb1
        rw [HR.out]
        cases r
        · go_wp2
          go_ret
          exact ⟨by rw [← HE.out, HST2.out]; rfl, HB1.out⟩
        · go_wp2
          go_roundw
          case rel => exact ⟨k + 1, by omega, by go_num, ⟨by rw [← HE.out, HST2.out]; rfl⟩, HB1⟩
          case measure => simp [intOf]; omega
      · have HE2 : Aside0 (eqBy eqPred xs ys = true) := ⟨by rw [← HE.out, List.drop_of_length_le (by omega), List.drop_of_length_le (by have := HL.out; omega)]; rfl⟩
        go_wp2
        go_ret
        exact ⟨by rw [HE2.out]; rfl, HB.out⟩
  · have hlb : ((xs.length : Int) != (ys.length : Int)) = true := by rw [bne_iff_ne]; omega
    rw [eqBy_len _ _ _ hl]
    clear hl
    go_enter Tryd.func31, Tryd.ntmps31
    go_wp2_with fail
    go_ret
    exact ⟨rfl, Below.refl _ _⟩
set_option maxHeartbeats 1000000 in
set_option maxRecDepth 100000 in
theorem eqFacts_walk (xs ys : List S52) (ih : ∀ (x y : S52) (w : World) (cx cy : List Value), k52.K w x cx → k52.K w y cy → Calls Tryd.prog 28 #[.agg cx.toArray, .agg cy.toArray] w (SaysB w (eqFact x y)))
    (A B : Option Addr) (c d : Nat) (w : World) (hx : k52.C w A xs.length xs) (hy : k52.C w B ys.length ys) :
   Calls Tryd.prog 32 #[.slice A xs.length c, .slice B ys.length d, .func (.func 28) #[] #[]] w (SaysB w (eqBy eqFact xs ys)) := by
  have hlx := row_len hx
  have hly := row_len hy
  have hu24 := Tryd.underlying24
  have hu52 := Tryd.underlying52
  have HX := Aside0.mk hx
  have HY := Aside0.mk hy
  have IH := Aside0.mk ih
  clear hx hy ih
  by_cases hl : xs.length = ys.length
  · have hlb : ((xs.length : Int) != (ys.length : Int)) = false := by simp [hl]
    have HL := Aside0.mk hl
    clear hl
    go_enter Tryd.func32, Tryd.ntmps32
    go_wp2_with fail
    go_loopw [17] (fun v wr => ∃ k : Nat, k ≤ xs.length ∧ v = .int .i64 k ∧ Aside0 (eqBy eqFact (xs.drop k) (ys.drop k) = eqBy eqFact xs ys) ∧ Aside0 (Below w.heap.size w wr)) (fun v _ => xs.length - (intOf v).toNat)
    case atStart => exact ⟨0, Nat.zero_le _, rfl, ⟨by simp⟩, ⟨Below.refl _ _⟩⟩
    case round =>
      obtain ⟨k, hk, rfl, HE, HB⟩ := hrel
      by_cases hlt : k < xs.length
      · have hlt2 : (k : Int) < (ys.length : Int) := by have := HL.out; omega
        have HST := Aside0.mk (eqBy_step eqFact z52 xs ys k hlt (by have := HL.out; omega))
        obtain ⟨ad, xA4, xc4, e1, g0, g1, g2, g3, g4, g5, p0, p1⟩ := at_T52 (Kd.C_below HX.out HB.out) k (by omega) (by omega)
        cases e1
        simp only [Int.toNat_natCast] at g0 g1 g2 g3 g4 g5
        obtain ⟨bd, yA4, yc4, e2, f0, f1, f2, f3, f4, f5, q0, q1⟩ := at_T52 (Kd.C_below HY.out HB.out) k (by omega) (by omega)
        cases e2
        simp only [Int.toNat_natCast] at f0 f1 f2 f3 f4 f5
        have KX : Aside0 (k52.K wr (rd_T52 xs k) [.string (rd_T52 xs k).f0, .int .i64 (rd_T52 xs k).f1.f0, .string (rd_T52 xs k).f1.f1, .int .i64 (rd_T52 xs k).f1.f2, .slice xA4 (rd_T52 xs k).f1.f3.length xc4, .int .i64 (rd_T52 xs k).f1.f4]) := ⟨k52_mk wr _ p0 p1⟩
        have KY : Aside0 (k52.K wr (rd_T52 ys k) [.string (rd_T52 ys k).f0, .int .i64 (rd_T52 ys k).f1.f0, .string (rd_T52 ys k).f1.f1, .int .i64 (rd_T52 ys k).f1.f2, .slice yA4 (rd_T52 ys k).f1.f3.length yc4, .int .i64 (rd_T52 ys k).f1.f4]) := ⟨k52_mk wr _ q0 q1⟩
        clear p0 p1 q0 q1
        replace f0 := cell_new f0
        replace f1 := cell_new f1
        replace f2 := cell_new f2
        replace f3 := cell_new f3
        replace f4 := cell_new f4
        replace f5 := cell_new f5
        obtain ⟨r, HR⟩ : ∃ r, Aside0 (eqFact (rd_T52 xs k) (rd_T52 ys k) = r) := ⟨_, ⟨rfl⟩⟩
        have HST2 : Aside0 (eqBy eqFact (xs.drop k) (ys.drop k) = (r && eqBy eqFact (xs.drop (k + 1)) (ys.drop (k + 1)))) := ⟨by rw [← HR.out]; exact HST.out⟩
        go_wp2_with fail
        refine (IH.out _ (rd_T52 ys k) _ _ _ (k52.K_below ?b1 KX.out) (k52.K_below ?b2 KY.out)).mono ?_
        case b1 => repeat (first | exact Below.refl _ _ | apply below_alloc)
        case b2 => repeat (first | exact Below.refl _ _ | apply below_alloc)
        rintro e w1 ⟨rfl, hb1⟩
        have HB1 : Aside0 (Below w.heap.size w w1) := ⟨below_step (by repeat (first | exact HB.out | apply below_alloc)) hb1⟩
        clear hb1
        rw [HR.out]
        cases r
        · go_wp2
          go_ret
          exact ⟨by rw [← HE.out, HST2.out]; rfl, HB1.out⟩
        · go_wp2
          go_roundw
          case rel => exact ⟨k + 1, by omega, by go_num, ⟨by rw [← HE.out, HST2.out]; rfl⟩, HB1⟩
          case measure => simp [intOf]; omega
      · have HE2 : Aside0 (eqBy eqFact xs ys = true) := ⟨by rw [← HE.out, List.drop_of_length_le (by omega), List.drop_of_length_le (by have := HL.out; omega)]; rfl⟩
        go_wp2
        go_ret
        exact ⟨by rw [HE2.out]; rfl, HB.out⟩
  · have hlb : ((xs.length : Int) != (ys.length : Int)) = true := by rw [bne_iff_ne]; omega
    rw [eqBy_len _ _ _ hl]
    clear hl
    go_enter Tryd.func32, Tryd.ntmps32
    go_wp2_with fail
    go_ret
    exact ⟨rfl, Below.refl _ _⟩
end Go.Proofs.YtgdiodhaihmnbaaDoor.Own
namespace Go.Proofs.YtgdiodhaihmnbaaDoor.Own
open Go.RowKit Go.Proofs.YtgdiodhaihmnbaaDoorW.PrintWords Go.Proofs.YtgdiodhaihmnbaaDoorW.PrintLast Go.Proofs.YtgdiodhaihmnbaaDoorW.PrintMore Go.Proofs.YtgdiodhaihmnbaaDoor.PPrinterMatchesReference

set_option maxHeartbeats 1000000 in
set_option maxRecDepth 100000 in
theorem eqFact_walk (x y : S52) (w : World) (cx cy : List Value) (hx : k52.K w x cx) (hy : k52.K w y cy) : Calls Tryd.prog 28 #[.agg cx.toArray, .agg cy.toArray] w (SaysB w (eqFact x y)) := by
  obtain ⟨xA4, xc4, rfl, xl4, xg4⟩ := k52_open hx
  obtain ⟨yA4, yc4, rfl, yl4, yg4⟩ := k52_open hy
  have hu24 := Tryd.underlying24
  have hu52 := Tryd.underlying52
  have Hxg4 := Aside0.mk xg4
  have Hyg4 := Aside0.mk yg4
  have HLX := Aside0.mk xl4
  have HLY := Aside0.mk yl4
  clear hx hy xl4 xg4 yl4 yg4
  obtain ⟨r, HR⟩ : ∃ r, Aside0 (eqN x.f1 y.f1 = r) := ⟨_, ⟨rfl⟩⟩
  by_cases h0 : x.f0.toList = y.f0.toList
  · have h0b : (x.f0.toList == y.f0.toList) = true := by simp [h0]
    have hd : eqFact x y = r := by unfold eqFact; rw [h0b, HR.out]; rfl
    rw [hd]
    clear hd
    go_enter Tryd.func28, Tryd.ntmps28
    go_wp2_with (first | ((with_reducible refine gate_dst (N := 2) rfl ?_); refine box_event rfl (N := 2) rfl (cs := #[.string x.f0, .int .i64 x.f1.f0, .string x.f1.f1, .int .i64 x.f1.f2, .slice xA4 x.f1.f3.length xc4, .int .i64 x.f1.f4]) (t := 52) (by first | (go_simp; done) | (go_simp; rfl)) ?_; intro gx hgx w1 hbx hb1; have HGX := Aside0.mk hgx; have HB1 := Aside0.mk hb1; clear hgx hb1) | ((with_reducible refine gate_dst (N := 3) rfl ?_); refine box_event rfl (N := 3) rfl (cs := #[.string y.f0, .int .i64 y.f1.f0, .string y.f1.f1, .int .i64 y.f1.f2, .slice yA4 y.f1.f3.length yc4, .int .i64 y.f1.f4]) (t := 52) (by first | (go_simp; done) | (go_simp; rfl)) ?_; intro gy hgy w2 hby hb2; have HBX := Aside0.mk (blk_below hbx hb2); have HBY := Aside0.mk hby; have HB2 := Aside0.mk (below_step HB1.out hb2); clear hgy hb2 hbx hby; have zx0 := blk_cell HBX.out 0; have zy0 := blk_cell HBY.out 0; have zx1 := blk_cell HBX.out 1; have zy1 := blk_cell HBY.out 1; have zx2 := blk_cell HBX.out 2; have zy2 := blk_cell HBY.out 2; have zx3 := blk_cell HBX.out 3; have zy3 := blk_cell HBY.out 3; have zx4 := blk_cell HBX.out 4; have zy4 := blk_cell HBY.out 4; have zx5 := blk_cell HBX.out 5; have zy5 := blk_cell HBY.out 5))
    refine (eqN_walk _ x.f1 y.f1 w2 _ _ (Nat.lt_succ_self _) (k24_mk w2 x.f1 ?l1 (Kd.C_below Hxg4.out HB2.out)) (k24_mk w2 y.f1 ?l2 (Kd.C_below Hyg4.out HB2.out))).mono ?_
    case l1 => exact HLX.out
    case l2 => exact HLY.out
    rintro e w3 ⟨rfl, hb3⟩
    rw [HR.out]
    have HB3 := Aside0.mk (below_step HB2.out hb3)
    clear hb3
    go_wp2_with fail
    go_ret
    exact ⟨rfl, HB3.out⟩
  · have h0b : (x.f0.toList == y.f0.toList) = false := by simp [h0]
    have hd : eqFact x y = false := by unfold eqFact; rw [h0b]; rfl
    rw [hd]
    clear hd h0
    go_enter Tryd.func28, Tryd.ntmps28
    go_wp2_with (first | ((with_reducible refine gate_dst (N := 2) rfl ?_); refine box_event rfl (N := 2) rfl (cs := #[.string x.f0, .int .i64 x.f1.f0, .string x.f1.f1, .int .i64 x.f1.f2, .slice xA4 x.f1.f3.length xc4, .int .i64 x.f1.f4]) (t := 52) (by first | (go_simp; done) | (go_simp; rfl)) ?_; intro gx hgx w1 hbx hb1; have HGX := Aside0.mk hgx; have HB1 := Aside0.mk hb1; clear hgx hb1) | ((with_reducible refine gate_dst (N := 3) rfl ?_); refine box_event rfl (N := 3) rfl (cs := #[.string y.f0, .int .i64 y.f1.f0, .string y.f1.f1, .int .i64 y.f1.f2, .slice yA4 y.f1.f3.length yc4, .int .i64 y.f1.f4]) (t := 52) (by first | (go_simp; done) | (go_simp; rfl)) ?_; intro gy hgy w2 hby hb2; have HBX := Aside0.mk (blk_below hbx hb2); have HBY := Aside0.mk hby; have HB2 := Aside0.mk (below_step HB1.out hb2); clear hgy hb2 hbx hby; have zx0 := blk_cell HBX.out 0; have zy0 := blk_cell HBY.out 0; have zx1 := blk_cell HBX.out 1; have zy1 := blk_cell HBY.out 1; have zx2 := blk_cell HBX.out 2; have zy2 := blk_cell HBY.out 2; have zx3 := blk_cell HBX.out 3; have zy3 := blk_cell HBY.out 3; have zx4 := blk_cell HBX.out 4; have zy4 := blk_cell HBY.out 4; have zx5 := blk_cell HBX.out 5; have zy5 := blk_cell HBY.out 5))
    go_ret
    exact ⟨rfl, HB2.out⟩
set_option maxHeartbeats 1000000 in
set_option maxRecDepth 100000 in
theorem eqFld_walk (x y : S45) (w : World) (cx cy : List Value) (hx : k45.K w x cx) (hy : k45.K w y cy) : Calls Tryd.prog 24 #[.agg cx.toArray, .agg cy.toArray] w (SaysB w (eqFld x y)) := by
  obtain ⟨xA1, xc1, rfl, xl1, xg1⟩ := k45_open hx
  obtain ⟨yA1, yc1, rfl, yl1, yg1⟩ := k45_open hy
  have hu24 := Tryd.underlying24
  have hu45 := Tryd.underlying45
  have Hxg1 := Aside0.mk xg1
  have Hyg1 := Aside0.mk yg1
  clear hx hy xl1 xg1 yl1 yg1
  obtain ⟨r, HR⟩ : ∃ r, Aside0 (eqBy eqInt x.f1 y.f1 = r) := ⟨_, ⟨rfl⟩⟩
  by_cases h0 : x.f0.toList = y.f0.toList
  · have h0b : (x.f0.toList == y.f0.toList) = true := by simp [h0]
    obtain ⟨q, HQ⟩ : ∃ q, (x.f2 == y.f2) = q := ⟨_, rfl⟩
    cases q
    · have hd : eqFld x y = false := by unfold eqFld; rw [h0b, HQ]; rfl
      rw [hd]
      clear hd
      go_enter Tryd.func24, Tryd.ntmps24
      go_wp2_with (first | ((with_reducible refine gate_dst (N := 2) rfl ?_); refine box_event rfl (N := 2) rfl (cs := #[.string x.f0, .slice xA1 x.f1.length xc1, .bool x.f2]) (t := 45) (by first | (go_simp; done) | (go_simp; rfl)) ?_; intro gx hgx w1 hbx hb1; have HGX := Aside0.mk hgx; have HB1 := Aside0.mk hb1; clear hgx hb1) | ((with_reducible refine gate_dst (N := 3) rfl ?_); refine box_event rfl (N := 3) rfl (cs := #[.string y.f0, .slice yA1 y.f1.length yc1, .bool y.f2]) (t := 45) (by first | (go_simp; done) | (go_simp; rfl)) ?_; intro gy hgy w2 hby hb2; have HBX := Aside0.mk (blk_below hbx hb2); have HBY := Aside0.mk hby; have HB2 := Aside0.mk (below_step HB1.out hb2); clear hgy hb2 hbx hby; have zx0 := blk_cell HBX.out 0; have zy0 := blk_cell HBY.out 0; have zx1 := blk_cell HBX.out 1; have zy1 := blk_cell HBY.out 1; have zx2 := blk_cell HBX.out 2; have zy2 := blk_cell HBY.out 2))
      go_ret
      exact ⟨rfl, HB2.out⟩
    · have hd : eqFld x y = r := by unfold eqFld; rw [h0b, HQ, HR.out]; rfl
      rw [hd]
      clear hd
      go_enter Tryd.func24, Tryd.ntmps24
      go_wp2_with (first | ((with_reducible refine gate_dst (N := 2) rfl ?_); refine box_event rfl (N := 2) rfl (cs := #[.string x.f0, .slice xA1 x.f1.length xc1, .bool x.f2]) (t := 45) (by first | (go_simp; done) | (go_simp; rfl)) ?_; intro gx hgx w1 hbx hb1; have HGX := Aside0.mk hgx; have HB1 := Aside0.mk hb1; clear hgx hb1) | ((with_reducible refine gate_dst (N := 3) rfl ?_); refine box_event rfl (N := 3) rfl (cs := #[.string y.f0, .slice yA1 y.f1.length yc1, .bool y.f2]) (t := 45) (by first | (go_simp; done) | (go_simp; rfl)) ?_; intro gy hgy w2 hby hb2; have HBX := Aside0.mk (blk_below hbx hb2); have HBY := Aside0.mk hby; have HB2 := Aside0.mk (below_step HB1.out hb2); clear hgy hb2 hbx hby; have zx0 := blk_cell HBX.out 0; have zy0 := blk_cell HBY.out 0; have zx1 := blk_cell HBX.out 1; have zy1 := blk_cell HBY.out 1; have zx2 := blk_cell HBX.out 2; have zy2 := blk_cell HBY.out 2))
      refine (eqInts_walk x.f1 y.f1 xA1 yA1 xc1 yc1 w2 (Kd.C_below Hxg1.out HB2.out) (Kd.C_below Hyg1.out HB2.out)).mono ?_
      rintro e w3 ⟨rfl, hb3⟩
      rw [HR.out]
      have HB3 := Aside0.mk (below_step HB2.out hb3)
      clear hb3
      go_wp2_with fail
      go_ret
      exact ⟨rfl, HB3.out⟩
  · have h0b : (x.f0.toList == y.f0.toList) = false := by simp [h0]
    have hd : eqFld x y = false := by unfold eqFld; rw [h0b]; rfl
    rw [hd]
    clear hd h0
    go_enter Tryd.func24, Tryd.ntmps24
    go_wp2_with (first | ((with_reducible refine gate_dst (N := 2) rfl ?_); refine box_event rfl (N := 2) rfl (cs := #[.string x.f0, .slice xA1 x.f1.length xc1, .bool x.f2]) (t := 45) (by first | (go_simp; done) | (go_simp; rfl)) ?_; intro gx hgx w1 hbx hb1; have HGX := Aside0.mk hgx; have HB1 := Aside0.mk hb1; clear hgx hb1) | ((with_reducible refine gate_dst (N := 3) rfl ?_); refine box_event rfl (N := 3) rfl (cs := #[.string y.f0, .slice yA1 y.f1.length yc1, .bool y.f2]) (t := 45) (by first | (go_simp; done) | (go_simp; rfl)) ?_; intro gy hgy w2 hby hb2; have HBX := Aside0.mk (blk_below hbx hb2); have HBY := Aside0.mk hby; have HB2 := Aside0.mk (below_step HB1.out hb2); clear hgy hb2 hbx hby; have zx0 := blk_cell HBX.out 0; have zy0 := blk_cell HBY.out 0; have zx1 := blk_cell HBX.out 1; have zy1 := blk_cell HBY.out 1; have zx2 := blk_cell HBX.out 2; have zy2 := blk_cell HBY.out 2))
    go_ret
    exact ⟨rfl, HB2.out⟩
set_option maxHeartbeats 1000000 in
set_option maxRecDepth 100000 in
theorem eqPred_walk (x y : S50) (w : World) (cx cy : List Value) (hx : k50.K w x cx) (hy : k50.K w y cy) : Calls Tryd.prog 26 #[.agg cx.toArray, .agg cy.toArray] w (SaysB w (eqPred x y)) := by
  obtain ⟨xA1, xc1, xA5, xc5, rfl, xl1, xg1, xl5, xg5⟩ := k50_open hx
  obtain ⟨yA1, yc1, yA5, yc5, rfl, yl1, yg1, yl5, yg5⟩ := k50_open hy
  have hu24 := Tryd.underlying24
  have hu50 := Tryd.underlying50
  have Hxg1 := Aside0.mk xg1
  have Hxg5 := Aside0.mk xg5
  have Hyg1 := Aside0.mk yg1
  have Hyg5 := Aside0.mk yg5
  have HLX := Aside0.mk xl5
  have HLY := Aside0.mk yl5
  clear hx hy xl1 xg1 xl5 xg5 yl1 yg1 yl5 yg5
  obtain ⟨r, HR⟩ : ∃ r, Aside0 (eqN x.f2 y.f2 = r) := ⟨_, ⟨rfl⟩⟩
  obtain ⟨q, HQ⟩ : ∃ q, Aside0 (eqBy eqParam x.f1 y.f1 = q) := ⟨_, ⟨rfl⟩⟩
  by_cases h0 : x.f0.toList = y.f0.toList
  · have h0b : (x.f0.toList == y.f0.toList) = true := by simp [h0]
    cases q
    · have hd : eqPred x y = false := by unfold eqPred; rw [h0b, HQ.out]; rfl
      rw [hd]
      clear hd
      go_enter Tryd.func26, Tryd.ntmps26
      go_wp2_with (first | ((with_reducible refine gate_dst (N := 2) rfl ?_); refine box_event rfl (N := 2) rfl (cs := #[.string x.f0, .slice xA1 x.f1.length xc1, .int .i64 x.f2.f0, .string x.f2.f1, .int .i64 x.f2.f2, .slice xA5 x.f2.f3.length xc5, .int .i64 x.f2.f4]) (t := 50) (by first | (go_simp; done) | (go_simp; rfl)) ?_; intro gx hgx w1 hbx hb1; have HGX := Aside0.mk hgx; have HB1 := Aside0.mk hb1; clear hgx hb1) | ((with_reducible refine gate_dst (N := 3) rfl ?_); refine box_event rfl (N := 3) rfl (cs := #[.string y.f0, .slice yA1 y.f1.length yc1, .int .i64 y.f2.f0, .string y.f2.f1, .int .i64 y.f2.f2, .slice yA5 y.f2.f3.length yc5, .int .i64 y.f2.f4]) (t := 50) (by first | (go_simp; done) | (go_simp; rfl)) ?_; intro gy hgy w2 hby hb2; have HBX := Aside0.mk (blk_below hbx hb2); have HBY := Aside0.mk hby; have HB2 := Aside0.mk (below_step HB1.out hb2); clear hgy hb2 hbx hby; have zx0 := blk_cell HBX.out 0; have zy0 := blk_cell HBY.out 0; have zx1 := blk_cell HBX.out 1; have zy1 := blk_cell HBY.out 1; have zx2 := blk_cell HBX.out 2; have zy2 := blk_cell HBY.out 2; have zx3 := blk_cell HBX.out 3; have zy3 := blk_cell HBY.out 3; have zx4 := blk_cell HBX.out 4; have zy4 := blk_cell HBY.out 4; have zx5 := blk_cell HBX.out 5; have zy5 := blk_cell HBY.out 5; have zx6 := blk_cell HBX.out 6; have zy6 := blk_cell HBY.out 6))
      refine (eqParams_walk x.f1 y.f1 xA1 yA1 xc1 yc1 w2 (Kd.C_below Hxg1.out HB2.out) (Kd.C_below Hyg1.out HB2.out)).mono ?_
      rintro e w3 ⟨rfl, hb3⟩
      rw [HQ.out]
      have hbx3 := blk_below HBX.out hb3
      have hby3 := blk_below HBY.out hb3
      have HB3 := Aside0.mk (below_step HB2.out hb3)
      clear hb3
      clear zx0 zy0 zx1 zy1 zx2 zy2 zx3 zy3 zx4 zy4 zx5 zy5 zx6 zy6
      have zx0 := blk_cell hbx3 0
      have zy0 := blk_cell hby3 0
      have zx1 := blk_cell hbx3 1
      have zy1 := blk_cell hby3 1
      have zx2 := blk_cell hbx3 2
      have zy2 := blk_cell hby3 2
      have zx3 := blk_cell hbx3 3
      have zy3 := blk_cell hby3 3
      have zx4 := blk_cell hbx3 4
      have zy4 := blk_cell hby3 4
      have zx5 := blk_cell hbx3 5
      have zy5 := blk_cell hby3 5
      have zx6 := blk_cell hbx3 6
      have zy6 := blk_cell hby3 6
      clear hbx3 hby3
      go_wp2_with fail
      go_ret
      exact ⟨rfl, HB3.out⟩
    · have hd : eqPred x y = r := by unfold eqPred; rw [h0b, HQ.out, HR.out]; rfl
      rw [hd]
      clear hd
      go_enter Tryd.func26, Tryd.ntmps26
      go_wp2_with (first | ((with_reducible refine gate_dst (N := 2) rfl ?_); refine box_event rfl (N := 2) rfl (cs := #[.string x.f0, .slice xA1 x.f1.length xc1, .int .i64 x.f2.f0, .string x.f2.f1, .int .i64 x.f2.f2, .slice xA5 x.f2.f3.length xc5, .int .i64 x.f2.f4]) (t := 50) (by first | (go_simp; done) | (go_simp; rfl)) ?_; intro gx hgx w1 hbx hb1; have HGX := Aside0.mk hgx; have HB1 := Aside0.mk hb1; clear hgx hb1) | ((with_reducible refine gate_dst (N := 3) rfl ?_); refine box_event rfl (N := 3) rfl (cs := #[.string y.f0, .slice yA1 y.f1.length yc1, .int .i64 y.f2.f0, .string y.f2.f1, .int .i64 y.f2.f2, .slice yA5 y.f2.f3.length yc5, .int .i64 y.f2.f4]) (t := 50) (by first | (go_simp; done) | (go_simp; rfl)) ?_; intro gy hgy w2 hby hb2; have HBX := Aside0.mk (blk_below hbx hb2); have HBY := Aside0.mk hby; have HB2 := Aside0.mk (below_step HB1.out hb2); clear hgy hb2 hbx hby; have zx0 := blk_cell HBX.out 0; have zy0 := blk_cell HBY.out 0; have zx1 := blk_cell HBX.out 1; have zy1 := blk_cell HBY.out 1; have zx2 := blk_cell HBX.out 2; have zy2 := blk_cell HBY.out 2; have zx3 := blk_cell HBX.out 3; have zy3 := blk_cell HBY.out 3; have zx4 := blk_cell HBX.out 4; have zy4 := blk_cell HBY.out 4; have zx5 := blk_cell HBX.out 5; have zy5 := blk_cell HBY.out 5; have zx6 := blk_cell HBX.out 6; have zy6 := blk_cell HBY.out 6))
      refine (eqParams_walk x.f1 y.f1 xA1 yA1 xc1 yc1 w2 (Kd.C_below Hxg1.out HB2.out) (Kd.C_below Hyg1.out HB2.out)).mono ?_
      rintro e w3 ⟨rfl, hb3⟩
      rw [HQ.out]
      have hbx3 := blk_below HBX.out hb3
      have hby3 := blk_below HBY.out hb3
      have HB3 := Aside0.mk (below_step HB2.out hb3)
      clear hb3
      clear zx0 zy0 zx1 zy1 zx2 zy2 zx3 zy3 zx4 zy4 zx5 zy5 zx6 zy6
      have zx0 := blk_cell hbx3 0
      have zy0 := blk_cell hby3 0
      have zx1 := blk_cell hbx3 1
      have zy1 := blk_cell hby3 1
      have zx2 := blk_cell hbx3 2
      have zy2 := blk_cell hby3 2
      have zx3 := blk_cell hbx3 3
      have zy3 := blk_cell hby3 3
      have zx4 := blk_cell hbx3 4
      have zy4 := blk_cell hby3 4
      have zx5 := blk_cell hbx3 5
      have zy5 := blk_cell hby3 5
      have zx6 := blk_cell hbx3 6
      have zy6 := blk_cell hby3 6
      clear hbx3 hby3
      go_wp2_with fail
      refine (eqN_walk _ x.f2 y.f2 w3 _ _ (Nat.lt_succ_self _) (k24_mk w3 x.f2 ?l1 (Kd.C_below Hxg5.out HB3.out)) (k24_mk w3 y.f2 ?l2 (Kd.C_below Hyg5.out HB3.out))).mono ?_
      case l1 => exact HLX.out
      case l2 => exact HLY.out
      rintro e w4 ⟨rfl, hb4⟩
      rw [HR.out]
      have HB4 := Aside0.mk (below_step HB3.out hb4)
      clear hb4
      go_wp2_with fail
      go_ret
      exact ⟨rfl, HB4.out⟩
  · have h0b : (x.f0.toList == y.f0.toList) = false := by simp [h0]
    have hd : eqPred x y = false := by unfold eqPred; rw [h0b]; rfl
    rw [hd]
    clear hd h0
    go_enter Tryd.func26, Tryd.ntmps26
    go_wp2_with (first | ((with_reducible refine gate_dst (N := 2) rfl ?_); refine box_event rfl (N := 2) rfl (cs := #[.string x.f0, .slice xA1 x.f1.length xc1, .int .i64 x.f2.f0, .string x.f2.f1, .int .i64 x.f2.f2, .slice xA5 x.f2.f3.length xc5, .int .i64 x.f2.f4]) (t := 50) (by first | (go_simp; done) | (go_simp; rfl)) ?_; intro gx hgx w1 hbx hb1; have HGX := Aside0.mk hgx; have HB1 := Aside0.mk hb1; clear hgx hb1) | ((with_reducible refine gate_dst (N := 3) rfl ?_); refine box_event rfl (N := 3) rfl (cs := #[.string y.f0, .slice yA1 y.f1.length yc1, .int .i64 y.f2.f0, .string y.f2.f1, .int .i64 y.f2.f2, .slice yA5 y.f2.f3.length yc5, .int .i64 y.f2.f4]) (t := 50) (by first | (go_simp; done) | (go_simp; rfl)) ?_; intro gy hgy w2 hby hb2; have HBX := Aside0.mk (blk_below hbx hb2); have HBY := Aside0.mk hby; have HB2 := Aside0.mk (below_step HB1.out hb2); clear hgy hb2 hbx hby; have zx0 := blk_cell HBX.out 0; have zy0 := blk_cell HBY.out 0; have zx1 := blk_cell HBX.out 1; have zy1 := blk_cell HBY.out 1; have zx2 := blk_cell HBX.out 2; have zy2 := blk_cell HBY.out 2; have zx3 := blk_cell HBX.out 3; have zy3 := blk_cell HBY.out 3; have zx4 := blk_cell HBX.out 4; have zy4 := blk_cell HBY.out 4; have zx5 := blk_cell HBX.out 5; have zy5 := blk_cell HBY.out 5; have zx6 := blk_cell HBX.out 6; have zy6 := blk_cell HBY.out 6))
    go_ret
    exact ⟨rfl, HB2.out⟩
end Go.Proofs.YtgdiodhaihmnbaaDoor.Own
namespace Go.Proofs.YtgdiodhaihmnbaaDoor.Own
open Go.RowKit Go.Proofs.YtgdiodhaihmnbaaDoorW.PrintWords Go.Proofs.YtgdiodhaihmnbaaDoorW.PrintLast Go.Proofs.YtgdiodhaihmnbaaDoorW.PrintMore Go.Proofs.YtgdiodhaihmnbaaDoor.PPrinterMatchesReference

/-- A specification. -/
structure SpD where
  so : List S42
  fi : List S45
  pr : List S50
  fa : List S52
/-- It reads so in the world. -/
def SpK (w : World) (x : SpD) (cs : List Value) : Prop := ∃ (A0 A1 A2 A3 : Option Addr) (c0 c1 c2 c3 : Nat), cs = [.slice A0 x.so.length c0, .slice A1 x.fi.length c1, .slice A2 x.pr.length c2, .slice A3 x.fa.length c3] ∧
  k42.C w A0 x.so.length x.so ∧ k45.C w A1 x.fi.length x.fi ∧ k50.C w A2 x.pr.length x.pr ∧ k52.C w A3 x.fa.length x.fa
theorem SpK.below {w w1 : World} {x : SpD} {cs : List Value} (h : SpK w x cs) (hb : Below w.heap.size w w1) : SpK w1 x cs := by
  obtain ⟨A0, A1, A2, A3, c0, c1, c2, c3, e, h0, h1, h2, h3⟩ := h
  exact ⟨A0, A1, A2, A3, c0, c1, c2, c3, e, Kd.C_below h0 hb, Kd.C_below h1 hb, Kd.C_below h2 hb, Kd.C_below h3 hb⟩
def eqSpec (x y : SpD) : Bool := eqBy eqSort x.so y.so && eqBy eqFld x.fi y.fi && eqBy eqPred x.pr y.pr && eqBy eqFact x.fa y.fa

set_option maxHeartbeats 1000000 in
set_option maxRecDepth 100000 in
theorem eqSpec_walk (x y : SpD) (w : World) (cx cy : List Value) (hx : SpK w x cx) (hy : SpK w y cy) : Calls Tryd.prog 10 #[.agg cx.toArray, .agg cy.toArray] w (SaysB w (eqSpec x y)) := by
  obtain ⟨A0, A1, A2, A3, c0, c1, c2, c3, rfl, x0, x1, x2, x3⟩ := hx
  obtain ⟨B0, B1, B2, B3, d0, d1, d2, d3, rfl, y0, y1, y2, y3⟩ := hy
  have X0 := Aside0.mk x0
  have X1 := Aside0.mk x1
  have X2 := Aside0.mk x2
  have X3 := Aside0.mk x3
  have Y0 := Aside0.mk y0
  have Y1 := Aside0.mk y1
  have Y2 := Aside0.mk y2
  have Y3 := Aside0.mk y3
  have hu30 := Tryd.underlying30
  clear x0 x1 x2 x3 y0 y1 y2 y3
  obtain ⟨q0, Q0⟩ : ∃ q, Aside0 (eqBy eqSort x.so y.so = q) := ⟨_, ⟨rfl⟩⟩
  obtain ⟨q1, Q1⟩ : ∃ q, Aside0 (eqBy eqFld x.fi y.fi = q) := ⟨_, ⟨rfl⟩⟩
  obtain ⟨q2, Q2⟩ : ∃ q, Aside0 (eqBy eqPred x.pr y.pr = q) := ⟨_, ⟨rfl⟩⟩
  obtain ⟨q3, Q3⟩ : ∃ q, Aside0 (eqBy eqFact x.fa y.fa = q) := ⟨_, ⟨rfl⟩⟩
  have HE : Aside0 (eqSpec x y = (q0 && q1 && q2 && q3)) := ⟨by rw [eqSpec, Q0.out, Q1.out, Q2.out, Q3.out]⟩
  go_enter Tryd.func10, Tryd.ntmps10
  go_wp2_with (first | ((with_reducible refine gate_dst (N := 2) rfl ?_); refine box_event rfl (N := 2) rfl (cs := #[.slice A0 x.so.length c0, .slice A1 x.fi.length c1, .slice A2 x.pr.length c2, .slice A3 x.fa.length c3]) (t := 30) (by first | (go_simp; done) | (go_simp; rfl)) ?_; intro gx hgx w1 hbx hb1; have HGX := Aside0.mk hgx; have HB1 := Aside0.mk hb1; clear hgx hb1) | ((with_reducible refine gate_dst (N := 3) rfl ?_); refine box_event rfl (N := 3) rfl (cs := #[.slice B0 y.so.length d0, .slice B1 y.fi.length d1, .slice B2 y.pr.length d2, .slice B3 y.fa.length d3]) (t := 30) (by first | (go_simp; done) | (go_simp; rfl)) ?_; intro gy hgy w2 hby hb2; have HBX := Aside0.mk (blk_below hbx hb2); have HBY := Aside0.mk hby; have HB2 := Aside0.mk (below_step HB1.out hb2); clear hgy hb2 hbx hby; have zx0 := blk_cell HBX.out 0; have zx1 := blk_cell HBX.out 1; have zx2 := blk_cell HBX.out 2; have zx3 := blk_cell HBX.out 3; have zy0 := blk_cell HBY.out 0; have zy1 := blk_cell HBY.out 1; have zy2 := blk_cell HBY.out 2; have zy3 := blk_cell HBY.out 3))
  refine (eqSorts_walk x.so y.so A0 B0 c0 d0 w2 (Kd.C_below X0.out HB2.out) (Kd.C_below Y0.out HB2.out)).mono ?_
  rintro e w3 ⟨rfl, hb3⟩
  rw [Q0.out]
  have HBX3 := Aside0.mk (blk_below HBX.out hb3)
  have HBY3 := Aside0.mk (blk_below HBY.out hb3)
  have HB3 := Aside0.mk (below_step HB2.out hb3)
  clear hb3 zx0 zx1 zx2 zx3 zy0 zy1 zy2 zy3
  have zx1 := blk_cell HBX3.out 1
  have zy1 := blk_cell HBY3.out 1
  cases q0
  · go_wp2_with fail
    go_ret
    exact ⟨by rw [HE.out]; rfl, HB3.out⟩
  go_wp2_with fail
  refine (eqFlds_walk x.fi y.fi eqFld_walk A1 B1 c1 d1 w3 (Kd.C_below X1.out HB3.out) (Kd.C_below Y1.out HB3.out)).mono ?_
  rintro e w4 ⟨rfl, hb4⟩
  rw [Q1.out]
  have HBX4 := Aside0.mk (blk_below HBX3.out hb4)
  have HBY4 := Aside0.mk (blk_below HBY3.out hb4)
  have HB4 := Aside0.mk (below_step HB3.out hb4)
  clear hb4 zx1 zy1
  have zx2 := blk_cell HBX4.out 2
  have zy2 := blk_cell HBY4.out 2
  cases q1
  · go_wp2_with fail
    go_ret
    exact ⟨by rw [HE.out]; rfl, HB4.out⟩
  go_wp2_with fail
  refine (eqPreds_walk x.pr y.pr eqPred_walk A2 B2 c2 d2 w4 (Kd.C_below X2.out HB4.out) (Kd.C_below Y2.out HB4.out)).mono ?_
  rintro e w5 ⟨rfl, hb5⟩
  rw [Q2.out]
  have HBX5 := Aside0.mk (blk_below HBX4.out hb5)
  have HBY5 := Aside0.mk (blk_below HBY4.out hb5)
  have HB5 := Aside0.mk (below_step HB4.out hb5)
  clear hb5 zx2 zy2
  have zx3 := blk_cell HBX5.out 3
  have zy3 := blk_cell HBY5.out 3
  cases q2
  · go_wp2_with fail
    go_ret
    exact ⟨by rw [HE.out]; rfl, HB5.out⟩
  go_wp2_with fail
  refine (eqFacts_walk x.fa y.fa eqFact_walk A3 B3 c3 d3 w5 (Kd.C_below X3.out HB5.out) (Kd.C_below Y3.out HB5.out)).mono ?_
  rintro e w6 ⟨rfl, hb6⟩
  rw [Q3.out]
  have HB6 := Aside0.mk (below_step HB5.out hb6)
  clear hb6 zx3 zy3
  go_wp2_with fail
  go_ret
  exact ⟨by rw [HE.out]; rfl, HB6.out⟩
end Go.Proofs.YtgdiodhaihmnbaaDoor.Own
