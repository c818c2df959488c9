/- Steps towards the statement: the printer's texts and equalities are the reference's, and two valid formulas are equal exactly if their texts are; walks of the program's functions and the plain law behind them. This text: part 4 of 7. No condition of its own. -/
import Derived.Lib.AppendIntMem
import Derived.Test.YtgdiodhaihmnbaaDoorMat2
import Derived.Test.YtgdiodhaihmnbaaDoorMat3
set_option linter.unusedSimpArgs false
set_option linter.unusedVariables false
namespace Go.Proofs.YtgdiodhaihmnbaaDoor.Own
open Go.RowKit Go.Proofs.YtgdiodhaihmnbaaDoorW.PrintWords Go.Proofs.YtgdiodhaihmnbaaDoorW.PrintLast Go.Proofs.YtgdiodhaihmnbaaDoorW.PrintMore Go.Proofs.YtgdiodhaihmnbaaDoor.PPrinterMatchesReference
set_option maxHeartbeats 4000000 in
set_option maxRecDepth 100000 in
theorem node_bin (x : S24) (s : List UInt8) (l na nb : Int) (hb : atT x.f0 binT = some (s, l, na, nb)) (h0 : OprC (x.f3.getD 0 z24)) (h1 : OprC (x.f3.getD 1 z24)) (hna : na ≤ 15) (hnb : nb ≤ 15) : NodeC x := by
  intro w0 B b m2 m1 bs w cs fin hx hb0 hB0 ht hP hlen
  obtain ⟨A, c, rfl, hlc, hA⟩ := k24_open hx
  have HX := Aside0.mk hx
  have HA := Aside0.mk hA
  have HP := Aside0.mk hP
  have HT := Aside0.mk ht
  have HB0 := Aside0.mk hb0
  have hlt := hP.lt
  have hlow := hP.low
  have hu24 := Tryd.underlying24
  have hu96 := Tryd.underlying96
  have htx : txt x fin = opr (x.f3.getD 0 z24) na false ++ s ++ opr (x.f3.getD 1 z24) nb fin := by rw [txt_def, hb]; simp only; rw [opd_rd _ _ _ _ hna, opd_rd _ _ _ _ hnb]
  rw [htx] at hlen ⊢
  have HL := Aside0.mk hlen
  have HQtwo := Aside0.mk hb
  have H0 := Aside0.mk h0
  have H1 := Aside0.mk h1
  obtain ⟨cs0, hk0, hc0⟩ := kid_all x 0 (by omega) w0 _ hx
  have HC0 := Aside0.mk hk0
  have HA0 := Aside0.mk hc0
  clear hk0 hc0
  obtain ⟨cs1, hk1, hc1⟩ := kid_all x 1 (by omega) w0 _ hx
  have HC1 := Aside0.mk hk1
  have HA1 := Aside0.mk hc1
  clear hk1 hc1
  have hass : bs ++ (opr (x.f3.getD 0 z24) na false ++ s ++ opr (x.f3.getD 1 z24) nb fin) = ((bs ++ opr (x.f3.getD 0 z24) na false) ++ s) ++ opr (x.f3.getD 1 z24) nb fin := by simp
  rw [hass]
  clear hx hP ht hb0 hA hlc htx hlen hb h0 h1 hass
  go_enter Tryd.func38, Tryd.ntmps38
  go_wp2_with ((with_reducible refine gate_dst (N := 4) rfl ?_); refine box_event rfl (N := 4) rfl (cs := #[.int .i64 x.f0, .string x.f1, .int .i64 x.f2, .slice A x.f3.length c, .int .i64 x.f4]) (t := 24) (by first | (go_simp; done) | (go_simp; rfl)) ?_; intro g hg w1 hbk1 hb1; have HG := Aside0.mk hg; clear hg)
  have HW1 := Aside0.mk (show Wrote B b m2 m1 bs w w1 from ⟨HP.out.below hb1, hb1.mono (by omega), fun i o hi _ _ => (hb1.block i (blk_lt hi)).trans hi⟩)
  have hgb : g ≠ b := by have := HG.out; omega
  clear hb1
  obtain ⟨S, hSe⟩ : ∃ S : World → Prop, S = fun W => Below w1.heap.size w1 W := ⟨_, rfl⟩
  obtain ⟨p, v, kP⟩ := HW1.out.1
  have q2 : ∀ W, S W → W.cell? ⟨b, 2, none⟩ = some (.map (some m2)) := fun W hW => by rw [hSe] at hW; exact blk_cell (blk_below kP.blk hW) 2
  have q0 : ∀ W, S W → W.cell? ⟨g, 0, none⟩ = some (.int .i64 x.f0) := fun W hW => by rw [hSe] at hW; exact blk_cell (blk_below hbk1 hW) 0
  have ql : ∀ W, S W → (Instr.lookup 73 (.map (some m2)) (.int .i64 x.f0) true).run Tryd.prog W = .ok (.tuple #[.agg #[.string ⟨s.toArray⟩, .int .i64 l, .int .i64 na, .int .i64 nb], .bool true]) W := fun W hW => by
    rw [hSe] at hW
    rw [look_tab W m2 binT 17 (kP.below hW).two, HQtwo.out]
    rfl
  have hS0 : S w1.drew := by rw [hSe]; exact below_drew1 (Below.refl _ _)
  refine wp_region_held_drew (S := S) (by kernel_rfl) hS0 (fun _ => ?_)
  refine h_take 0 rfl (by kernel_rfl) (by kernel_rfl) (by kernel_rfl) (fun _ _ _ _ h => h) hS0 rfl ?_
  apply Exists.intro
  refine ⟨fun W hW => ?_, ?_⟩
  · have p2 := q2 W hW
    have p0 := q0 W hW
    have pl := ql W hW
    go_simp
    try rfl
  simp only [Act.put, List.setIfInBounds_toArray, List.set_cons_zero, List.set_cons_succ]
  refine h_take 1 rfl (by kernel_rfl) (by kernel_rfl) (by kernel_rfl) (fun _ _ _ _ h => h) hS0 rfl ?_
  apply Exists.intro
  refine ⟨fun W hW => ?_, ?_⟩
  · have p2 := q2 W hW
    have p0 := q0 W hW
    have pl := ql W hW
    go_simp
    try rfl
  simp only [Act.put, List.setIfInBounds_toArray, List.set_cons_zero, List.set_cons_succ]
  refine h_take 2 rfl (by kernel_rfl) (by kernel_rfl) (by kernel_rfl) (fun _ _ _ _ h => h) hS0 rfl ?_
  apply Exists.intro
  refine ⟨fun W hW => ?_, ?_⟩
  · have p2 := q2 W hW
    have p0 := q0 W hW
    have pl := ql W hW
    go_simp
    try rfl
  simp only [Act.put, List.setIfInBounds_toArray, List.set_cons_zero, List.set_cons_succ]
  refine h_take 3 rfl (by kernel_rfl) (by kernel_rfl) (by kernel_rfl) (fun _ _ _ _ h => h) hS0 rfl ?_
  apply Exists.intro
  refine ⟨fun W hW => ?_, ?_⟩
  · have p2 := q2 W hW
    have p0 := q0 W hW
    have pl := ql W hW
    go_simp
    try rfl
  simp only [Act.put, List.setIfInBounds_toArray, List.set_cons_zero, List.set_cons_succ]
  refine h_take 4 rfl (by kernel_rfl) (by kernel_rfl) (by kernel_rfl) (fun _ _ _ _ h => h) hS0 rfl ?_
  apply Exists.intro
  refine ⟨fun W hW => ?_, ?_⟩
  · have p2 := q2 W hW
    have p0 := q0 W hW
    have pl := ql W hW
    go_simp
    try rfl
  simp only [Act.put, List.setIfInBounds_toArray, List.set_cons_zero, List.set_cons_succ]
  refine h_take 5 rfl (by kernel_rfl) (by kernel_rfl) (by kernel_rfl) (fun _ _ _ _ h => h) hS0 rfl ?_
  apply Exists.intro
  refine ⟨fun W hW => ?_, ?_⟩
  · have p2 := q2 W hW
    have p0 := q0 W hW
    have pl := ql W hW
    go_simp
    try rfl
  simp only [Act.put, List.setIfInBounds_toArray, List.set_cons_zero, List.set_cons_succ]
  refine h_take 6 rfl (by kernel_rfl) (by kernel_rfl) (by kernel_rfl) (fun _ _ _ _ h => h) hS0 rfl ?_
  apply Exists.intro
  refine ⟨fun W hW => ?_, ?_⟩
  · have p2 := q2 W hW
    have p0 := q0 W hW
    have pl := ql W hW
    go_simp
    try rfl
  simp only [Act.put, List.setIfInBounds_toArray, List.set_cons_zero, List.set_cons_succ]
  refine h_take 7 rfl (by kernel_rfl) (by kernel_rfl) (by kernel_rfl) (fun _ _ _ _ h => h) hS0 rfl ?_
  apply Exists.intro
  refine ⟨fun W hW => ?_, ?_⟩
  · have p2 := q2 W hW
    have p0 := q0 W hW
    have pl := ql W hW
    go_simp
    try rfl
  simp only [Act.put, List.setIfInBounds_toArray, List.set_cons_zero, List.set_cons_succ]
  refine h_take 8 rfl (by kernel_rfl) (by kernel_rfl) (by kernel_rfl) (fun _ _ _ _ h => h) hS0 rfl ?_
  apply Exists.intro
  refine ⟨fun W hW => ?_, ?_⟩
  · have p2 := q2 W hW
    have p0 := q0 W hW
    have pl := ql W hW
    go_simp
    try rfl
  simp only [Act.put, List.setIfInBounds_toArray, List.set_cons_zero, List.set_cons_succ]
  refine h_take 9 rfl (by kernel_rfl) (by kernel_rfl) (by kernel_rfl) (fun _ _ _ _ h => h) hS0 rfl ?_
  apply Exists.intro
  refine ⟨fun W hW => ?_, ?_⟩
  · have p2 := q2 W hW
    have p0 := q0 W hW
    have pl := ql W hW
    go_simp
    try rfl
  simp only [Act.put, List.setIfInBounds_toArray, List.set_cons_zero, List.set_cons_succ]
  refine h_one 10 rfl (by kernel_rfl) rfl ?_
  refine op_val (by go_simp; exact ⟨rfl, rfl⟩) ?_
  refine ⟨by rw [hSe]; exact below_drew1 (below_alloc (Below.refl _ _) _), ?_⟩
  simp only [Act.put, List.setIfInBounds_toArray, List.set_cons_zero, List.set_cons_succ]
  refine h_one 11 rfl (by kernel_rfl) rfl ?_
  refine op_skip (w1 := (w1.alloc (.cells #[.string ⟨s.toArray⟩, .int .i64 l, .int .i64 na, .int .i64 nb] 96)).drew) (by go_simp) ?_
  refine ⟨by rw [hSe]; exact below_drew1 (below_alloc (Below.refl _ _) _), ?_⟩
  simp only [Act.put]
  refine h_one 12 rfl (by kernel_rfl) rfl ?_
  refine op_val (by go_simp; exact ⟨rfl, rfl⟩) ?_
  refine ⟨by rw [hSe]; exact below_drew1 (below_alloc (Below.refl _ _) _), ?_⟩
  simp only [Act.put, List.setIfInBounds_toArray, List.set_cons_zero, List.set_cons_succ]
  refine wpAnyH_done (by kernel_rfl) ?_ _
  have hwe : Below w1.heap.size w1 (w1.alloc (.cells #[.string ⟨s.toArray⟩, .int .i64 l, .int .i64 na, .int .i64 nb] 96)).drew := below_drew1 (below_alloc (Below.refl _ _) _)
  have hbn : ((w1.alloc (.cells #[.string ⟨s.toArray⟩, .int .i64 l, .int .i64 na, .int .i64 nb] 96)).drew).heap[w1.heap.size]? = some (.cells #[.string ⟨s.toArray⟩, .int .i64 l, .int .i64 na, .int .i64 nb] 96 (0, 0)) := blk_new w1 _
  generalize (w1.alloc (.cells #[.string ⟨s.toArray⟩, .int .i64 l, .int .i64 na, .int .i64 nb] 96)).drew = w2 at *
  have hbk2 := blk_below hbk1 hwe
  have hrbtwo : w1.heap.size ≠ b := by have := HW1.out.size; omega
  have HW2 := Aside0.mk (HW1.out.before hwe (by have := HW1.out.size; omega))
  generalize w1.heap.size = rtwo at *
  have hrwtwo2 := hbn
  clear q0 q2 ql hS0 hSe hwe kP hbk1 HW1 hbn
  go_wp2_with fail
  have hkid0 : ∀ W, Below w2.heap.size w2 W → Calls Tryd.prog 60 #[.agg #[.int .i64 x.f0, .string x.f1, .int .i64 x.f2, .slice A x.f3.length c, .int .i64 x.f4], .int .i64 0] W fun e w' => e = .returned (.agg cs0.toArray) ∧ Below w2.heap.size w2 w' := fun W hW => (HA0.out W (below_step (HW2.out.from_ HB0.out hB0) hW)).mono fun e w' h => ⟨h.1, below_step hW h.2⟩
  obtain ⟨C, hCe⟩ : ∃ C : World → Prop, C = fun W => Below w2.heap.size w2 W := ⟨_, rfl⟩
  have q0 : ∀ W, C W → W.cell? ⟨g, 0, none⟩ = some (.int .i64 x.f0) := fun W hW => by rw [hCe] at hW; exact blk_cell (blk_below hbk2 hW) 0
  have q1 : ∀ W, C W → W.cell? ⟨g, 1, none⟩ = some (.string x.f1) := fun W hW => by rw [hCe] at hW; exact blk_cell (blk_below hbk2 hW) 1
  have q2 : ∀ W, C W → W.cell? ⟨g, 2, none⟩ = some (.int .i64 x.f2) := fun W hW => by rw [hCe] at hW; exact blk_cell (blk_below hbk2 hW) 2
  have q3 : ∀ W, C W → W.cell? ⟨g, 3, none⟩ = some (.slice A x.f3.length c) := fun W hW => by rw [hCe] at hW; exact blk_cell (blk_below hbk2 hW) 3
  have q4 : ∀ W, C W → W.cell? ⟨g, 4, none⟩ = some (.int .i64 x.f4) := fun W hW => by rw [hCe] at hW; exact blk_cell (blk_below hbk2 hW) 4
  have q5 : ∀ W, C W → W.cell? ⟨rtwo, 2, none⟩ = some (.int .i64 na) := fun W hW => by rw [hCe] at hW; exact blk_cell (blk_below hrwtwo2 hW) 2
  refine wp_quiet_tail C 6 (by kernel_rfl) (by kernel_rfl) (by rw [hCe]; exact below_drew1 (Below.refl _ _)) ?_
  simp only [List.take_succ_cons, List.take_zero, List.drop_succ_cons, List.drop_zero]
  refine q_ex rfl ?_
  apply Exists.intro
  refine ⟨fun W hW => ?_, ?_⟩
  · skip
    have p0 := q0 W hW
    have p1 := q1 W hW
    have p2 := q2 W hW
    have p3 := q3 W hW
    have p4 := q4 W hW
    have p5 := q5 W hW
    go_simp
    try rfl
  simp only [Act.put, List.setIfInBounds_toArray, List.set_cons_zero, List.set_cons_succ]
  refine q_ex rfl ?_
  apply Exists.intro
  refine ⟨fun W hW => ?_, ?_⟩
  · skip
    have p0 := q0 W hW
    have p1 := q1 W hW
    have p2 := q2 W hW
    have p3 := q3 W hW
    have p4 := q4 W hW
    have p5 := q5 W hW
    go_simp
    try rfl
  simp only [Act.put, List.setIfInBounds_toArray, List.set_cons_zero, List.set_cons_succ]
  refine q_call rfl (fun W hW => by go_simp; exact ⟨rfl, rfl⟩) (fun W hW => (by subst hCe; exact hkid0 W hW)) ?_
  simp only [Act.put, List.setIfInBounds_toArray, List.set_cons_zero, List.set_cons_succ]
  refine q_ex rfl ?_
  apply Exists.intro
  refine ⟨fun W hW => ?_, ?_⟩
  · skip
    have p0 := q0 W hW
    have p1 := q1 W hW
    have p2 := q2 W hW
    have p3 := q3 W hW
    have p4 := q4 W hW
    have p5 := q5 W hW
    go_simp
    try rfl
  simp only [Act.put, List.setIfInBounds_toArray, List.set_cons_zero, List.set_cons_succ]
  refine q_ex rfl ?_
  apply Exists.intro
  refine ⟨fun W hW => ?_, ?_⟩
  · skip
    have p0 := q0 W hW
    have p1 := q1 W hW
    have p2 := q2 W hW
    have p3 := q3 W hW
    have p4 := q4 W hW
    have p5 := q5 W hW
    go_simp
    try rfl
  simp only [Act.put, List.setIfInBounds_toArray, List.set_cons_zero, List.set_cons_succ]
  refine q_ex rfl ?_
  apply Exists.intro
  refine ⟨fun W hW => ?_, ?_⟩
  · skip
    have p0 := q0 W hW
    have p1 := q1 W hW
    have p2 := q2 W hW
    have p3 := q3 W hW
    have p4 := q4 W hW
    have p5 := q5 W hW
    go_simp
    try rfl
  simp only [Act.put, List.setIfInBounds_toArray, List.set_cons_zero, List.set_cons_succ]
  intro W hW
  have hWb := hW
  rw [hCe] at hWb
  clear hW q0 q1 q2 q3 q4 q5
  clear hCe hkid0
  have HW3 := Aside0.mk (HW2.out.before hWb (by have := HW2.out.size; omega))
  have hbk3 := blk_below hbk2 hWb
  have hrwtwo3 := blk_below hrwtwo2 hWb
  clear hWb HW2 hbk2 hrwtwo2
  go_wp2_with fail
  refine (H0.out w0 B b m2 m1 _ W _ na false HC0.out ?a1 hB0 HT.out HW3.out.1 ?b2).mono ?_
  case a1 => exact HW3.out.from_ HB0.out hB0
  case b2 => have := HL.out; simp only [List.length_append, List.length_cons, List.length_nil, data_length] at this ⊢; omega
  rintro e w4 ⟨rfl, hw4⟩
  have hbk4 := hw4.blk hbk3 hgb (by decide)
  have hrwtwo4 := hw4.blk hrwtwo3 hrbtwo (by decide)
  have HW4 := Aside0.mk (HW3.out.trans hw4)
  clear hw4 HW3 hbk3 hrwtwo3 
  go_wp2_with fail
  obtain ⟨C, hCe⟩ : ∃ C : World → Prop, C = fun W => Below w4.heap.size w4 W := ⟨_, rfl⟩
  have q0 : ∀ W, C W → W.cell? ⟨rtwo, 0, none⟩ = some (.string ⟨s.toArray⟩) := fun W hW => by rw [hCe] at hW; exact blk_cell (blk_below hrwtwo4 hW) 0
  refine wp_quiet_tail C 5 (by kernel_rfl) (by kernel_rfl) (by rw [hCe]; exact below_drew1 (Below.refl _ _)) ?_
  simp only [List.take_succ_cons, List.take_zero, List.drop_succ_cons, List.drop_zero]
  refine q_ex rfl ?_
  apply Exists.intro
  refine ⟨fun W hW => ?_, ?_⟩
  · skip
    have p0 := q0 W hW
    go_simp
    try rfl
  simp only [Act.put, List.setIfInBounds_toArray, List.set_cons_zero, List.set_cons_succ]
  refine q_ex rfl ?_
  apply Exists.intro
  refine ⟨fun W hW => ?_, ?_⟩
  · skip
    have p0 := q0 W hW
    go_simp
    try rfl
  simp only [Act.put, List.setIfInBounds_toArray, List.set_cons_zero, List.set_cons_succ]
  refine q_ex rfl ?_
  apply Exists.intro
  refine ⟨fun W hW => ?_, ?_⟩
  · skip
    have p0 := q0 W hW
    go_simp
    try rfl
  simp only [Act.put, List.setIfInBounds_toArray, List.set_cons_zero, List.set_cons_succ]
  refine q_ex rfl ?_
  apply Exists.intro
  refine ⟨fun W hW => ?_, ?_⟩
  · skip
    have p0 := q0 W hW
    go_simp
    try rfl
  simp only [Act.put, List.setIfInBounds_toArray, List.set_cons_zero, List.set_cons_succ]
  refine q_ex rfl ?_
  apply Exists.intro
  refine ⟨fun W hW => ?_, ?_⟩
  · skip
    have p0 := q0 W hW
    go_simp
    try rfl
  simp only [Act.put, List.setIfInBounds_toArray, List.set_cons_zero, List.set_cons_succ]
  intro W hW
  have hWb := hW
  rw [hCe] at hWb
  clear hW q0
  clear hCe
  have HW5 := Aside0.mk (HW4.out.before hWb (by have := HW4.out.size; omega))
  have hbk5 := blk_below hbk4 hWb
  have hrwtwo5 := blk_below hrwtwo4 hWb
  clear hWb HW4 hbk4 hrwtwo4
  go_wp2_with fail
  refine (writeL_walk B b m2 m1 _ s _ HW5.out.1 ?a3 ?b4).mono ?_
  case a3 => have := HL.out; simp only [List.length_append, List.length_cons, List.length_nil, data_length] at this ⊢; omega
  case b4 => have := HW5.out.size; omega
  rintro e w6 ⟨rfl, hw6⟩
  have hbk6 := hw6.blk hbk5 hgb (by decide)
  have hrwtwo6 := hw6.blk hrwtwo5 hrbtwo (by decide)
  have HW6 := Aside0.mk (HW5.out.trans hw6)
  clear hw6 HW5 hbk5 hrwtwo5 
  go_wp2_with fail
  have hkid1 : ∀ W, Below w6.heap.size w6 W → Calls Tryd.prog 60 #[.agg #[.int .i64 x.f0, .string x.f1, .int .i64 x.f2, .slice A x.f3.length c, .int .i64 x.f4], .int .i64 1] W fun e w' => e = .returned (.agg cs1.toArray) ∧ Below w6.heap.size w6 w' := fun W hW => (HA1.out W (below_step (HW6.out.from_ HB0.out hB0) hW)).mono fun e w' h => ⟨h.1, below_step hW h.2⟩
  obtain ⟨C, hCe⟩ : ∃ C : World → Prop, C = fun W => Below w6.heap.size w6 W := ⟨_, rfl⟩
  have q0 : ∀ W, C W → W.cell? ⟨g, 0, none⟩ = some (.int .i64 x.f0) := fun W hW => by rw [hCe] at hW; exact blk_cell (blk_below hbk6 hW) 0
  have q1 : ∀ W, C W → W.cell? ⟨g, 1, none⟩ = some (.string x.f1) := fun W hW => by rw [hCe] at hW; exact blk_cell (blk_below hbk6 hW) 1
  have q2 : ∀ W, C W → W.cell? ⟨g, 2, none⟩ = some (.int .i64 x.f2) := fun W hW => by rw [hCe] at hW; exact blk_cell (blk_below hbk6 hW) 2
  have q3 : ∀ W, C W → W.cell? ⟨g, 3, none⟩ = some (.slice A x.f3.length c) := fun W hW => by rw [hCe] at hW; exact blk_cell (blk_below hbk6 hW) 3
  have q4 : ∀ W, C W → W.cell? ⟨g, 4, none⟩ = some (.int .i64 x.f4) := fun W hW => by rw [hCe] at hW; exact blk_cell (blk_below hbk6 hW) 4
  have q5 : ∀ W, C W → W.cell? ⟨rtwo, 3, none⟩ = some (.int .i64 nb) := fun W hW => by rw [hCe] at hW; exact blk_cell (blk_below hrwtwo6 hW) 3
  refine wp_quiet_tail C 7 (by kernel_rfl) (by kernel_rfl) (by rw [hCe]; exact below_drew1 (Below.refl _ _)) ?_
  simp only [List.take_succ_cons, List.take_zero, List.drop_succ_cons, List.drop_zero]
  refine q_ex rfl ?_
  apply Exists.intro
  refine ⟨fun W hW => ?_, ?_⟩
  · skip
    have p0 := q0 W hW
    have p1 := q1 W hW
    have p2 := q2 W hW
    have p3 := q3 W hW
    have p4 := q4 W hW
    have p5 := q5 W hW
    go_simp
    try rfl
  simp only [Act.put, List.setIfInBounds_toArray, List.set_cons_zero, List.set_cons_succ]
  refine q_ex rfl ?_
  apply Exists.intro
  refine ⟨fun W hW => ?_, ?_⟩
  · skip
    have p0 := q0 W hW
    have p1 := q1 W hW
    have p2 := q2 W hW
    have p3 := q3 W hW
    have p4 := q4 W hW
    have p5 := q5 W hW
    go_simp
    try rfl
  simp only [Act.put, List.setIfInBounds_toArray, List.set_cons_zero, List.set_cons_succ]
  refine q_call rfl (fun W hW => by go_simp; exact ⟨rfl, rfl⟩) (fun W hW => (by subst hCe; exact hkid1 W hW)) ?_
  simp only [Act.put, List.setIfInBounds_toArray, List.set_cons_zero, List.set_cons_succ]
  refine q_ex rfl ?_
  apply Exists.intro
  refine ⟨fun W hW => ?_, ?_⟩
  · skip
    have p0 := q0 W hW
    have p1 := q1 W hW
    have p2 := q2 W hW
    have p3 := q3 W hW
    have p4 := q4 W hW
    have p5 := q5 W hW
    go_simp
    try rfl
  simp only [Act.put, List.setIfInBounds_toArray, List.set_cons_zero, List.set_cons_succ]
  refine q_ex rfl ?_
  apply Exists.intro
  refine ⟨fun W hW => ?_, ?_⟩
  · skip
    have p0 := q0 W hW
    have p1 := q1 W hW
    have p2 := q2 W hW
    have p3 := q3 W hW
    have p4 := q4 W hW
    have p5 := q5 W hW
    go_simp
    try rfl
  simp only [Act.put, List.setIfInBounds_toArray, List.set_cons_zero, List.set_cons_succ]
  refine q_ex rfl ?_
  apply Exists.intro
  refine ⟨fun W hW => ?_, ?_⟩
  · skip
    have p0 := q0 W hW
    have p1 := q1 W hW
    have p2 := q2 W hW
    have p3 := q3 W hW
    have p4 := q4 W hW
    have p5 := q5 W hW
    go_simp
    try rfl
  simp only [Act.put, List.setIfInBounds_toArray, List.set_cons_zero, List.set_cons_succ]
  refine q_ex rfl ?_
  apply Exists.intro
  refine ⟨fun W hW => ?_, ?_⟩
  · skip
    have p0 := q0 W hW
    have p1 := q1 W hW
    have p2 := q2 W hW
    have p3 := q3 W hW
    have p4 := q4 W hW
    have p5 := q5 W hW
    go_simp
    try rfl
  simp only [Act.put, List.setIfInBounds_toArray, List.set_cons_zero, List.set_cons_succ]
  intro W hW
  have hWb := hW
  rw [hCe] at hWb
  clear hW q0 q1 q2 q3 q4 q5
  clear hCe hkid1
  have HW7 := Aside0.mk (HW6.out.before hWb (by have := HW6.out.size; omega))
  have hbk7 := blk_below hbk6 hWb
  have hrwtwo7 := blk_below hrwtwo6 hWb
  clear hWb HW6 hbk6 hrwtwo6
  go_wp2_with fail
  refine (H1.out w0 B b m2 m1 _ W _ nb fin HC1.out ?a5 hB0 HT.out HW7.out.1 ?b6).mono ?_
  case a5 => exact HW7.out.from_ HB0.out hB0
  case b6 => have := HL.out; simp only [List.length_append, List.length_cons, List.length_nil, data_length] at this ⊢; omega
  rintro e w8 ⟨rfl, hw8⟩
  have hbk8 := hw8.blk hbk7 hgb (by decide)
  have hrwtwo8 := hw8.blk hrwtwo7 hrbtwo (by decide)
  have HW8 := Aside0.mk (HW7.out.trans hw8)
  clear hw8 HW7 hbk7 hrwtwo7 
  go_wp2_with fail
  refine bodyPost_ret (results_none rfl _ _ _) rfl ?_
  exact ⟨rfl, HW8.out⟩
end Go.Proofs.YtgdiodhaihmnbaaDoor.Own
namespace Go.Proofs.YtgdiodhaihmnbaaDoor.Own
open Go.RowKit Go.Proofs.YtgdiodhaihmnbaaDoorW.PrintWords Go.Proofs.YtgdiodhaihmnbaaDoorW.PrintLast Go.Proofs.YtgdiodhaihmnbaaDoorW.PrintMore Go.Proofs.YtgdiodhaihmnbaaDoor.PPrinterMatchesReference
set_option maxHeartbeats 4000000 in
set_option maxRecDepth 100000 in
theorem node_pre (x : S24) (s : List UInt8) (l na nb : Int) (hbn : atT x.f0 binT = none) (hb : atT x.f0 preT = some (s, l, na, nb)) (h0 : OprC (x.f3.getD 0 z24)) (hna : na ≤ 15) : NodeC x := by
  intro w0 B b m2 m1 bs w cs fin hx hb0 hB0 ht hP hlen
  obtain ⟨A, c, rfl, hlc, hA⟩ := k24_open hx
  have HX := Aside0.mk hx
  have HA := Aside0.mk hA
  have HP := Aside0.mk hP
  have HT := Aside0.mk ht
  have HB0 := Aside0.mk hb0
  have hlt := hP.lt
  have hlow := hP.low
  have hu24 := Tryd.underlying24
  have hu96 := Tryd.underlying96
  have htx : txt x fin = s ++ opr (x.f3.getD 0 z24) na fin := by rw [txt_def, hbn, hb]; simp only; rw [opd_rd _ _ _ _ hna]
  rw [htx] at hlen ⊢
  have HL := Aside0.mk hlen
  have HQtwo := Aside0.mk hbn
  have HQone := Aside0.mk hb
  have H0 := Aside0.mk h0
  obtain ⟨cs0, hk0, hc0⟩ := kid_all x 0 (by omega) w0 _ hx
  have HC0 := Aside0.mk hk0
  have HA0 := Aside0.mk hc0
  clear hk0 hc0
  have hass : bs ++ (s ++ opr (x.f3.getD 0 z24) na fin) = (bs ++ s) ++ opr (x.f3.getD 0 z24) na fin := by simp
  rw [hass]
  clear hx hP ht hb0 hA hlc htx hlen hb hbn h0 hass
  go_enter Tryd.func38, Tryd.ntmps38
  go_wp2_with ((with_reducible refine gate_dst (N := 4) rfl ?_); refine box_event rfl (N := 4) rfl (cs := #[.int .i64 x.f0, .string x.f1, .int .i64 x.f2, .slice A x.f3.length c, .int .i64 x.f4]) (t := 24) (by first | (go_simp; done) | (go_simp; rfl)) ?_; intro g hg w1 hbk1 hb1; have HG := Aside0.mk hg; clear hg)
  have HW1 := Aside0.mk (show Wrote B b m2 m1 bs w w1 from ⟨HP.out.below hb1, hb1.mono (by omega), fun i o hi _ _ => (hb1.block i (blk_lt hi)).trans hi⟩)
  have hgb : g ≠ b := by have := HG.out; omega
  clear hb1
  obtain ⟨S, hSe⟩ : ∃ S : World → Prop, S = fun W => Below w1.heap.size w1 W := ⟨_, rfl⟩
  obtain ⟨p, v, kP⟩ := HW1.out.1
  have q2 : ∀ W, S W → W.cell? ⟨b, 2, none⟩ = some (.map (some m2)) := fun W hW => by rw [hSe] at hW; exact blk_cell (blk_below kP.blk hW) 2
  have q0 : ∀ W, S W → W.cell? ⟨g, 0, none⟩ = some (.int .i64 x.f0) := fun W hW => by rw [hSe] at hW; exact blk_cell (blk_below hbk1 hW) 0
  have ql : ∀ W, S W → (Instr.lookup 73 (.map (some m2)) (.int .i64 x.f0) true).run Tryd.prog W = .ok (.tuple #[.agg #[.string ⟨#[]⟩, .int .i64 0, .int .i64 0, .int .i64 0], .bool false]) W := fun W hW => by
    rw [hSe] at hW
    rw [look_tab W m2 binT 17 (kP.below hW).two, HQtwo.out]
    rfl
  have hS0 : S w1.drew := by rw [hSe]; exact below_drew1 (Below.refl _ _)
  refine wp_region_held_drew (S := S) (by kernel_rfl) hS0 (fun _ => ?_)
  refine h_take 0 rfl (by kernel_rfl) (by kernel_rfl) (by kernel_rfl) (fun _ _ _ _ h => h) hS0 rfl ?_
  apply Exists.intro
  refine ⟨fun W hW => ?_, ?_⟩
  · have p2 := q2 W hW
    have p0 := q0 W hW
    have pl := ql W hW
    go_simp
    try rfl
  simp only [Act.put, List.setIfInBounds_toArray, List.set_cons_zero, List.set_cons_succ]
  refine h_take 1 rfl (by kernel_rfl) (by kernel_rfl) (by kernel_rfl) (fun _ _ _ _ h => h) hS0 rfl ?_
  apply Exists.intro
  refine ⟨fun W hW => ?_, ?_⟩
  · have p2 := q2 W hW
    have p0 := q0 W hW
    have pl := ql W hW
    go_simp
    try rfl
  simp only [Act.put, List.setIfInBounds_toArray, List.set_cons_zero, List.set_cons_succ]
  refine h_take 2 rfl (by kernel_rfl) (by kernel_rfl) (by kernel_rfl) (fun _ _ _ _ h => h) hS0 rfl ?_
  apply Exists.intro
  refine ⟨fun W hW => ?_, ?_⟩
  · have p2 := q2 W hW
    have p0 := q0 W hW
    have pl := ql W hW
    go_simp
    try rfl
  simp only [Act.put, List.setIfInBounds_toArray, List.set_cons_zero, List.set_cons_succ]
  refine h_take 3 rfl (by kernel_rfl) (by kernel_rfl) (by kernel_rfl) (fun _ _ _ _ h => h) hS0 rfl ?_
  apply Exists.intro
  refine ⟨fun W hW => ?_, ?_⟩
  · have p2 := q2 W hW
    have p0 := q0 W hW
    have pl := ql W hW
    go_simp
    try rfl
  simp only [Act.put, List.setIfInBounds_toArray, List.set_cons_zero, List.set_cons_succ]
  refine h_take 4 rfl (by kernel_rfl) (by kernel_rfl) (by kernel_rfl) (fun _ _ _ _ h => h) hS0 rfl ?_
  apply Exists.intro
  refine ⟨fun W hW => ?_, ?_⟩
  · have p2 := q2 W hW
    have p0 := q0 W hW
    have pl := ql W hW
    go_simp
    try rfl
  simp only [Act.put, List.setIfInBounds_toArray, List.set_cons_zero, List.set_cons_succ]
  refine h_take 5 rfl (by kernel_rfl) (by kernel_rfl) (by kernel_rfl) (fun _ _ _ _ h => h) hS0 rfl ?_
  apply Exists.intro
  refine ⟨fun W hW => ?_, ?_⟩
  · have p2 := q2 W hW
    have p0 := q0 W hW
    have pl := ql W hW
    go_simp
    try rfl
  simp only [Act.put, List.setIfInBounds_toArray, List.set_cons_zero, List.set_cons_succ]
  refine h_take 6 rfl (by kernel_rfl) (by kernel_rfl) (by kernel_rfl) (fun _ _ _ _ h => h) hS0 rfl ?_
  apply Exists.intro
  refine ⟨fun W hW => ?_, ?_⟩
  · have p2 := q2 W hW
    have p0 := q0 W hW
    have pl := ql W hW
    go_simp
    try rfl
  simp only [Act.put, List.setIfInBounds_toArray, List.set_cons_zero, List.set_cons_succ]
  refine h_take 7 rfl (by kernel_rfl) (by kernel_rfl) (by kernel_rfl) (fun _ _ _ _ h => h) hS0 rfl ?_
  apply Exists.intro
  refine ⟨fun W hW => ?_, ?_⟩
  · have p2 := q2 W hW
    have p0 := q0 W hW
    have pl := ql W hW
    go_simp
    try rfl
  simp only [Act.put, List.setIfInBounds_toArray, List.set_cons_zero, List.set_cons_succ]
  refine h_take 8 rfl (by kernel_rfl) (by kernel_rfl) (by kernel_rfl) (fun _ _ _ _ h => h) hS0 rfl ?_
  apply Exists.intro
  refine ⟨fun W hW => ?_, ?_⟩
  · have p2 := q2 W hW
    have p0 := q0 W hW
    have pl := ql W hW
    go_simp
    try rfl
  simp only [Act.put, List.setIfInBounds_toArray, List.set_cons_zero, List.set_cons_succ]
  refine h_take 9 rfl (by kernel_rfl) (by kernel_rfl) (by kernel_rfl) (fun _ _ _ _ h => h) hS0 rfl ?_
  apply Exists.intro
  refine ⟨fun W hW => ?_, ?_⟩
  · have p2 := q2 W hW
    have p0 := q0 W hW
    have pl := ql W hW
    go_simp
    try rfl
  simp only [Act.put, List.setIfInBounds_toArray, List.set_cons_zero, List.set_cons_succ]
  refine h_one 10 rfl (by kernel_rfl) rfl ?_
  refine op_val (by go_simp; exact ⟨rfl, rfl⟩) ?_
  refine ⟨by rw [hSe]; exact below_drew1 (below_alloc (Below.refl _ _) _), ?_⟩
  simp only [Act.put, List.setIfInBounds_toArray, List.set_cons_zero, List.set_cons_succ]
  refine h_one 11 rfl (by kernel_rfl) rfl ?_
  refine op_skip (w1 := (w1.alloc (.cells #[.string ⟨#[]⟩, .int .i64 0, .int .i64 0, .int .i64 0] 96)).drew) (by go_simp) ?_
  refine ⟨by rw [hSe]; exact below_drew1 (below_alloc (Below.refl _ _) _), ?_⟩
  simp only [Act.put]
  refine h_one 12 rfl (by kernel_rfl) rfl ?_
  refine op_val (by go_simp; exact ⟨rfl, rfl⟩) ?_
  refine ⟨by rw [hSe]; exact below_drew1 (below_alloc (Below.refl _ _) _), ?_⟩
  simp only [Act.put, List.setIfInBounds_toArray, List.set_cons_zero, List.set_cons_succ]
  refine wpAnyH_done (by kernel_rfl) ?_ _
  have hwe : Below w1.heap.size w1 (w1.alloc (.cells #[.string ⟨#[]⟩, .int .i64 0, .int .i64 0, .int .i64 0] 96)).drew := below_drew1 (below_alloc (Below.refl _ _) _)
  have hbn : ((w1.alloc (.cells #[.string ⟨#[]⟩, .int .i64 0, .int .i64 0, .int .i64 0] 96)).drew).heap[w1.heap.size]? = some (.cells #[.string ⟨#[]⟩, .int .i64 0, .int .i64 0, .int .i64 0] 96 (0, 0)) := blk_new w1 _
  generalize (w1.alloc (.cells #[.string ⟨#[]⟩, .int .i64 0, .int .i64 0, .int .i64 0] 96)).drew = w2 at *
  have hbk2 := blk_below hbk1 hwe
  have hrbtwo : w1.heap.size ≠ b := by have := HW1.out.size; omega
  have HW2 := Aside0.mk (HW1.out.before hwe (by have := HW1.out.size; omega))
  generalize w1.heap.size = rtwo at *
  have hrwtwo2 := hbn
  clear q0 q2 ql hS0 hSe hwe kP hbk1 HW1 hbn
  clear hrwtwo2 hrbtwo
  go_wp2_with fail
  obtain ⟨S, hSe⟩ : ∃ S : World → Prop, S = fun W => Below w2.heap.size w2 W := ⟨_, rfl⟩
  obtain ⟨p, v, kP⟩ := HW2.out.1
  have q2 : ∀ W, S W → W.cell? ⟨b, 3, none⟩ = some (.map (some m1)) := fun W hW => by rw [hSe] at hW; exact blk_cell (blk_below kP.blk hW) 3
  have q0 : ∀ W, S W → W.cell? ⟨g, 0, none⟩ = some (.int .i64 x.f0) := fun W hW => by rw [hSe] at hW; exact blk_cell (blk_below hbk2 hW) 0
  have ql : ∀ W, S W → (Instr.lookup 73 (.map (some m1)) (.int .i64 x.f0) true).run Tryd.prog W = .ok (.tuple #[.agg #[.string ⟨s.toArray⟩, .int .i64 l, .int .i64 na, .int .i64 nb], .bool true]) W := fun W hW => by
    rw [hSe] at hW
    rw [look_tab W m1 preT 12 (kP.below hW).one, HQone.out]
    rfl
  have hS0 : S w2.drew := by rw [hSe]; exact below_drew1 (Below.refl _ _)
  refine wp_region_held_drew (S := S) (by kernel_rfl) hS0 (fun _ => ?_)
  refine h_take 0 rfl (by kernel_rfl) (by kernel_rfl) (by kernel_rfl) (fun _ _ _ _ h => h) hS0 rfl ?_
  apply Exists.intro
  refine ⟨fun W hW => ?_, ?_⟩
  · have p2 := q2 W hW
    have p0 := q0 W hW
    have pl := ql W hW
    go_simp
    try rfl
  simp only [Act.put, List.setIfInBounds_toArray, List.set_cons_zero, List.set_cons_succ]
  refine h_take 1 rfl (by kernel_rfl) (by kernel_rfl) (by kernel_rfl) (fun _ _ _ _ h => h) hS0 rfl ?_
  apply Exists.intro
  refine ⟨fun W hW => ?_, ?_⟩
  · have p2 := q2 W hW
    have p0 := q0 W hW
    have pl := ql W hW
    go_simp
    try rfl
  simp only [Act.put, List.setIfInBounds_toArray, List.set_cons_zero, List.set_cons_succ]
  refine h_take 2 rfl (by kernel_rfl) (by kernel_rfl) (by kernel_rfl) (fun _ _ _ _ h => h) hS0 rfl ?_
  apply Exists.intro
  refine ⟨fun W hW => ?_, ?_⟩
  · have p2 := q2 W hW
    have p0 := q0 W hW
    have pl := ql W hW
    go_simp
    try rfl
  simp only [Act.put, List.setIfInBounds_toArray, List.set_cons_zero, List.set_cons_succ]
  refine h_take 3 rfl (by kernel_rfl) (by kernel_rfl) (by kernel_rfl) (fun _ _ _ _ h => h) hS0 rfl ?_
  apply Exists.intro
  refine ⟨fun W hW => ?_, ?_⟩
  · have p2 := q2 W hW
    have p0 := q0 W hW
    have pl := ql W hW
    go_simp
    try rfl
  simp only [Act.put, List.setIfInBounds_toArray, List.set_cons_zero, List.set_cons_succ]
  refine h_take 4 rfl (by kernel_rfl) (by kernel_rfl) (by kernel_rfl) (fun _ _ _ _ h => h) hS0 rfl ?_
  apply Exists.intro
  refine ⟨fun W hW => ?_, ?_⟩
  · have p2 := q2 W hW
    have p0 := q0 W hW
    have pl := ql W hW
    go_simp
    try rfl
  simp only [Act.put, List.setIfInBounds_toArray, List.set_cons_zero, List.set_cons_succ]
  refine h_take 5 rfl (by kernel_rfl) (by kernel_rfl) (by kernel_rfl) (fun _ _ _ _ h => h) hS0 rfl ?_
  apply Exists.intro
  refine ⟨fun W hW => ?_, ?_⟩
  · have p2 := q2 W hW
    have p0 := q0 W hW
    have pl := ql W hW
    go_simp
    try rfl
  simp only [Act.put, List.setIfInBounds_toArray, List.set_cons_zero, List.set_cons_succ]
  refine h_take 6 rfl (by kernel_rfl) (by kernel_rfl) (by kernel_rfl) (fun _ _ _ _ h => h) hS0 rfl ?_
  apply Exists.intro
  refine ⟨fun W hW => ?_, ?_⟩
  · have p2 := q2 W hW
    have p0 := q0 W hW
    have pl := ql W hW
    go_simp
    try rfl
  simp only [Act.put, List.setIfInBounds_toArray, List.set_cons_zero, List.set_cons_succ]
  refine h_take 7 rfl (by kernel_rfl) (by kernel_rfl) (by kernel_rfl) (fun _ _ _ _ h => h) hS0 rfl ?_
  apply Exists.intro
  refine ⟨fun W hW => ?_, ?_⟩
  · have p2 := q2 W hW
    have p0 := q0 W hW
    have pl := ql W hW
    go_simp
    try rfl
  simp only [Act.put, List.setIfInBounds_toArray, List.set_cons_zero, List.set_cons_succ]
  refine h_take 8 rfl (by kernel_rfl) (by kernel_rfl) (by kernel_rfl) (fun _ _ _ _ h => h) hS0 rfl ?_
  apply Exists.intro
  refine ⟨fun W hW => ?_, ?_⟩
  · have p2 := q2 W hW
    have p0 := q0 W hW
    have pl := ql W hW
    go_simp
    try rfl
  simp only [Act.put, List.setIfInBounds_toArray, List.set_cons_zero, List.set_cons_succ]
  refine h_take 9 rfl (by kernel_rfl) (by kernel_rfl) (by kernel_rfl) (fun _ _ _ _ h => h) hS0 rfl ?_
  apply Exists.intro
  refine ⟨fun W hW => ?_, ?_⟩
  · have p2 := q2 W hW
    have p0 := q0 W hW
    have pl := ql W hW
    go_simp
    try rfl
  simp only [Act.put, List.setIfInBounds_toArray, List.set_cons_zero, List.set_cons_succ]
  refine h_one 10 rfl (by kernel_rfl) rfl ?_
  refine op_val (by go_simp; exact ⟨rfl, rfl⟩) ?_
  refine ⟨by rw [hSe]; exact below_drew1 (below_alloc (Below.refl _ _) _), ?_⟩
  simp only [Act.put, List.setIfInBounds_toArray, List.set_cons_zero, List.set_cons_succ]
  refine h_one 11 rfl (by kernel_rfl) rfl ?_
  refine op_skip (w1 := (w2.alloc (.cells #[.string ⟨s.toArray⟩, .int .i64 l, .int .i64 na, .int .i64 nb] 96)).drew) (by go_simp) ?_
  refine ⟨by rw [hSe]; exact below_drew1 (below_alloc (Below.refl _ _) _), ?_⟩
  simp only [Act.put]
  refine h_one 12 rfl (by kernel_rfl) rfl ?_
  refine op_val (by go_simp; exact ⟨rfl, rfl⟩) ?_
  refine ⟨by rw [hSe]; exact below_drew1 (below_alloc (Below.refl _ _) _), ?_⟩
  simp only [Act.put, List.setIfInBounds_toArray, List.set_cons_zero, List.set_cons_succ]
  refine wpAnyH_done (by kernel_rfl) ?_ _
  have hwe : Below w2.heap.size w2 (w2.alloc (.cells #[.string ⟨s.toArray⟩, .int .i64 l, .int .i64 na, .int .i64 nb] 96)).drew := below_drew1 (below_alloc (Below.refl _ _) _)
  have hbn : ((w2.alloc (.cells #[.string ⟨s.toArray⟩, .int .i64 l, .int .i64 na, .int .i64 nb] 96)).drew).heap[w2.heap.size]? = some (.cells #[.string ⟨s.toArray⟩, .int .i64 l, .int .i64 na, .int .i64 nb] 96 (0, 0)) := blk_new w2 _
  generalize (w2.alloc (.cells #[.string ⟨s.toArray⟩, .int .i64 l, .int .i64 na, .int .i64 nb] 96)).drew = w3 at *
  have hbk3 := blk_below hbk2 hwe
  have hrbone : w2.heap.size ≠ b := by have := HW2.out.size; omega
  have HW3 := Aside0.mk (HW2.out.before hwe (by have := HW2.out.size; omega))
  generalize w2.heap.size = rone at *
  have hrwone3 := hbn
  clear q0 q2 ql hS0 hSe hwe kP hbk2 HW2 hbn
  go_wp2_with fail
  obtain ⟨C, hCe⟩ : ∃ C : World → Prop, C = fun W => Below w3.heap.size w3 W := ⟨_, rfl⟩
  have q0 : ∀ W, C W → W.cell? ⟨rone, 0, none⟩ = some (.string ⟨s.toArray⟩) := fun W hW => by rw [hCe] at hW; exact blk_cell (blk_below hrwone3 hW) 0
  refine wp_quiet_tail C 5 (by kernel_rfl) (by kernel_rfl) (by rw [hCe]; exact below_drew1 (Below.refl _ _)) ?_
  simp only [List.take_succ_cons, List.take_zero, List.drop_succ_cons, List.drop_zero]
  refine q_ex rfl ?_
  apply Exists.intro
  refine ⟨fun W hW => ?_, ?_⟩
  · skip
    have p0 := q0 W hW
    go_simp
    try rfl
  simp only [Act.put, List.setIfInBounds_toArray, List.set_cons_zero, List.set_cons_succ]
  refine q_ex rfl ?_
  apply Exists.intro
  refine ⟨fun W hW => ?_, ?_⟩
  · skip
    have p0 := q0 W hW
    go_simp
    try rfl
  simp only [Act.put, List.setIfInBounds_toArray, List.set_cons_zero, List.set_cons_succ]
  refine q_ex rfl ?_
  apply Exists.intro
  refine ⟨fun W hW => ?_, ?_⟩
  · skip
    have p0 := q0 W hW
    go_simp
    try rfl
  simp only [Act.put, List.setIfInBounds_toArray, List.set_cons_zero, List.set_cons_succ]
  refine q_ex rfl ?_
  apply Exists.intro
  refine ⟨fun W hW => ?_, ?_⟩
  · skip
    have p0 := q0 W hW
    go_simp
    try rfl
  simp only [Act.put, List.setIfInBounds_toArray, List.set_cons_zero, List.set_cons_succ]
  refine q_ex rfl ?_
  apply Exists.intro
  refine ⟨fun W hW => ?_, ?_⟩
  · skip
    have p0 := q0 W hW
    go_simp
    try rfl
  simp only [Act.put, List.setIfInBounds_toArray, List.set_cons_zero, List.set_cons_succ]
  intro W hW
  have hWb := hW
  rw [hCe] at hWb
  clear hW q0
  clear hCe
  have HW4 := Aside0.mk (HW3.out.before hWb (by have := HW3.out.size; omega))
  have hbk4 := blk_below hbk3 hWb
  have hrwone4 := blk_below hrwone3 hWb
  clear hWb HW3 hbk3 hrwone3
  go_wp2_with fail
  refine (writeL_walk B b m2 m1 _ s _ HW4.out.1 ?a1 ?b2).mono ?_
  case a1 => have := HL.out; (try simp only [List.length_append, List.length_cons, List.length_nil, data_length] at this ⊢); omega
  case b2 => have := HW4.out.size; omega
  rintro e w5 ⟨rfl, hw5⟩
  have hbk5 := hw5.blk hbk4 hgb (by decide)
  have hrwone5 := hw5.blk hrwone4 hrbone (by decide)
  have HW5 := Aside0.mk (HW4.out.trans hw5)
  clear hw5 HW4 hbk4 hrwone4 
  go_wp2_with fail
  have hkid0 : ∀ W, Below w5.heap.size w5 W → Calls Tryd.prog 60 #[.agg #[.int .i64 x.f0, .string x.f1, .int .i64 x.f2, .slice A x.f3.length c, .int .i64 x.f4], .int .i64 0] W fun e w' => e = .returned (.agg cs0.toArray) ∧ Below w5.heap.size w5 w' := fun W hW => (HA0.out W (below_step (HW5.out.from_ HB0.out hB0) hW)).mono fun e w' h => ⟨h.1, below_step hW h.2⟩
  obtain ⟨C, hCe⟩ : ∃ C : World → Prop, C = fun W => Below w5.heap.size w5 W := ⟨_, rfl⟩
  have q0 : ∀ W, C W → W.cell? ⟨g, 0, none⟩ = some (.int .i64 x.f0) := fun W hW => by rw [hCe] at hW; exact blk_cell (blk_below hbk5 hW) 0
  have q1 : ∀ W, C W → W.cell? ⟨g, 1, none⟩ = some (.string x.f1) := fun W hW => by rw [hCe] at hW; exact blk_cell (blk_below hbk5 hW) 1
  have q2 : ∀ W, C W → W.cell? ⟨g, 2, none⟩ = some (.int .i64 x.f2) := fun W hW => by rw [hCe] at hW; exact blk_cell (blk_below hbk5 hW) 2
  have q3 : ∀ W, C W → W.cell? ⟨g, 3, none⟩ = some (.slice A x.f3.length c) := fun W hW => by rw [hCe] at hW; exact blk_cell (blk_below hbk5 hW) 3
  have q4 : ∀ W, C W → W.cell? ⟨g, 4, none⟩ = some (.int .i64 x.f4) := fun W hW => by rw [hCe] at hW; exact blk_cell (blk_below hbk5 hW) 4
  have q5 : ∀ W, C W → W.cell? ⟨rone, 2, none⟩ = some (.int .i64 na) := fun W hW => by rw [hCe] at hW; exact blk_cell (blk_below hrwone5 hW) 2
  refine wp_quiet_tail C 7 (by kernel_rfl) (by kernel_rfl) (by rw [hCe]; exact below_drew1 (Below.refl _ _)) ?_
  simp only [List.take_succ_cons, List.take_zero, List.drop_succ_cons, List.drop_zero]
  refine q_ex rfl ?_
  apply Exists.intro
  refine ⟨fun W hW => ?_, ?_⟩
  · skip
    have p0 := q0 W hW
    have p1 := q1 W hW
    have p2 := q2 W hW
    have p3 := q3 W hW
    have p4 := q4 W hW
    have p5 := q5 W hW
    go_simp
    try rfl
  simp only [Act.put, List.setIfInBounds_toArray, List.set_cons_zero, List.set_cons_succ]
  refine q_ex rfl ?_
  apply Exists.intro
  refine ⟨fun W hW => ?_, ?_⟩
  · skip
    have p0 := q0 W hW
    have p1 := q1 W hW
    have p2 := q2 W hW
    have p3 := q3 W hW
    have p4 := q4 W hW
    have p5 := q5 W hW
    go_simp
    try rfl
  simp only [Act.put, List.setIfInBounds_toArray, List.set_cons_zero, List.set_cons_succ]
  refine q_call rfl (fun W hW => by go_simp; exact ⟨rfl, rfl⟩) (fun W hW => (by subst hCe; exact hkid0 W hW)) ?_
  simp only [Act.put, List.setIfInBounds_toArray, List.set_cons_zero, List.set_cons_succ]
  refine q_ex rfl ?_
  apply Exists.intro
  refine ⟨fun W hW => ?_, ?_⟩
  · skip
    have p0 := q0 W hW
    have p1 := q1 W hW
    have p2 := q2 W hW
    have p3 := q3 W hW
    have p4 := q4 W hW
    have p5 := q5 W hW
    go_simp
    try rfl
  simp only [Act.put, List.setIfInBounds_toArray, List.set_cons_zero, List.set_cons_succ]
  refine q_ex rfl ?_
  apply Exists.intro
  refine ⟨fun W hW => ?_, ?_⟩
  · skip
    have p0 := q0 W hW
    have p1 := q1 W hW
    have p2 := q2 W hW
    have p3 := q3 W hW
    have p4 := q4 W hW
    have p5 := q5 W hW
    go_simp
    try rfl
  simp only [Act.put, List.setIfInBounds_toArray, List.set_cons_zero, List.set_cons_succ]
  refine q_ex rfl ?_
  apply Exists.intro
  refine ⟨fun W hW => ?_, ?_⟩
  · skip
    have p0 := q0 W hW
    have p1 := q1 W hW
    have p2 := q2 W hW
    have p3 := q3 W hW
    have p4 := q4 W hW
    have p5 := q5 W hW
    go_simp
    try rfl
  simp only [Act.put, List.setIfInBounds_toArray, List.set_cons_zero, List.set_cons_succ]
  refine q_ex rfl ?_
  apply Exists.intro
  refine ⟨fun W hW => ?_, ?_⟩
  · skip
    have p0 := q0 W hW
    have p1 := q1 W hW
    have p2 := q2 W hW
    have p3 := q3 W hW
    have p4 := q4 W hW
    have p5 := q5 W hW
    go_simp
    try rfl
  simp only [Act.put, List.setIfInBounds_toArray, List.set_cons_zero, List.set_cons_succ]
  intro W hW
  have hWb := hW
  rw [hCe] at hWb
  clear hW q0 q1 q2 q3 q4 q5
  clear hCe hkid0
  have HW6 := Aside0.mk (HW5.out.before hWb (by have := HW5.out.size; omega))
  have hbk6 := blk_below hbk5 hWb
  have hrwone6 := blk_below hrwone5 hWb
  clear hWb HW5 hbk5 hrwone5
  go_wp2_with fail
  refine (H0.out w0 B b m2 m1 _ W _ na fin HC0.out ?a3 hB0 HT.out HW6.out.1 ?b4).mono ?_
  case a3 => exact HW6.out.from_ HB0.out hB0
  case b4 => have := HL.out; (try simp only [List.length_append, List.length_cons, List.length_nil, data_length] at this ⊢); omega
  rintro e w7 ⟨rfl, hw7⟩
  have hbk7 := hw7.blk hbk6 hgb (by decide)
  have hrwone7 := hw7.blk hrwone6 hrbone (by decide)
  have HW7 := Aside0.mk (HW6.out.trans hw7)
  clear hw7 HW6 hbk6 hrwone6 
  go_wp2_with fail
  refine bodyPost_ret (results_none rfl _ _ _) rfl ?_
  exact ⟨rfl, HW7.out⟩
end Go.Proofs.YtgdiodhaihmnbaaDoor.Own
namespace Go.Proofs.YtgdiodhaihmnbaaDoor.Own
open Go.RowKit Go.Proofs.YtgdiodhaihmnbaaDoorW.PrintWords Go.Proofs.YtgdiodhaihmnbaaDoorW.PrintLast Go.Proofs.YtgdiodhaihmnbaaDoorW.PrintMore Go.Proofs.YtgdiodhaihmnbaaDoor.PPrinterMatchesReference
set_option maxHeartbeats 4000000 in
set_option maxRecDepth 100000 in
theorem node_name (x : S24) (hop : x.f0 = 1) (hbn : atT x.f0 binT = none) (hb : atT x.f0 preT = none) : NodeC x := by
  intro w0 B b m2 m1 bs w cs fin hx hb0 hB0 ht hP hlen
  obtain ⟨A, c, rfl, hlc, hA⟩ := k24_open hx
  have HX := Aside0.mk hx
  have HA := Aside0.mk hA
  have HP := Aside0.mk hP
  have HT := Aside0.mk ht
  have HB0 := Aside0.mk hb0
  have hlt := hP.lt
  have hlow := hP.low
  have hu24 := Tryd.underlying24
  have hu96 := Tryd.underlying96
  have htx : txt x fin = x.f1.data.toList := by rw [txt_def, hbn, hb]; simp [hop]
  rw [htx] at hlen ⊢
  have HL := Aside0.mk hlen
  have HQtwo := Aside0.mk hbn
  have HQone := Aside0.mk hb
  have HOP := Aside0.mk hop
  clear hx hP ht hb0 hA hlc htx hlen hb hbn hop
  go_enter Tryd.func38, Tryd.ntmps38
  go_wp2_with ((with_reducible refine gate_dst (N := 4) rfl ?_); refine box_event rfl (N := 4) rfl (cs := #[.int .i64 x.f0, .string x.f1, .int .i64 x.f2, .slice A x.f3.length c, .int .i64 x.f4]) (t := 24) (by first | (go_simp; done) | (go_simp; rfl)) ?_; intro g hg w1 hbk1 hb1; have HG := Aside0.mk hg; clear hg)
  have HW1 := Aside0.mk (show Wrote B b m2 m1 bs w w1 from ⟨HP.out.below hb1, hb1.mono (by omega), fun i o hi _ _ => (hb1.block i (blk_lt hi)).trans hi⟩)
  have hgb : g ≠ b := by have := HG.out; omega
  clear hb1
  obtain ⟨S, hSe⟩ : ∃ S : World → Prop, S = fun W => Below w1.heap.size w1 W := ⟨_, rfl⟩
  obtain ⟨p, v, kP⟩ := HW1.out.1
  have q2 : ∀ W, S W → W.cell? ⟨b, 2, none⟩ = some (.map (some m2)) := fun W hW => by rw [hSe] at hW; exact blk_cell (blk_below kP.blk hW) 2
  have q0 : ∀ W, S W → W.cell? ⟨g, 0, none⟩ = some (.int .i64 x.f0) := fun W hW => by rw [hSe] at hW; exact blk_cell (blk_below hbk1 hW) 0
  have ql : ∀ W, S W → (Instr.lookup 73 (.map (some m2)) (.int .i64 x.f0) true).run Tryd.prog W = .ok (.tuple #[.agg #[.string ⟨#[]⟩, .int .i64 0, .int .i64 0, .int .i64 0], .bool false]) W := fun W hW => by
    rw [hSe] at hW
    rw [look_tab W m2 binT 17 (kP.below hW).two, HQtwo.out]
    rfl
  have hS0 : S w1.drew := by rw [hSe]; exact below_drew1 (Below.refl _ _)
  refine wp_region_held_drew (S := S) (by kernel_rfl) hS0 (fun _ => ?_)
  refine h_take 0 rfl (by kernel_rfl) (by kernel_rfl) (by kernel_rfl) (fun _ _ _ _ h => h) hS0 rfl ?_
  apply Exists.intro
  refine ⟨fun W hW => ?_, ?_⟩
  · have p2 := q2 W hW
    have p0 := q0 W hW
    have pl := ql W hW
    go_simp
    try rfl
  simp only [Act.put, List.setIfInBounds_toArray, List.set_cons_zero, List.set_cons_succ]
  refine h_take 1 rfl (by kernel_rfl) (by kernel_rfl) (by kernel_rfl) (fun _ _ _ _ h => h) hS0 rfl ?_
  apply Exists.intro
  refine ⟨fun W hW => ?_, ?_⟩
  · have p2 := q2 W hW
    have p0 := q0 W hW
    have pl := ql W hW
    go_simp
    try rfl
  simp only [Act.put, List.setIfInBounds_toArray, List.set_cons_zero, List.set_cons_succ]
  refine h_take 2 rfl (by kernel_rfl) (by kernel_rfl) (by kernel_rfl) (fun _ _ _ _ h => h) hS0 rfl ?_
  apply Exists.intro
  refine ⟨fun W hW => ?_, ?_⟩
  · have p2 := q2 W hW
    have p0 := q0 W hW
    have pl := ql W hW
    go_simp
    try rfl
  simp only [Act.put, List.setIfInBounds_toArray, List.set_cons_zero, List.set_cons_succ]
  refine h_take 3 rfl (by kernel_rfl) (by kernel_rfl) (by kernel_rfl) (fun _ _ _ _ h => h) hS0 rfl ?_
  apply Exists.intro
  refine ⟨fun W hW => ?_, ?_⟩
  · have p2 := q2 W hW
    have p0 := q0 W hW
    have pl := ql W hW
    go_simp
    try rfl
  simp only [Act.put, List.setIfInBounds_toArray, List.set_cons_zero, List.set_cons_succ]
  refine h_take 4 rfl (by kernel_rfl) (by kernel_rfl) (by kernel_rfl) (fun _ _ _ _ h => h) hS0 rfl ?_
  apply Exists.intro
  refine ⟨fun W hW => ?_, ?_⟩
  · have p2 := q2 W hW
    have p0 := q0 W hW
    have pl := ql W hW
    go_simp
    try rfl
  simp only [Act.put, List.setIfInBounds_toArray, List.set_cons_zero, List.set_cons_succ]
  refine h_take 5 rfl (by kernel_rfl) (by kernel_rfl) (by kernel_rfl) (fun _ _ _ _ h => h) hS0 rfl ?_
  apply Exists.intro
  refine ⟨fun W hW => ?_, ?_⟩
  · have p2 := q2 W hW
    have p0 := q0 W hW
    have pl := ql W hW
    go_simp
    try rfl
  simp only [Act.put, List.setIfInBounds_toArray, List.set_cons_zero, List.set_cons_succ]
  refine h_take 6 rfl (by kernel_rfl) (by kernel_rfl) (by kernel_rfl) (fun _ _ _ _ h => h) hS0 rfl ?_
  apply Exists.intro
  refine ⟨fun W hW => ?_, ?_⟩
  · have p2 := q2 W hW
    have p0 := q0 W hW
    have pl := ql W hW
    go_simp
    try rfl
  simp only [Act.put, List.setIfInBounds_toArray, List.set_cons_zero, List.set_cons_succ]
  refine h_take 7 rfl (by kernel_rfl) (by kernel_rfl) (by kernel_rfl) (fun _ _ _ _ h => h) hS0 rfl ?_
  apply Exists.intro
  refine ⟨fun W hW => ?_, ?_⟩
  · have p2 := q2 W hW
    have p0 := q0 W hW
    have pl := ql W hW
    go_simp
    try rfl
  simp only [Act.put, List.setIfInBounds_toArray, List.set_cons_zero, List.set_cons_succ]
  refine h_take 8 rfl (by kernel_rfl) (by kernel_rfl) (by kernel_rfl) (fun _ _ _ _ h => h) hS0 rfl ?_
  apply Exists.intro
  refine ⟨fun W hW => ?_, ?_⟩
  · have p2 := q2 W hW
    have p0 := q0 W hW
    have pl := ql W hW
    go_simp
    try rfl
  simp only [Act.put, List.setIfInBounds_toArray, List.set_cons_zero, List.set_cons_succ]
  refine h_take 9 rfl (by kernel_rfl) (by kernel_rfl) (by kernel_rfl) (fun _ _ _ _ h => h) hS0 rfl ?_
  apply Exists.intro
  refine ⟨fun W hW => ?_, ?_⟩
  · have p2 := q2 W hW
    have p0 := q0 W hW
    have pl := ql W hW
    go_simp
    try rfl
  simp only [Act.put, List.setIfInBounds_toArray, List.set_cons_zero, List.set_cons_succ]
  refine h_one 10 rfl (by kernel_rfl) rfl ?_
  refine op_val (by go_simp; exact ⟨rfl, rfl⟩) ?_
  refine ⟨by rw [hSe]; exact below_drew1 (below_alloc (Below.refl _ _) _), ?_⟩
  simp only [Act.put, List.setIfInBounds_toArray, List.set_cons_zero, List.set_cons_succ]
  refine h_one 11 rfl (by kernel_rfl) rfl ?_
  refine op_skip (w1 := (w1.alloc (.cells #[.string ⟨#[]⟩, .int .i64 0, .int .i64 0, .int .i64 0] 96)).drew) (by go_simp) ?_
  refine ⟨by rw [hSe]; exact below_drew1 (below_alloc (Below.refl _ _) _), ?_⟩
  simp only [Act.put]
  refine h_one 12 rfl (by kernel_rfl) rfl ?_
  refine op_val (by go_simp; exact ⟨rfl, rfl⟩) ?_
  refine ⟨by rw [hSe]; exact below_drew1 (below_alloc (Below.refl _ _) _), ?_⟩
  simp only [Act.put, List.setIfInBounds_toArray, List.set_cons_zero, List.set_cons_succ]
  refine wpAnyH_done (by kernel_rfl) ?_ _
  have hwe : Below w1.heap.size w1 (w1.alloc (.cells #[.string ⟨#[]⟩, .int .i64 0, .int .i64 0, .int .i64 0] 96)).drew := below_drew1 (below_alloc (Below.refl _ _) _)
  have hbn : ((w1.alloc (.cells #[.string ⟨#[]⟩, .int .i64 0, .int .i64 0, .int .i64 0] 96)).drew).heap[w1.heap.size]? = some (.cells #[.string ⟨#[]⟩, .int .i64 0, .int .i64 0, .int .i64 0] 96 (0, 0)) := blk_new w1 _
  generalize (w1.alloc (.cells #[.string ⟨#[]⟩, .int .i64 0, .int .i64 0, .int .i64 0] 96)).drew = w2 at *
  have hbk2 := blk_below hbk1 hwe
  have hrbtwo : w1.heap.size ≠ b := by have := HW1.out.size; omega
  have HW2 := Aside0.mk (HW1.out.before hwe (by have := HW1.out.size; omega))
  generalize w1.heap.size = rtwo at *
  have hrwtwo2 := hbn
  clear q0 q2 ql hS0 hSe hwe kP hbk1 HW1 hbn
  go_wp2_with fail
  obtain ⟨S, hSe⟩ : ∃ S : World → Prop, S = fun W => Below w2.heap.size w2 W := ⟨_, rfl⟩
  obtain ⟨p, v, kP⟩ := HW2.out.1
  have q2 : ∀ W, S W → W.cell? ⟨b, 3, none⟩ = some (.map (some m1)) := fun W hW => by rw [hSe] at hW; exact blk_cell (blk_below kP.blk hW) 3
  have q0 : ∀ W, S W → W.cell? ⟨g, 0, none⟩ = some (.int .i64 x.f0) := fun W hW => by rw [hSe] at hW; exact blk_cell (blk_below hbk2 hW) 0
  have ql : ∀ W, S W → (Instr.lookup 73 (.map (some m1)) (.int .i64 x.f0) true).run Tryd.prog W = .ok (.tuple #[.agg #[.string ⟨#[]⟩, .int .i64 0, .int .i64 0, .int .i64 0], .bool false]) W := fun W hW => by
    rw [hSe] at hW
    rw [look_tab W m1 preT 12 (kP.below hW).one, HQone.out]
    rfl
  have hS0 : S w2.drew := by rw [hSe]; exact below_drew1 (Below.refl _ _)
  refine wp_region_held_drew (S := S) (by kernel_rfl) hS0 (fun _ => ?_)
  refine h_take 0 rfl (by kernel_rfl) (by kernel_rfl) (by kernel_rfl) (fun _ _ _ _ h => h) hS0 rfl ?_
  apply Exists.intro
  refine ⟨fun W hW => ?_, ?_⟩
  · have p2 := q2 W hW
    have p0 := q0 W hW
    have pl := ql W hW
    go_simp
    try rfl
  simp only [Act.put, List.setIfInBounds_toArray, List.set_cons_zero, List.set_cons_succ]
  refine h_take 1 rfl (by kernel_rfl) (by kernel_rfl) (by kernel_rfl) (fun _ _ _ _ h => h) hS0 rfl ?_
  apply Exists.intro
  refine ⟨fun W hW => ?_, ?_⟩
  · have p2 := q2 W hW
    have p0 := q0 W hW
    have pl := ql W hW
    go_simp
    try rfl
  simp only [Act.put, List.setIfInBounds_toArray, List.set_cons_zero, List.set_cons_succ]
  refine h_take 2 rfl (by kernel_rfl) (by kernel_rfl) (by kernel_rfl) (fun _ _ _ _ h => h) hS0 rfl ?_
  apply Exists.intro
  refine ⟨fun W hW => ?_, ?_⟩
  · have p2 := q2 W hW
    have p0 := q0 W hW
    have pl := ql W hW
    go_simp
    try rfl
  simp only [Act.put, List.setIfInBounds_toArray, List.set_cons_zero, List.set_cons_succ]
  refine h_take 3 rfl (by kernel_rfl) (by kernel_rfl) (by kernel_rfl) (fun _ _ _ _ h => h) hS0 rfl ?_
  apply Exists.intro
  refine ⟨fun W hW => ?_, ?_⟩
  · have p2 := q2 W hW
    have p0 := q0 W hW
    have pl := ql W hW
    go_simp
    try rfl
  simp only [Act.put, List.setIfInBounds_toArray, List.set_cons_zero, List.set_cons_succ]
  refine h_take 4 rfl (by kernel_rfl) (by kernel_rfl) (by kernel_rfl) (fun _ _ _ _ h => h) hS0 rfl ?_
  apply Exists.intro
  refine ⟨fun W hW => ?_, ?_⟩
  · have p2 := q2 W hW
    have p0 := q0 W hW
    have pl := ql W hW
    go_simp
    try rfl
  simp only [Act.put, List.setIfInBounds_toArray, List.set_cons_zero, List.set_cons_succ]
  refine h_take 5 rfl (by kernel_rfl) (by kernel_rfl) (by kernel_rfl) (fun _ _ _ _ h => h) hS0 rfl ?_
  apply Exists.intro
  refine ⟨fun W hW => ?_, ?_⟩
  · have p2 := q2 W hW
    have p0 := q0 W hW
    have pl := ql W hW
    go_simp
    try rfl
  simp only [Act.put, List.setIfInBounds_toArray, List.set_cons_zero, List.set_cons_succ]
  refine h_take 6 rfl (by kernel_rfl) (by kernel_rfl) (by kernel_rfl) (fun _ _ _ _ h => h) hS0 rfl ?_
  apply Exists.intro
  refine ⟨fun W hW => ?_, ?_⟩
  · have p2 := q2 W hW
    have p0 := q0 W hW
    have pl := ql W hW
    go_simp
    try rfl
  simp only [Act.put, List.setIfInBounds_toArray, List.set_cons_zero, List.set_cons_succ]
  refine h_take 7 rfl (by kernel_rfl) (by kernel_rfl) (by kernel_rfl) (fun _ _ _ _ h => h) hS0 rfl ?_
  apply Exists.intro
  refine ⟨fun W hW => ?_, ?_⟩
  · have p2 := q2 W hW
    have p0 := q0 W hW
    have pl := ql W hW
    go_simp
    try rfl
  simp only [Act.put, List.setIfInBounds_toArray, List.set_cons_zero, List.set_cons_succ]
  refine h_take 8 rfl (by kernel_rfl) (by kernel_rfl) (by kernel_rfl) (fun _ _ _ _ h => h) hS0 rfl ?_
  apply Exists.intro
  refine ⟨fun W hW => ?_, ?_⟩
  · have p2 := q2 W hW
    have p0 := q0 W hW
    have pl := ql W hW
    go_simp
    try rfl
  simp only [Act.put, List.setIfInBounds_toArray, List.set_cons_zero, List.set_cons_succ]
  refine h_take 9 rfl (by kernel_rfl) (by kernel_rfl) (by kernel_rfl) (fun _ _ _ _ h => h) hS0 rfl ?_
  apply Exists.intro
  refine ⟨fun W hW => ?_, ?_⟩
  · have p2 := q2 W hW
    have p0 := q0 W hW
    have pl := ql W hW
    go_simp
    try rfl
  simp only [Act.put, List.setIfInBounds_toArray, List.set_cons_zero, List.set_cons_succ]
  refine h_one 10 rfl (by kernel_rfl) rfl ?_
  refine op_val (by go_simp; exact ⟨rfl, rfl⟩) ?_
  refine ⟨by rw [hSe]; exact below_drew1 (below_alloc (Below.refl _ _) _), ?_⟩
  simp only [Act.put, List.setIfInBounds_toArray, List.set_cons_zero, List.set_cons_succ]
  refine h_one 11 rfl (by kernel_rfl) rfl ?_
  refine op_skip (w1 := (w2.alloc (.cells #[.string ⟨#[]⟩, .int .i64 0, .int .i64 0, .int .i64 0] 96)).drew) (by go_simp) ?_
  refine ⟨by rw [hSe]; exact below_drew1 (below_alloc (Below.refl _ _) _), ?_⟩
  simp only [Act.put]
  refine h_one 12 rfl (by kernel_rfl) rfl ?_
  refine op_val (by go_simp; exact ⟨rfl, rfl⟩) ?_
  refine ⟨by rw [hSe]; exact below_drew1 (below_alloc (Below.refl _ _) _), ?_⟩
  simp only [Act.put, List.setIfInBounds_toArray, List.set_cons_zero, List.set_cons_succ]
  refine wpAnyH_done (by kernel_rfl) ?_ _
  have hwe : Below w2.heap.size w2 (w2.alloc (.cells #[.string ⟨#[]⟩, .int .i64 0, .int .i64 0, .int .i64 0] 96)).drew := below_drew1 (below_alloc (Below.refl _ _) _)
  have hbn : ((w2.alloc (.cells #[.string ⟨#[]⟩, .int .i64 0, .int .i64 0, .int .i64 0] 96)).drew).heap[w2.heap.size]? = some (.cells #[.string ⟨#[]⟩, .int .i64 0, .int .i64 0, .int .i64 0] 96 (0, 0)) := blk_new w2 _
  generalize (w2.alloc (.cells #[.string ⟨#[]⟩, .int .i64 0, .int .i64 0, .int .i64 0] 96)).drew = w3 at *
  have hbk3 := blk_below hbk2 hwe
  have hrbone : w2.heap.size ≠ b := by have := HW2.out.size; omega
  have HW3 := Aside0.mk (HW2.out.before hwe (by have := HW2.out.size; omega))
  generalize w2.heap.size = rone at *
  have hrwone3 := hbn
  clear q0 q2 ql hS0 hSe hwe kP hbk2 HW2 hbn hrwtwo2 hrwone3 hrbtwo hrbone
  have z0 := blk_cell hbk3 0
  have z1 := blk_cell hbk3 1
  have z2 := blk_cell hbk3 2
  have z3 := blk_cell hbk3 3
  have z4 := blk_cell hbk3 4
  have e1 : (x.f0 == 1) = true := by rw [HOP.out]; rfl
  go_wp2_with fail
  clear z0 z1 z2 z3 z4
  obtain ⟨C, hCe⟩ : ∃ C : World → Prop, C = fun W => Below w3.heap.size w3 W := ⟨_, rfl⟩
  have q0 : ∀ W, C W → W.cell? ⟨g, 1, none⟩ = some (.string x.f1) := fun W hW => by rw [hCe] at hW; exact blk_cell (blk_below hbk3 hW) 1
  refine wp_quiet_tail C 5 (by kernel_rfl) (by kernel_rfl) (by rw [hCe]; exact below_drew1 (Below.refl _ _)) ?_
  simp only [List.take_succ_cons, List.take_zero, List.drop_succ_cons, List.drop_zero]
  refine q_ex rfl ?_
  apply Exists.intro
  refine ⟨fun W hW => ?_, ?_⟩
  · skip
    have p0 := q0 W hW
    go_simp
    try rfl
  simp only [Act.put, List.setIfInBounds_toArray, List.set_cons_zero, List.set_cons_succ]
  refine q_ex rfl ?_
  apply Exists.intro
  refine ⟨fun W hW => ?_, ?_⟩
  · skip
    have p0 := q0 W hW
    go_simp
    try rfl
  simp only [Act.put, List.setIfInBounds_toArray, List.set_cons_zero, List.set_cons_succ]
  refine q_ex rfl ?_
  apply Exists.intro
  refine ⟨fun W hW => ?_, ?_⟩
  · skip
    have p0 := q0 W hW
    go_simp
    try rfl
  simp only [Act.put, List.setIfInBounds_toArray, List.set_cons_zero, List.set_cons_succ]
  refine q_ex rfl ?_
  apply Exists.intro
  refine ⟨fun W hW => ?_, ?_⟩
  · skip
    have p0 := q0 W hW
    go_simp
    try rfl
  simp only [Act.put, List.setIfInBounds_toArray, List.set_cons_zero, List.set_cons_succ]
  refine q_ex rfl ?_
  apply Exists.intro
  refine ⟨fun W hW => ?_, ?_⟩
  · skip
    have p0 := q0 W hW
    go_simp
    try rfl
  simp only [Act.put, List.setIfInBounds_toArray, List.set_cons_zero, List.set_cons_succ]
  intro W hW
  have hWb := hW
  rw [hCe] at hWb
  clear hW q0
  clear hCe
  have HW4 := Aside0.mk (HW3.out.before hWb (by have := HW3.out.size; omega))
  have hbk4 := blk_below hbk3 hWb
  clear hWb HW3 hbk3 
  go_wp2_with fail
  refine (writeString_walk B b m2 m1 _ x.f1 _ HW4.out.1 ?a1 ?b2).mono ?_
  case a1 => have := HL.out; simp only [List.length_append, List.length_cons, List.length_nil, data_length] at this ⊢; unfold most at this; omega
  case b2 => have := HW4.out.size; omega
  rintro e w5 ⟨rfl, hw5⟩
  have hbk5 := hw5.blk hbk4 hgb (by decide)
  have HW5 := Aside0.mk (HW4.out.trans hw5)
  clear hw5 HW4 hbk4  
  go_wp2_with fail
  go_end0
  exact ⟨rfl, HW5.out⟩
set_option maxHeartbeats 4000000 in
set_option maxRecDepth 100000 in
theorem node_prime (x : S24) (hop : x.f0 = 5) (hbn : atT x.f0 binT = none) (hb : atT x.f0 preT = none) (h0 : OprC (x.f3.getD 0 z24)) : NodeC x := by
  intro w0 B b m2 m1 bs w cs fin hx hb0 hB0 ht hP hlen
  obtain ⟨A, c, rfl, hlc, hA⟩ := k24_open hx
  have HX := Aside0.mk hx
  have HA := Aside0.mk hA
  have HP := Aside0.mk hP
  have HT := Aside0.mk ht
  have HB0 := Aside0.mk hb0
  have hlt := hP.lt
  have hlow := hP.low
  have hu24 := Tryd.underlying24
  have hu96 := Tryd.underlying96
  have htx : txt x fin = opr (x.f3.getD 0 z24) 14 false ++ [39] := by rw [txt_def, hbn, hb]; simp only [hop]; rw [opd_rd _ _ _ _ (by omega)]; rfl
  rw [htx] at hlen ⊢
  have HL := Aside0.mk hlen
  have HQtwo := Aside0.mk hbn
  have HQone := Aside0.mk hb
  have HOP := Aside0.mk hop
  have H0 := Aside0.mk h0
  have hass : bs ++ (opr (x.f3.getD 0 z24) 14 false ++ [39]) = (bs ++ opr (x.f3.getD 0 z24) 14 false) ++ [39] := by simp
  rw [hass]
  obtain ⟨cs0, hk0, hc0⟩ := kid_all x 0 (by omega) w0 _ hx
  have HC0 := Aside0.mk hk0
  have HA0 := Aside0.mk hc0
  clear hk0 hc0
  clear hx hP ht hb0 hA hlc htx hlen hb hbn hop h0 hass
  go_enter Tryd.func38, Tryd.ntmps38
  go_wp2_with ((with_reducible refine gate_dst (N := 4) rfl ?_); refine box_event rfl (N := 4) rfl (cs := #[.int .i64 x.f0, .string x.f1, .int .i64 x.f2, .slice A x.f3.length c, .int .i64 x.f4]) (t := 24) (by first | (go_simp; done) | (go_simp; rfl)) ?_; intro g hg w1 hbk1 hb1; have HG := Aside0.mk hg; clear hg)
  have HW1 := Aside0.mk (show Wrote B b m2 m1 bs w w1 from ⟨HP.out.below hb1, hb1.mono (by omega), fun i o hi _ _ => (hb1.block i (blk_lt hi)).trans hi⟩)
  have hgb : g ≠ b := by have := HG.out; omega
  clear hb1
  obtain ⟨S, hSe⟩ : ∃ S : World → Prop, S = fun W => Below w1.heap.size w1 W := ⟨_, rfl⟩
  obtain ⟨p, v, kP⟩ := HW1.out.1
  have q2 : ∀ W, S W → W.cell? ⟨b, 2, none⟩ = some (.map (some m2)) := fun W hW => by rw [hSe] at hW; exact blk_cell (blk_below kP.blk hW) 2
  have q0 : ∀ W, S W → W.cell? ⟨g, 0, none⟩ = some (.int .i64 x.f0) := fun W hW => by rw [hSe] at hW; exact blk_cell (blk_below hbk1 hW) 0
  have ql : ∀ W, S W → (Instr.lookup 73 (.map (some m2)) (.int .i64 x.f0) true).run Tryd.prog W = .ok (.tuple #[.agg #[.string ⟨#[]⟩, .int .i64 0, .int .i64 0, .int .i64 0], .bool false]) W := fun W hW => by
    rw [hSe] at hW
    rw [look_tab W m2 binT 17 (kP.below hW).two, HQtwo.out]
    rfl
  have hS0 : S w1.drew := by rw [hSe]; exact below_drew1 (Below.refl _ _)
  refine wp_region_held_drew (S := S) (by kernel_rfl) hS0 (fun _ => ?_)
  refine h_take 0 rfl (by kernel_rfl) (by kernel_rfl) (by kernel_rfl) (fun _ _ _ _ h => h) hS0 rfl ?_
  apply Exists.intro
  refine ⟨fun W hW => ?_, ?_⟩
  · have p2 := q2 W hW
    have p0 := q0 W hW
    have pl := ql W hW
    go_simp
    try rfl
  simp only [Act.put, List.setIfInBounds_toArray, List.set_cons_zero, List.set_cons_succ]
  refine h_take 1 rfl (by kernel_rfl) (by kernel_rfl) (by kernel_rfl) (fun _ _ _ _ h => h) hS0 rfl ?_
  apply Exists.intro
  refine ⟨fun W hW => ?_, ?_⟩
  · have p2 := q2 W hW
    have p0 := q0 W hW
    have pl := ql W hW
    go_simp
    try rfl
  simp only [Act.put, List.setIfInBounds_toArray, List.set_cons_zero, List.set_cons_succ]
  refine h_take 2 rfl (by kernel_rfl) (by kernel_rfl) (by kernel_rfl) (fun _ _ _ _ h => h) hS0 rfl ?_
  apply Exists.intro
  refine ⟨fun W hW => ?_, ?_⟩
  · have p2 := q2 W hW
    have p0 := q0 W hW
    have pl := ql W hW
    go_simp
    try rfl
  simp only [Act.put, List.setIfInBounds_toArray, List.set_cons_zero, List.set_cons_succ]
  refine h_take 3 rfl (by kernel_rfl) (by kernel_rfl) (by kernel_rfl) (fun _ _ _ _ h => h) hS0 rfl ?_
  apply Exists.intro
  refine ⟨fun W hW => ?_, ?_⟩
  · have p2 := q2 W hW
    have p0 := q0 W hW
    have pl := ql W hW
    go_simp
    try rfl
  simp only [Act.put, List.setIfInBounds_toArray, List.set_cons_zero, List.set_cons_succ]
  refine h_take 4 rfl (by kernel_rfl) (by kernel_rfl) (by kernel_rfl) (fun _ _ _ _ h => h) hS0 rfl ?_
  apply Exists.intro
  refine ⟨fun W hW => ?_, ?_⟩
  · have p2 := q2 W hW
    have p0 := q0 W hW
    have pl := ql W hW
    go_simp
    try rfl
  simp only [Act.put, List.setIfInBounds_toArray, List.set_cons_zero, List.set_cons_succ]
  refine h_take 5 rfl (by kernel_rfl) (by kernel_rfl) (by kernel_rfl) (fun _ _ _ _ h => h) hS0 rfl ?_
  apply Exists.intro
  refine ⟨fun W hW => ?_, ?_⟩
  · have p2 := q2 W hW
    have p0 := q0 W hW
    have pl := ql W hW
    go_simp
    try rfl
  simp only [Act.put, List.setIfInBounds_toArray, List.set_cons_zero, List.set_cons_succ]
  refine h_take 6 rfl (by kernel_rfl) (by kernel_rfl) (by kernel_rfl) (fun _ _ _ _ h => h) hS0 rfl ?_
  apply Exists.intro
  refine ⟨fun W hW => ?_, ?_⟩
  · have p2 := q2 W hW
    have p0 := q0 W hW
    have pl := ql W hW
    go_simp
    try rfl
  simp only [Act.put, List.setIfInBounds_toArray, List.set_cons_zero, List.set_cons_succ]
  refine h_take 7 rfl (by kernel_rfl) (by kernel_rfl) (by kernel_rfl) (fun _ _ _ _ h => h) hS0 rfl ?_
  apply Exists.intro
  refine ⟨fun W hW => ?_, ?_⟩
  · have p2 := q2 W hW
    have p0 := q0 W hW
    have pl := ql W hW
    go_simp
    try rfl
  simp only [Act.put, List.setIfInBounds_toArray, List.set_cons_zero, List.set_cons_succ]
  refine h_take 8 rfl (by kernel_rfl) (by kernel_rfl) (by kernel_rfl) (fun _ _ _ _ h => h) hS0 rfl ?_
  apply Exists.intro
  refine ⟨fun W hW => ?_, ?_⟩
  · have p2 := q2 W hW
    have p0 := q0 W hW
    have pl := ql W hW
    go_simp
    try rfl
  simp only [Act.put, List.setIfInBounds_toArray, List.set_cons_zero, List.set_cons_succ]
  refine h_take 9 rfl (by kernel_rfl) (by kernel_rfl) (by kernel_rfl) (fun _ _ _ _ h => h) hS0 rfl ?_
  apply Exists.intro
  refine ⟨fun W hW => ?_, ?_⟩
  · have p2 := q2 W hW
    have p0 := q0 W hW
    have pl := ql W hW
    go_simp
    try rfl
  simp only [Act.put, List.setIfInBounds_toArray, List.set_cons_zero, List.set_cons_succ]
  refine h_one 10 rfl (by kernel_rfl) rfl ?_
  refine op_val (by go_simp; exact ⟨rfl, rfl⟩) ?_
  refine ⟨by rw [hSe]; exact below_drew1 (below_alloc (Below.refl _ _) _), ?_⟩
  simp only [Act.put, List.setIfInBounds_toArray, List.set_cons_zero, List.set_cons_succ]
  refine h_one 11 rfl (by kernel_rfl) rfl ?_
  refine op_skip (w1 := (w1.alloc (.cells #[.string ⟨#[]⟩, .int .i64 0, .int .i64 0, .int .i64 0] 96)).drew) (by go_simp) ?_
  refine ⟨by rw [hSe]; exact below_drew1 (below_alloc (Below.refl _ _) _), ?_⟩
  simp only [Act.put]
  refine h_one 12 rfl (by kernel_rfl) rfl ?_
  refine op_val (by go_simp; exact ⟨rfl, rfl⟩) ?_
  refine ⟨by rw [hSe]; exact below_drew1 (below_alloc (Below.refl _ _) _), ?_⟩
  simp only [Act.put, List.setIfInBounds_toArray, List.set_cons_zero, List.set_cons_succ]
  refine wpAnyH_done (by kernel_rfl) ?_ _
  have hwe : Below w1.heap.size w1 (w1.alloc (.cells #[.string ⟨#[]⟩, .int .i64 0, .int .i64 0, .int .i64 0] 96)).drew := below_drew1 (below_alloc (Below.refl _ _) _)
  have hbn : ((w1.alloc (.cells #[.string ⟨#[]⟩, .int .i64 0, .int .i64 0, .int .i64 0] 96)).drew).heap[w1.heap.size]? = some (.cells #[.string ⟨#[]⟩, .int .i64 0, .int .i64 0, .int .i64 0] 96 (0, 0)) := blk_new w1 _
  generalize (w1.alloc (.cells #[.string ⟨#[]⟩, .int .i64 0, .int .i64 0, .int .i64 0] 96)).drew = w2 at *
  have hbk2 := blk_below hbk1 hwe
  have hrbtwo : w1.heap.size ≠ b := by have := HW1.out.size; omega
  have HW2 := Aside0.mk (HW1.out.before hwe (by have := HW1.out.size; omega))
  generalize w1.heap.size = rtwo at *
  have hrwtwo2 := hbn
  clear q0 q2 ql hS0 hSe hwe kP hbk1 HW1 hbn
  go_wp2_with fail
  obtain ⟨S, hSe⟩ : ∃ S : World → Prop, S = fun W => Below w2.heap.size w2 W := ⟨_, rfl⟩
  obtain ⟨p, v, kP⟩ := HW2.out.1
  have q2 : ∀ W, S W → W.cell? ⟨b, 3, none⟩ = some (.map (some m1)) := fun W hW => by rw [hSe] at hW; exact blk_cell (blk_below kP.blk hW) 3
  have q0 : ∀ W, S W → W.cell? ⟨g, 0, none⟩ = some (.int .i64 x.f0) := fun W hW => by rw [hSe] at hW; exact blk_cell (blk_below hbk2 hW) 0
  have ql : ∀ W, S W → (Instr.lookup 73 (.map (some m1)) (.int .i64 x.f0) true).run Tryd.prog W = .ok (.tuple #[.agg #[.string ⟨#[]⟩, .int .i64 0, .int .i64 0, .int .i64 0], .bool false]) W := fun W hW => by
    rw [hSe] at hW
    rw [look_tab W m1 preT 12 (kP.below hW).one, HQone.out]
    rfl
  have hS0 : S w2.drew := by rw [hSe]; exact below_drew1 (Below.refl _ _)
  refine wp_region_held_drew (S := S) (by kernel_rfl) hS0 (fun _ => ?_)
  refine h_take 0 rfl (by kernel_rfl) (by kernel_rfl) (by kernel_rfl) (fun _ _ _ _ h => h) hS0 rfl ?_
  apply Exists.intro
  refine ⟨fun W hW => ?_, ?_⟩
  · have p2 := q2 W hW
    have p0 := q0 W hW
    have pl := ql W hW
    go_simp
    try rfl
  simp only [Act.put, List.setIfInBounds_toArray, List.set_cons_zero, List.set_cons_succ]
  refine h_take 1 rfl (by kernel_rfl) (by kernel_rfl) (by kernel_rfl) (fun _ _ _ _ h => h) hS0 rfl ?_
  apply Exists.intro
  refine ⟨fun W hW => ?_, ?_⟩
  · have p2 := q2 W hW
    have p0 := q0 W hW
    have pl := ql W hW
    go_simp
    try rfl
  simp only [Act.put, List.setIfInBounds_toArray, List.set_cons_zero, List.set_cons_succ]
  refine h_take 2 rfl (by kernel_rfl) (by kernel_rfl) (by kernel_rfl) (fun _ _ _ _ h => h) hS0 rfl ?_
  apply Exists.intro
  refine ⟨fun W hW => ?_, ?_⟩
  · have p2 := q2 W hW
    have p0 := q0 W hW
    have pl := ql W hW
    go_simp
    try rfl
  simp only [Act.put, List.setIfInBounds_toArray, List.set_cons_zero, List.set_cons_succ]
  refine h_take 3 rfl (by kernel_rfl) (by kernel_rfl) (by kernel_rfl) (fun _ _ _ _ h => h) hS0 rfl ?_
  apply Exists.intro
  refine ⟨fun W hW => ?_, ?_⟩
  · have p2 := q2 W hW
    have p0 := q0 W hW
    have pl := ql W hW
    go_simp
    try rfl
  simp only [Act.put, List.setIfInBounds_toArray, List.set_cons_zero, List.set_cons_succ]
  refine h_take 4 rfl (by kernel_rfl) (by kernel_rfl) (by kernel_rfl) (fun _ _ _ _ h => h) hS0 rfl ?_
  apply Exists.intro
  refine ⟨fun W hW => ?_, ?_⟩
  · have p2 := q2 W hW
    have p0 := q0 W hW
    have pl := ql W hW
    go_simp
    try rfl
  simp only [Act.put, List.setIfInBounds_toArray, List.set_cons_zero, List.set_cons_succ]
  refine h_take 5 rfl (by kernel_rfl) (by kernel_rfl) (by kernel_rfl) (fun _ _ _ _ h => h) hS0 rfl ?_
  apply Exists.intro
  refine ⟨fun W hW => ?_, ?_⟩
  · have p2 := q2 W hW
    have p0 := q0 W hW
    have pl := ql W hW
    go_simp
    try rfl
  simp only [Act.put, List.setIfInBounds_toArray, List.set_cons_zero, List.set_cons_succ]
  refine h_take 6 rfl (by kernel_rfl) (by kernel_rfl) (by kernel_rfl) (fun _ _ _ _ h => h) hS0 rfl ?_
  apply Exists.intro
  refine ⟨fun W hW => ?_, ?_⟩
  · have p2 := q2 W hW
    have p0 := q0 W hW
    have pl := ql W hW
    go_simp
    try rfl
  simp only [Act.put, List.setIfInBounds_toArray, List.set_cons_zero, List.set_cons_succ]
  refine h_take 7 rfl (by kernel_rfl) (by kernel_rfl) (by kernel_rfl) (fun _ _ _ _ h => h) hS0 rfl ?_
  apply Exists.intro
  refine ⟨fun W hW => ?_, ?_⟩
  · have p2 := q2 W hW
    have p0 := q0 W hW
    have pl := ql W hW
    go_simp
    try rfl
  simp only [Act.put, List.setIfInBounds_toArray, List.set_cons_zero, List.set_cons_succ]
  refine h_take 8 rfl (by kernel_rfl) (by kernel_rfl) (by kernel_rfl) (fun _ _ _ _ h => h) hS0 rfl ?_
  apply Exists.intro
  refine ⟨fun W hW => ?_, ?_⟩
  · have p2 := q2 W hW
    have p0 := q0 W hW
    have pl := ql W hW
    go_simp
    try rfl
  simp only [Act.put, List.setIfInBounds_toArray, List.set_cons_zero, List.set_cons_succ]
  refine h_take 9 rfl (by kernel_rfl) (by kernel_rfl) (by kernel_rfl) (fun _ _ _ _ h => h) hS0 rfl ?_
  apply Exists.intro
  refine ⟨fun W hW => ?_, ?_⟩
  · have p2 := q2 W hW
    have p0 := q0 W hW
    have pl := ql W hW
    go_simp
    try rfl
  simp only [Act.put, List.setIfInBounds_toArray, List.set_cons_zero, List.set_cons_succ]
  refine h_one 10 rfl (by kernel_rfl) rfl ?_
  refine op_val (by go_simp; exact ⟨rfl, rfl⟩) ?_
  refine ⟨by rw [hSe]; exact below_drew1 (below_alloc (Below.refl _ _) _), ?_⟩
  simp only [Act.put, List.setIfInBounds_toArray, List.set_cons_zero, List.set_cons_succ]
  refine h_one 11 rfl (by kernel_rfl) rfl ?_
  refine op_skip (w1 := (w2.alloc (.cells #[.string ⟨#[]⟩, .int .i64 0, .int .i64 0, .int .i64 0] 96)).drew) (by go_simp) ?_
  refine ⟨by rw [hSe]; exact below_drew1 (below_alloc (Below.refl _ _) _), ?_⟩
  simp only [Act.put]
  refine h_one 12 rfl (by kernel_rfl) rfl ?_
  refine op_val (by go_simp; exact ⟨rfl, rfl⟩) ?_
  refine ⟨by rw [hSe]; exact below_drew1 (below_alloc (Below.refl _ _) _), ?_⟩
  simp only [Act.put, List.setIfInBounds_toArray, List.set_cons_zero, List.set_cons_succ]
  refine wpAnyH_done (by kernel_rfl) ?_ _
  have hwe : Below w2.heap.size w2 (w2.alloc (.cells #[.string ⟨#[]⟩, .int .i64 0, .int .i64 0, .int .i64 0] 96)).drew := below_drew1 (below_alloc (Below.refl _ _) _)
  have hbn : ((w2.alloc (.cells #[.string ⟨#[]⟩, .int .i64 0, .int .i64 0, .int .i64 0] 96)).drew).heap[w2.heap.size]? = some (.cells #[.string ⟨#[]⟩, .int .i64 0, .int .i64 0, .int .i64 0] 96 (0, 0)) := blk_new w2 _
  generalize (w2.alloc (.cells #[.string ⟨#[]⟩, .int .i64 0, .int .i64 0, .int .i64 0] 96)).drew = w3 at *
  have hbk3 := blk_below hbk2 hwe
  have hrbone : w2.heap.size ≠ b := by have := HW2.out.size; omega
  have HW3 := Aside0.mk (HW2.out.before hwe (by have := HW2.out.size; omega))
  generalize w2.heap.size = rone at *
  have hrwone3 := hbn
  clear q0 q2 ql hS0 hSe hwe kP hbk2 HW2 hbn hrwtwo2 hrwone3 hrbtwo hrbone
  have z0 := blk_cell hbk3 0
  have z1 := blk_cell hbk3 1
  have z2 := blk_cell hbk3 2
  have z3 := blk_cell hbk3 3
  have z4 := blk_cell hbk3 4
  have e1 : (x.f0 == 1) = false := by rw [HOP.out]; rfl
  have e2 : (x.f0 == 2) = false := by rw [HOP.out]; rfl
  have e20 : (x.f0 == 20) = false := by rw [HOP.out]; rfl
  have e5 : (x.f0 == 5) = true := by rw [HOP.out]; rfl
  go_wp2_with fail
  refine (HA0.out w3 (HW3.out.from_ HB0.out hB0)).mono ?_
  rintro e W ⟨rfl, hWb⟩
  clear z0 z1 z2 z3 z4
  have HW4 := Aside0.mk (HW3.out.before hWb (by have := HW3.out.size; omega))
  have hbk4 := blk_below hbk3 hWb
  clear hWb HW3 hbk3 
  go_wp2_with fail
  refine (H0.out w0 B b m2 m1 _ W _ 14 false HC0.out ?a3 hB0 HT.out HW4.out.1 ?b4).mono ?_
  case a3 => exact HW4.out.from_ HB0.out hB0
  case b4 => have := HL.out; simp only [List.length_append, List.length_cons, List.length_nil, data_length] at this ⊢; omega
  rintro e w5 ⟨rfl, hw5⟩
  have hbk5 := hw5.blk hbk4 hgb (by decide)
  have HW5 := Aside0.mk (HW4.out.trans hw5)
  clear hw5 HW4 hbk4  
  go_wp2_with fail
  refine (writeByte_walk B b m2 m1 _ 39 _ HW5.out.1 ?a5 ?b6).mono ?_
  case a5 => have := HL.out; simp only [List.length_append, List.length_cons, List.length_nil, data_length] at this ⊢; unfold most at this; omega
  case b6 => have := HW5.out.size; omega
  rintro e w6 ⟨rfl, hw6⟩
  have hbk6 := hw6.blk hbk5 hgb (by decide)
  have HW6 := Aside0.mk (HW5.out.trans hw6)
  clear hw6 HW5 hbk5  
  go_wp2_with fail
  go_end0
  exact ⟨rfl, HW6.out⟩
set_option maxHeartbeats 4000000 in
set_option maxRecDepth 100000 in
theorem node_all (x : S24) (hop : x.f0 = 45) (hbn : atT x.f0 binT = none) (hb : atT x.f0 preT = none) (h0 : OprC (x.f3.getD 0 z24)) (h1 : NodeC (x.f3.getD 1 z24)) : NodeC x := by
  intro w0 B b m2 m1 bs w cs fin hx hb0 hB0 ht hP hlen
  obtain ⟨A, c, rfl, hlc, hA⟩ := k24_open hx
  have HX := Aside0.mk hx
  have HA := Aside0.mk hA
  have HP := Aside0.mk hP
  have HT := Aside0.mk ht
  have HB0 := Aside0.mk hb0
  have hlt := hP.lt
  have hlow := hP.low
  have hu24 := Tryd.underlying24
  have hu96 := Tryd.underlying96
  have htx : txt x fin = [97, 108, 108, 32] ++ bnd x := by rw [txt_def, hbn, hb]; simp [hop]
  rw [htx] at hlen ⊢
  have HL := Aside0.mk hlen
  have HQtwo := Aside0.mk hbn
  have HQone := Aside0.mk hb
  have HOP := Aside0.mk hop
  have H0 := Aside0.mk h0
  have H1 := Aside0.mk h1
  have hass : bs ++ ([97, 108, 108, 32] ++ bnd x) = (bs ++ [97, 108, 108, 32]) ++ bnd x := by simp
  rw [hass]
  clear hx hP ht hb0 hA hlc htx hlen hb hbn hop h0 h1 hass
  go_enter Tryd.func38, Tryd.ntmps38
  go_wp2_with ((with_reducible refine gate_dst (N := 4) rfl ?_); refine box_event rfl (N := 4) rfl (cs := #[.int .i64 x.f0, .string x.f1, .int .i64 x.f2, .slice A x.f3.length c, .int .i64 x.f4]) (t := 24) (by first | (go_simp; done) | (go_simp; rfl)) ?_; intro g hg w1 hbk1 hb1; have HG := Aside0.mk hg; clear hg)
  have HW1 := Aside0.mk (show Wrote B b m2 m1 bs w w1 from ⟨HP.out.below hb1, hb1.mono (by omega), fun i o hi _ _ => (hb1.block i (blk_lt hi)).trans hi⟩)
  have hgb : g ≠ b := by have := HG.out; omega
  clear hb1
  obtain ⟨S, hSe⟩ : ∃ S : World → Prop, S = fun W => Below w1.heap.size w1 W := ⟨_, rfl⟩
  obtain ⟨p, v, kP⟩ := HW1.out.1
  have q2 : ∀ W, S W → W.cell? ⟨b, 2, none⟩ = some (.map (some m2)) := fun W hW => by rw [hSe] at hW; exact blk_cell (blk_below kP.blk hW) 2
  have q0 : ∀ W, S W → W.cell? ⟨g, 0, none⟩ = some (.int .i64 x.f0) := fun W hW => by rw [hSe] at hW; exact blk_cell (blk_below hbk1 hW) 0
  have ql : ∀ W, S W → (Instr.lookup 73 (.map (some m2)) (.int .i64 x.f0) true).run Tryd.prog W = .ok (.tuple #[.agg #[.string ⟨#[]⟩, .int .i64 0, .int .i64 0, .int .i64 0], .bool false]) W := fun W hW => by
    rw [hSe] at hW
    rw [look_tab W m2 binT 17 (kP.below hW).two, HQtwo.out]
    rfl
  have hS0 : S w1.drew := by rw [hSe]; exact below_drew1 (Below.refl _ _)
  refine wp_region_held_drew (S := S) (by kernel_rfl) hS0 (fun _ => ?_)
  refine h_take 0 rfl (by kernel_rfl) (by kernel_rfl) (by kernel_rfl) (fun _ _ _ _ h => h) hS0 rfl ?_
  apply Exists.intro
  refine ⟨fun W hW => ?_, ?_⟩
  · have p2 := q2 W hW
    have p0 := q0 W hW
    have pl := ql W hW
    go_simp
    try rfl
  simp only [Act.put, List.setIfInBounds_toArray, List.set_cons_zero, List.set_cons_succ]
  refine h_take 1 rfl (by kernel_rfl) (by kernel_rfl) (by kernel_rfl) (fun _ _ _ _ h => h) hS0 rfl ?_
  apply Exists.intro
  refine ⟨fun W hW => ?_, ?_⟩
  · have p2 := q2 W hW
    have p0 := q0 W hW
    have pl := ql W hW
    go_simp
    try rfl
  simp only [Act.put, List.setIfInBounds_toArray, List.set_cons_zero, List.set_cons_succ]
  refine h_take 2 rfl (by kernel_rfl) (by kernel_rfl) (by kernel_rfl) (fun _ _ _ _ h => h) hS0 rfl ?_
  apply Exists.intro
  refine ⟨fun W hW => ?_, ?_⟩
  · have p2 := q2 W hW
    have p0 := q0 W hW
    have pl := ql W hW
    go_simp
    try rfl
  simp only [Act.put, List.setIfInBounds_toArray, List.set_cons_zero, List.set_cons_succ]
  refine h_take 3 rfl (by kernel_rfl) (by kernel_rfl) (by kernel_rfl) (fun _ _ _ _ h => h) hS0 rfl ?_
  apply Exists.intro
  refine ⟨fun W hW => ?_, ?_⟩
  · have p2 := q2 W hW
    have p0 := q0 W hW
    have pl := ql W hW
    go_simp
    try rfl
  simp only [Act.put, List.setIfInBounds_toArray, List.set_cons_zero, List.set_cons_succ]
  refine h_take 4 rfl (by kernel_rfl) (by kernel_rfl) (by kernel_rfl) (fun _ _ _ _ h => h) hS0 rfl ?_
  apply Exists.intro
  refine ⟨fun W hW => ?_, ?_⟩
  · have p2 := q2 W hW
    have p0 := q0 W hW
    have pl := ql W hW
    go_simp
    try rfl
  simp only [Act.put, List.setIfInBounds_toArray, List.set_cons_zero, List.set_cons_succ]
  refine h_take 5 rfl (by kernel_rfl) (by kernel_rfl) (by kernel_rfl) (fun _ _ _ _ h => h) hS0 rfl ?_
  apply Exists.intro
  refine ⟨fun W hW => ?_, ?_⟩
  · have p2 := q2 W hW
    have p0 := q0 W hW
    have pl := ql W hW
    go_simp
    try rfl
  simp only [Act.put, List.setIfInBounds_toArray, List.set_cons_zero, List.set_cons_succ]
  refine h_take 6 rfl (by kernel_rfl) (by kernel_rfl) (by kernel_rfl) (fun _ _ _ _ h => h) hS0 rfl ?_
  apply Exists.intro
  refine ⟨fun W hW => ?_, ?_⟩
  · have p2 := q2 W hW
    have p0 := q0 W hW
    have pl := ql W hW
    go_simp
    try rfl
  simp only [Act.put, List.setIfInBounds_toArray, List.set_cons_zero, List.set_cons_succ]
  refine h_take 7 rfl (by kernel_rfl) (by kernel_rfl) (by kernel_rfl) (fun _ _ _ _ h => h) hS0 rfl ?_
  apply Exists.intro
  refine ⟨fun W hW => ?_, ?_⟩
  · have p2 := q2 W hW
    have p0 := q0 W hW
    have pl := ql W hW
    go_simp
    try rfl
  simp only [Act.put, List.setIfInBounds_toArray, List.set_cons_zero, List.set_cons_succ]
  refine h_take 8 rfl (by kernel_rfl) (by kernel_rfl) (by kernel_rfl) (fun _ _ _ _ h => h) hS0 rfl ?_
  apply Exists.intro
  refine ⟨fun W hW => ?_, ?_⟩
  · have p2 := q2 W hW
    have p0 := q0 W hW
    have pl := ql W hW
    go_simp
    try rfl
  simp only [Act.put, List.setIfInBounds_toArray, List.set_cons_zero, List.set_cons_succ]
  refine h_take 9 rfl (by kernel_rfl) (by kernel_rfl) (by kernel_rfl) (fun _ _ _ _ h => h) hS0 rfl ?_
  apply Exists.intro
  refine ⟨fun W hW => ?_, ?_⟩
  · have p2 := q2 W hW
    have p0 := q0 W hW
    have pl := ql W hW
    go_simp
    try rfl
  simp only [Act.put, List.setIfInBounds_toArray, List.set_cons_zero, List.set_cons_succ]
  refine h_one 10 rfl (by kernel_rfl) rfl ?_
  refine op_val (by go_simp; exact ⟨rfl, rfl⟩) ?_
  refine ⟨by rw [hSe]; exact below_drew1 (below_alloc (Below.refl _ _) _), ?_⟩
  simp only [Act.put, List.setIfInBounds_toArray, List.set_cons_zero, List.set_cons_succ]
  refine h_one 11 rfl (by kernel_rfl) rfl ?_
  refine op_skip (w1 := (w1.alloc (.cells #[.string ⟨#[]⟩, .int .i64 0, .int .i64 0, .int .i64 0] 96)).drew) (by go_simp) ?_
  refine ⟨by rw [hSe]; exact below_drew1 (below_alloc (Below.refl _ _) _), ?_⟩
  simp only [Act.put]
  refine h_one 12 rfl (by kernel_rfl) rfl ?_
  refine op_val (by go_simp; exact ⟨rfl, rfl⟩) ?_
  refine ⟨by rw [hSe]; exact below_drew1 (below_alloc (Below.refl _ _) _), ?_⟩
  simp only [Act.put, List.setIfInBounds_toArray, List.set_cons_zero, List.set_cons_succ]
  refine wpAnyH_done (by kernel_rfl) ?_ _
  have hwe : Below w1.heap.size w1 (w1.alloc (.cells #[.string ⟨#[]⟩, .int .i64 0, .int .i64 0, .int .i64 0] 96)).drew := below_drew1 (below_alloc (Below.refl _ _) _)
  have hbn : ((w1.alloc (.cells #[.string ⟨#[]⟩, .int .i64 0, .int .i64 0, .int .i64 0] 96)).drew).heap[w1.heap.size]? = some (.cells #[.string ⟨#[]⟩, .int .i64 0, .int .i64 0, .int .i64 0] 96 (0, 0)) := blk_new w1 _
  generalize (w1.alloc (.cells #[.string ⟨#[]⟩, .int .i64 0, .int .i64 0, .int .i64 0] 96)).drew = w2 at *
  have hbk2 := blk_below hbk1 hwe
  have hrbtwo : w1.heap.size ≠ b := by have := HW1.out.size; omega
  have HW2 := Aside0.mk (HW1.out.before hwe (by have := HW1.out.size; omega))
  generalize w1.heap.size = rtwo at *
  have hrwtwo2 := hbn
  clear q0 q2 ql hS0 hSe hwe kP hbk1 HW1 hbn
  go_wp2_with fail
  obtain ⟨S, hSe⟩ : ∃ S : World → Prop, S = fun W => Below w2.heap.size w2 W := ⟨_, rfl⟩
  obtain ⟨p, v, kP⟩ := HW2.out.1
  have q2 : ∀ W, S W → W.cell? ⟨b, 3, none⟩ = some (.map (some m1)) := fun W hW => by rw [hSe] at hW; exact blk_cell (blk_below kP.blk hW) 3
  have q0 : ∀ W, S W → W.cell? ⟨g, 0, none⟩ = some (.int .i64 x.f0) := fun W hW => by rw [hSe] at hW; exact blk_cell (blk_below hbk2 hW) 0
  have ql : ∀ W, S W → (Instr.lookup 73 (.map (some m1)) (.int .i64 x.f0) true).run Tryd.prog W = .ok (.tuple #[.agg #[.string ⟨#[]⟩, .int .i64 0, .int .i64 0, .int .i64 0], .bool false]) W := fun W hW => by
    rw [hSe] at hW
    rw [look_tab W m1 preT 12 (kP.below hW).one, HQone.out]
    rfl
  have hS0 : S w2.drew := by rw [hSe]; exact below_drew1 (Below.refl _ _)
  refine wp_region_held_drew (S := S) (by kernel_rfl) hS0 (fun _ => ?_)
  refine h_take 0 rfl (by kernel_rfl) (by kernel_rfl) (by kernel_rfl) (fun _ _ _ _ h => h) hS0 rfl ?_
  apply Exists.intro
  refine ⟨fun W hW => ?_, ?_⟩
  · have p2 := q2 W hW
    have p0 := q0 W hW
    have pl := ql W hW
    go_simp
    try rfl
  simp only [Act.put, List.setIfInBounds_toArray, List.set_cons_zero, List.set_cons_succ]
  refine h_take 1 rfl (by kernel_rfl) (by kernel_rfl) (by kernel_rfl) (fun _ _ _ _ h => h) hS0 rfl ?_
  apply Exists.intro
  refine ⟨fun W hW => ?_, ?_⟩
  · have p2 := q2 W hW
    have p0 := q0 W hW
    have pl := ql W hW
    go_simp
    try rfl
  simp only [Act.put, List.setIfInBounds_toArray, List.set_cons_zero, List.set_cons_succ]
  refine h_take 2 rfl (by kernel_rfl) (by kernel_rfl) (by kernel_rfl) (fun _ _ _ _ h => h) hS0 rfl ?_
  apply Exists.intro
  refine ⟨fun W hW => ?_, ?_⟩
  · have p2 := q2 W hW
    have p0 := q0 W hW
    have pl := ql W hW
    go_simp
    try rfl
  simp only [Act.put, List.setIfInBounds_toArray, List.set_cons_zero, List.set_cons_succ]
  refine h_take 3 rfl (by kernel_rfl) (by kernel_rfl) (by kernel_rfl) (fun _ _ _ _ h => h) hS0 rfl ?_
  apply Exists.intro
  refine ⟨fun W hW => ?_, ?_⟩
  · have p2 := q2 W hW
    have p0 := q0 W hW
    have pl := ql W hW
    go_simp
    try rfl
  simp only [Act.put, List.setIfInBounds_toArray, List.set_cons_zero, List.set_cons_succ]
  refine h_take 4 rfl (by kernel_rfl) (by kernel_rfl) (by kernel_rfl) (fun _ _ _ _ h => h) hS0 rfl ?_
  apply Exists.intro
  refine ⟨fun W hW => ?_, ?_⟩
  · have p2 := q2 W hW
    have p0 := q0 W hW
    have pl := ql W hW
    go_simp
    try rfl
  simp only [Act.put, List.setIfInBounds_toArray, List.set_cons_zero, List.set_cons_succ]
  refine h_take 5 rfl (by kernel_rfl) (by kernel_rfl) (by kernel_rfl) (fun _ _ _ _ h => h) hS0 rfl ?_
  apply Exists.intro
  refine ⟨fun W hW => ?_, ?_⟩
  · have p2 := q2 W hW
    have p0 := q0 W hW
    have pl := ql W hW
    go_simp
    try rfl
  simp only [Act.put, List.setIfInBounds_toArray, List.set_cons_zero, List.set_cons_succ]
  refine h_take 6 rfl (by kernel_rfl) (by kernel_rfl) (by kernel_rfl) (fun _ _ _ _ h => h) hS0 rfl ?_
  apply Exists.intro
  refine ⟨fun W hW => ?_, ?_⟩
  · have p2 := q2 W hW
    have p0 := q0 W hW
    have pl := ql W hW
    go_simp
    try rfl
  simp only [Act.put, List.setIfInBounds_toArray, List.set_cons_zero, List.set_cons_succ]
  refine h_take 7 rfl (by kernel_rfl) (by kernel_rfl) (by kernel_rfl) (fun _ _ _ _ h => h) hS0 rfl ?_
  apply Exists.intro
  refine ⟨fun W hW => ?_, ?_⟩
  · have p2 := q2 W hW
    have p0 := q0 W hW
    have pl := ql W hW
    go_simp
    try rfl
  simp only [Act.put, List.setIfInBounds_toArray, List.set_cons_zero, List.set_cons_succ]
  refine h_take 8 rfl (by kernel_rfl) (by kernel_rfl) (by kernel_rfl) (fun _ _ _ _ h => h) hS0 rfl ?_
  apply Exists.intro
  refine ⟨fun W hW => ?_, ?_⟩
  · have p2 := q2 W hW
    have p0 := q0 W hW
    have pl := ql W hW
    go_simp
    try rfl
  simp only [Act.put, List.setIfInBounds_toArray, List.set_cons_zero, List.set_cons_succ]
  refine h_take 9 rfl (by kernel_rfl) (by kernel_rfl) (by kernel_rfl) (fun _ _ _ _ h => h) hS0 rfl ?_
  apply Exists.intro
  refine ⟨fun W hW => ?_, ?_⟩
  · have p2 := q2 W hW
    have p0 := q0 W hW
    have pl := ql W hW
    go_simp
    try rfl
  simp only [Act.put, List.setIfInBounds_toArray, List.set_cons_zero, List.set_cons_succ]
  refine h_one 10 rfl (by kernel_rfl) rfl ?_
  refine op_val (by go_simp; exact ⟨rfl, rfl⟩) ?_
  refine ⟨by rw [hSe]; exact below_drew1 (below_alloc (Below.refl _ _) _), ?_⟩
  simp only [Act.put, List.setIfInBounds_toArray, List.set_cons_zero, List.set_cons_succ]
  refine h_one 11 rfl (by kernel_rfl) rfl ?_
  refine op_skip (w1 := (w2.alloc (.cells #[.string ⟨#[]⟩, .int .i64 0, .int .i64 0, .int .i64 0] 96)).drew) (by go_simp) ?_
  refine ⟨by rw [hSe]; exact below_drew1 (below_alloc (Below.refl _ _) _), ?_⟩
  simp only [Act.put]
  refine h_one 12 rfl (by kernel_rfl) rfl ?_
  refine op_val (by go_simp; exact ⟨rfl, rfl⟩) ?_
  refine ⟨by rw [hSe]; exact below_drew1 (below_alloc (Below.refl _ _) _), ?_⟩
  simp only [Act.put, List.setIfInBounds_toArray, List.set_cons_zero, List.set_cons_succ]
  refine wpAnyH_done (by kernel_rfl) ?_ _
  have hwe : Below w2.heap.size w2 (w2.alloc (.cells #[.string ⟨#[]⟩, .int .i64 0, .int .i64 0, .int .i64 0] 96)).drew := below_drew1 (below_alloc (Below.refl _ _) _)
  have hbn : ((w2.alloc (.cells #[.string ⟨#[]⟩, .int .i64 0, .int .i64 0, .int .i64 0] 96)).drew).heap[w2.heap.size]? = some (.cells #[.string ⟨#[]⟩, .int .i64 0, .int .i64 0, .int .i64 0] 96 (0, 0)) := blk_new w2 _
  generalize (w2.alloc (.cells #[.string ⟨#[]⟩, .int .i64 0, .int .i64 0, .int .i64 0] 96)).drew = w3 at *
  have hbk3 := blk_below hbk2 hwe
  have hrbone : w2.heap.size ≠ b := by have := HW2.out.size; omega
  have HW3 := Aside0.mk (HW2.out.before hwe (by have := HW2.out.size; omega))
  generalize w2.heap.size = rone at *
  have hrwone3 := hbn
  clear q0 q2 ql hS0 hSe hwe kP hbk2 HW2 hbn hrwtwo2 hrwone3 hrbtwo hrbone
  have z0 := blk_cell hbk3 0
  have z1 := blk_cell hbk3 1
  have z2 := blk_cell hbk3 2
  have z3 := blk_cell hbk3 3
  have z4 := blk_cell hbk3 4
  have e1 : (x.f0 == 1) = false := by rw [HOP.out]; rfl
  have e2 : (x.f0 == 2) = false := by rw [HOP.out]; rfl
  have e20 : (x.f0 == 20) = false := by rw [HOP.out]; rfl
  have e5 : (x.f0 == 5) = false := by rw [HOP.out]; rfl
  have e45 : (x.f0 == 45) = true := by rw [HOP.out]; rfl
  go_wp2_with fail
  clear z0 z1 z2 z3 z4
  refine (writeL_walk B b m2 m1 _ [97, 108, 108, 32] _ HW3.out.1 ?a7 ?b8).mono ?_
  case a7 => have := HL.out; simp only [List.length_append, List.length_cons, List.length_nil, data_length] at this ⊢; omega
  case b8 => have := HW3.out.size; omega
  rintro e w4 ⟨rfl, hw4⟩
  have hbk4 := hw4.blk hbk3 hgb (by decide)
  have HW4 := Aside0.mk (HW3.out.trans hw4)
  clear hw4 HW3 hbk3  
  have z0 := blk_cell hbk4 0
  have z1 := blk_cell hbk4 1
  have z2 := blk_cell hbk4 2
  have z3 := blk_cell hbk4 3
  have z4 := blk_cell hbk4 4
  go_wp2_with fail
  clear z0 z1 z2 z3 z4
  refine (bound_walk x H0.out H1.out w0 B b m2 m1 _ _ _ HX.out ?a9 hB0 HT.out HW4.out.1 ?a10).mono ?_
  case a9 => exact HW4.out.from_ HB0.out hB0
  case a10 => have := HL.out; simp only [List.length_append, List.length_cons, List.length_nil, data_length] at this ⊢; omega
  rintro e w5 ⟨rfl, hw5⟩
  have hbk5 := hw5.blk hbk4 hgb (by decide)
  have HW5 := Aside0.mk (HW4.out.trans hw5)
  clear hw5 HW4 hbk4  
  go_wp2_with fail
  go_end0
  exact ⟨rfl, HW5.out⟩
set_option maxHeartbeats 4000000 in
set_option maxRecDepth 100000 in
theorem node_some (x : S24) (hop : x.f0 = 46) (hbn : atT x.f0 binT = none) (hb : atT x.f0 preT = none) (h0 : OprC (x.f3.getD 0 z24)) (h1 : NodeC (x.f3.getD 1 z24)) : NodeC x := by
  intro w0 B b m2 m1 bs w cs fin hx hb0 hB0 ht hP hlen
  obtain ⟨A, c, rfl, hlc, hA⟩ := k24_open hx
  have HX := Aside0.mk hx
  have HA := Aside0.mk hA
  have HP := Aside0.mk hP
  have HT := Aside0.mk ht
  have HB0 := Aside0.mk hb0
  have hlt := hP.lt
  have hlow := hP.low
  have hu24 := Tryd.underlying24
  have hu96 := Tryd.underlying96
  have htx : txt x fin = [115, 111, 109, 101, 32] ++ bnd x := by rw [txt_def, hbn, hb]; simp [hop]
  rw [htx] at hlen ⊢
  have HL := Aside0.mk hlen
  have HQtwo := Aside0.mk hbn
  have HQone := Aside0.mk hb
  have HOP := Aside0.mk hop
  have H0 := Aside0.mk h0
  have H1 := Aside0.mk h1
  have hass : bs ++ ([115, 111, 109, 101, 32] ++ bnd x) = (bs ++ [115, 111, 109, 101, 32]) ++ bnd x := by simp
  rw [hass]
  clear hx hP ht hb0 hA hlc htx hlen hb hbn hop h0 h1 hass
  go_enter Tryd.func38, Tryd.ntmps38
  go_wp2_with ((with_reducible refine gate_dst (N := 4) rfl ?_); refine box_event rfl (N := 4) rfl (cs := #[.int .i64 x.f0, .string x.f1, .int .i64 x.f2, .slice A x.f3.length c, .int .i64 x.f4]) (t := 24) (by first | (go_simp; done) | (go_simp; rfl)) ?_; intro g hg w1 hbk1 hb1; have HG := Aside0.mk hg; clear hg)
  have HW1 := Aside0.mk (show Wrote B b m2 m1 bs w w1 from ⟨HP.out.below hb1, hb1.mono (by omega), fun i o hi _ _ => (hb1.block i (blk_lt hi)).trans hi⟩)
  have hgb : g ≠ b := by have := HG.out; omega
  clear hb1
  obtain ⟨S, hSe⟩ : ∃ S : World → Prop, S = fun W => Below w1.heap.size w1 W := ⟨_, rfl⟩
  obtain ⟨p, v, kP⟩ := HW1.out.1
  have q2 : ∀ W, S W → W.cell? ⟨b, 2, none⟩ = some (.map (some m2)) := fun W hW => by rw [hSe] at hW; exact blk_cell (blk_below kP.blk hW) 2
  have q0 : ∀ W, S W → W.cell? ⟨g, 0, none⟩ = some (.int .i64 x.f0) := fun W hW => by rw [hSe] at hW; exact blk_cell (blk_below hbk1 hW) 0
  have ql : ∀ W, S W → (Instr.lookup 73 (.map (some m2)) (.int .i64 x.f0) true).run Tryd.prog W = .ok (.tuple #[.agg #[.string ⟨#[]⟩, .int .i64 0, .int .i64 0, .int .i64 0], .bool false]) W := fun W hW => by
    rw [hSe] at hW
    rw [look_tab W m2 binT 17 (kP.below hW).two, HQtwo.out]
    rfl
  have hS0 : S w1.drew := by rw [hSe]; exact below_drew1 (Below.refl _ _)
  refine wp_region_held_drew (S := S) (by kernel_rfl) hS0 (fun _ => ?_)
  refine h_take 0 rfl (by kernel_rfl) (by kernel_rfl) (by kernel_rfl) (fun _ _ _ _ h => h) hS0 rfl ?_
  apply Exists.intro
  refine ⟨fun W hW => ?_, ?_⟩
  · have p2 := q2 W hW
    have p0 := q0 W hW
    have pl := ql W hW
    go_simp
    try rfl
  simp only [Act.put, List.setIfInBounds_toArray, List.set_cons_zero, List.set_cons_succ]
  refine h_take 1 rfl (by kernel_rfl) (by kernel_rfl) (by kernel_rfl) (fun _ _ _ _ h => h) hS0 rfl ?_
  apply Exists.intro
  refine ⟨fun W hW => ?_, ?_⟩
  · have p2 := q2 W hW
    have p0 := q0 W hW
    have pl := ql W hW
    go_simp
    try rfl
  simp only [Act.put, List.setIfInBounds_toArray, List.set_cons_zero, List.set_cons_succ]
  refine h_take 2 rfl (by kernel_rfl) (by kernel_rfl) (by kernel_rfl) (fun _ _ _ _ h => h) hS0 rfl ?_
  apply Exists.intro
  refine ⟨fun W hW => ?_, ?_⟩
  · have p2 := q2 W hW
    have p0 := q0 W hW
    have pl := ql W hW
    go_simp
    try rfl
  simp only [Act.put, List.setIfInBounds_toArray, List.set_cons_zero, List.set_cons_succ]
  refine h_take 3 rfl (by kernel_rfl) (by kernel_rfl) (by kernel_rfl) (fun _ _ _ _ h => h) hS0 rfl ?_
  apply Exists.intro
  refine ⟨fun W hW => ?_, ?_⟩
  · have p2 := q2 W hW
    have p0 := q0 W hW
    have pl := ql W hW
    go_simp
    try rfl
  simp only [Act.put, List.setIfInBounds_toArray, List.set_cons_zero, List.set_cons_succ]
  refine h_take 4 rfl (by kernel_rfl) (by kernel_rfl) (by kernel_rfl) (fun _ _ _ _ h => h) hS0 rfl ?_
  apply Exists.intro
  refine ⟨fun W hW => ?_, ?_⟩
  · have p2 := q2 W hW
    have p0 := q0 W hW
    have pl := ql W hW
    go_simp
    try rfl
  simp only [Act.put, List.setIfInBounds_toArray, List.set_cons_zero, List.set_cons_succ]
  refine h_take 5 rfl (by kernel_rfl) (by kernel_rfl) (by kernel_rfl) (fun _ _ _ _ h => h) hS0 rfl ?_
  apply Exists.intro
  refine ⟨fun W hW => ?_, ?_⟩
  · have p2 := q2 W hW
    have p0 := q0 W hW
    have pl := ql W hW
    go_simp
    try rfl
  simp only [Act.put, List.setIfInBounds_toArray, List.set_cons_zero, List.set_cons_succ]
  refine h_take 6 rfl (by kernel_rfl) (by kernel_rfl) (by kernel_rfl) (fun _ _ _ _ h => h) hS0 rfl ?_
  apply Exists.intro
  refine ⟨fun W hW => ?_, ?_⟩
  · have p2 := q2 W hW
    have p0 := q0 W hW
    have pl := ql W hW
    go_simp
    try rfl
  simp only [Act.put, List.setIfInBounds_toArray, List.set_cons_zero, List.set_cons_succ]
  refine h_take 7 rfl (by kernel_rfl) (by kernel_rfl) (by kernel_rfl) (fun _ _ _ _ h => h) hS0 rfl ?_
  apply Exists.intro
  refine ⟨fun W hW => ?_, ?_⟩
  · have p2 := q2 W hW
    have p0 := q0 W hW
    have pl := ql W hW
    go_simp
    try rfl
  simp only [Act.put, List.setIfInBounds_toArray, List.set_cons_zero, List.set_cons_succ]
  refine h_take 8 rfl (by kernel_rfl) (by kernel_rfl) (by kernel_rfl) (fun _ _ _ _ h => h) hS0 rfl ?_
  apply Exists.intro
  refine ⟨fun W hW => ?_, ?_⟩
  · have p2 := q2 W hW
    have p0 := q0 W hW
    have pl := ql W hW
    go_simp
    try rfl
  simp only [Act.put, List.setIfInBounds_toArray, List.set_cons_zero, List.set_cons_succ]
  refine h_take 9 rfl (by kernel_rfl) (by kernel_rfl) (by kernel_rfl) (fun _ _ _ _ h => h) hS0 rfl ?_
  apply Exists.intro
  refine ⟨fun W hW => ?_, ?_⟩
  · have p2 := q2 W hW
    have p0 := q0 W hW
    have pl := ql W hW
    go_simp
    try rfl
  simp only [Act.put, List.setIfInBounds_toArray, List.set_cons_zero, List.set_cons_succ]
  refine h_one 10 rfl (by kernel_rfl) rfl ?_
  refine op_val (by go_simp; exact ⟨rfl, rfl⟩) ?_
  refine ⟨by rw [hSe]; exact below_drew1 (below_alloc (Below.refl _ _) _), ?_⟩
  simp only [Act.put, List.setIfInBounds_toArray, List.set_cons_zero, List.set_cons_succ]
  refine h_one 11 rfl (by kernel_rfl) rfl ?_
  refine op_skip (w1 := (w1.alloc (.cells #[.string ⟨#[]⟩, .int .i64 0, .int .i64 0, .int .i64 0] 96)).drew) (by go_simp) ?_
  refine ⟨by rw [hSe]; exact below_drew1 (below_alloc (Below.refl _ _) _), ?_⟩
  simp only [Act.put]
  refine h_one 12 rfl (by kernel_rfl) rfl ?_
  refine op_val (by go_simp; exact ⟨rfl, rfl⟩) ?_
  refine ⟨by rw [hSe]; exact below_drew1 (below_alloc (Below.refl _ _) _), ?_⟩
  simp only [Act.put, List.setIfInBounds_toArray, List.set_cons_zero, List.set_cons_succ]
  refine wpAnyH_done (by kernel_rfl) ?_ _
  have hwe : Below w1.heap.size w1 (w1.alloc (.cells #[.string ⟨#[]⟩, .int .i64 0, .int .i64 0, .int .i64 0] 96)).drew := below_drew1 (below_alloc (Below.refl _ _) _)
  have hbn : ((w1.alloc (.cells #[.string ⟨#[]⟩, .int .i64 0, .int .i64 0, .int .i64 0] 96)).drew).heap[w1.heap.size]? = some (.cells #[.string ⟨#[]⟩, .int .i64 0, .int .i64 0, .int .i64 0] 96 (0, 0)) := blk_new w1 _
  generalize (w1.alloc (.cells #[.string ⟨#[]⟩, .int .i64 0, .int .i64 0, .int .i64 0] 96)).drew = w2 at *
  have hbk2 := blk_below hbk1 hwe
  have hrbtwo : w1.heap.size ≠ b := by have := HW1.out.size; omega
  have HW2 := Aside0.mk (HW1.out.before hwe (by have := HW1.out.size; omega))
  generalize w1.heap.size = rtwo at *
  have hrwtwo2 := hbn
  clear q0 q2 ql hS0 hSe hwe kP hbk1 HW1 hbn
  go_wp2_with fail
  obtain ⟨S, hSe⟩ : ∃ S : World → Prop, S = fun W => Below w2.heap.size w2 W := ⟨_, rfl⟩
  obtain ⟨p, v, kP⟩ := HW2.out.1
  have q2 : ∀ W, S W → W.cell? ⟨b, 3, none⟩ = some (.map (some m1)) := fun W hW => by rw [hSe] at hW; exact blk_cell (blk_below kP.blk hW) 3
  have q0 : ∀ W, S W → W.cell? ⟨g, 0, none⟩ = some (.int .i64 x.f0) := fun W hW => by rw [hSe] at hW; exact blk_cell (blk_below hbk2 hW) 0
  have ql : ∀ W, S W → (Instr.lookup 73 (.map (some m1)) (.int .i64 x.f0) true).run Tryd.prog W = .ok (.tuple #[.agg #[.string ⟨#[]⟩, .int .i64 0, .int .i64 0, .int .i64 0], .bool false]) W := fun W hW => by
    rw [hSe] at hW
    rw [look_tab W m1 preT 12 (kP.below hW).one, HQone.out]
    rfl
  have hS0 : S w2.drew := by rw [hSe]; exact below_drew1 (Below.refl _ _)
  refine wp_region_held_drew (S := S) (by kernel_rfl) hS0 (fun _ => ?_)
  refine h_take 0 rfl (by kernel_rfl) (by kernel_rfl) (by kernel_rfl) (fun _ _ _ _ h => h) hS0 rfl ?_
  apply Exists.intro
  refine ⟨fun W hW => ?_, ?_⟩
  · have p2 := q2 W hW
    have p0 := q0 W hW
    have pl := ql W hW
    go_simp
    try rfl
  simp only [Act.put, List.setIfInBounds_toArray, List.set_cons_zero, List.set_cons_succ]
  refine h_take 1 rfl (by kernel_rfl) (by kernel_rfl) (by kernel_rfl) (fun _ _ _ _ h => h) hS0 rfl ?_
  apply Exists.intro
  refine ⟨fun W hW => ?_, ?_⟩
  · have p2 := q2 W hW
    have p0 := q0 W hW
    have pl := ql W hW
    go_simp
    try rfl
  simp only [Act.put, List.setIfInBounds_toArray, List.set_cons_zero, List.set_cons_succ]
  refine h_take 2 rfl (by kernel_rfl) (by kernel_rfl) (by kernel_rfl) (fun _ _ _ _ h => h) hS0 rfl ?_
  apply Exists.intro
  refine ⟨fun W hW => ?_, ?_⟩
  · have p2 := q2 W hW
    have p0 := q0 W hW
    have pl := ql W hW
    go_simp
    try rfl
  simp only [Act.put, List.setIfInBounds_toArray, List.set_cons_zero, List.set_cons_succ]
  refine h_take 3 rfl (by kernel_rfl) (by kernel_rfl) (by kernel_rfl) (fun _ _ _ _ h => h) hS0 rfl ?_
  apply Exists.intro
  refine ⟨fun W hW => ?_, ?_⟩
  · have p2 := q2 W hW
    have p0 := q0 W hW
    have pl := ql W hW
    go_simp
    try rfl
  simp only [Act.put, List.setIfInBounds_toArray, List.set_cons_zero, List.set_cons_succ]
  refine h_take 4 rfl (by kernel_rfl) (by kernel_rfl) (by kernel_rfl) (fun _ _ _ _ h => h) hS0 rfl ?_
  apply Exists.intro
  refine ⟨fun W hW => ?_, ?_⟩
  · have p2 := q2 W hW
    have p0 := q0 W hW
    have pl := ql W hW
    go_simp
    try rfl
  simp only [Act.put, List.setIfInBounds_toArray, List.set_cons_zero, List.set_cons_succ]
  refine h_take 5 rfl (by kernel_rfl) (by kernel_rfl) (by kernel_rfl) (fun _ _ _ _ h => h) hS0 rfl ?_
  apply Exists.intro
  refine ⟨fun W hW => ?_, ?_⟩
  · have p2 := q2 W hW
    have p0 := q0 W hW
    have pl := ql W hW
    go_simp
    try rfl
  simp only [Act.put, List.setIfInBounds_toArray, List.set_cons_zero, List.set_cons_succ]
  refine h_take 6 rfl (by kernel_rfl) (by kernel_rfl) (by kernel_rfl) (fun _ _ _ _ h => h) hS0 rfl ?_
  apply Exists.intro
  refine ⟨fun W hW => ?_, ?_⟩
  · have p2 := q2 W hW
    have p0 := q0 W hW
    have pl := ql W hW
    go_simp
    try rfl
  simp only [Act.put, List.setIfInBounds_toArray, List.set_cons_zero, List.set_cons_succ]
  refine h_take 7 rfl (by kernel_rfl) (by kernel_rfl) (by kernel_rfl) (fun _ _ _ _ h => h) hS0 rfl ?_
  apply Exists.intro
  refine ⟨fun W hW => ?_, ?_⟩
  · have p2 := q2 W hW
    have p0 := q0 W hW
    have pl := ql W hW
    go_simp
    try rfl
  simp only [Act.put, List.setIfInBounds_toArray, List.set_cons_zero, List.set_cons_succ]
  refine h_take 8 rfl (by kernel_rfl) (by kernel_rfl) (by kernel_rfl) (fun _ _ _ _ h => h) hS0 rfl ?_
  apply Exists.intro
  refine ⟨fun W hW => ?_, ?_⟩
  · have p2 := q2 W hW
    have p0 := q0 W hW
    have pl := ql W hW
    go_simp
    try rfl
  simp only [Act.put, List.setIfInBounds_toArray, List.set_cons_zero, List.set_cons_succ]
  refine h_take 9 rfl (by kernel_rfl) (by kernel_rfl) (by kernel_rfl) (fun _ _ _ _ h => h) hS0 rfl ?_
  apply Exists.intro
  refine ⟨fun W hW => ?_, ?_⟩
  · have p2 := q2 W hW
    have p0 := q0 W hW
    have pl := ql W hW
    go_simp
    try rfl
  simp only [Act.put, List.setIfInBounds_toArray, List.set_cons_zero, List.set_cons_succ]
  refine h_one 10 rfl (by kernel_rfl) rfl ?_
  refine op_val (by go_simp; exact ⟨rfl, rfl⟩) ?_
  refine ⟨by rw [hSe]; exact below_drew1 (below_alloc (Below.refl _ _) _), ?_⟩
  simp only [Act.put, List.setIfInBounds_toArray, List.set_cons_zero, List.set_cons_succ]
  refine h_one 11 rfl (by kernel_rfl) rfl ?_
  refine op_skip (w1 := (w2.alloc (.cells #[.string ⟨#[]⟩, .int .i64 0, .int .i64 0, .int .i64 0] 96)).drew) (by go_simp) ?_
  refine ⟨by rw [hSe]; exact below_drew1 (below_alloc (Below.refl _ _) _), ?_⟩
  simp only [Act.put]
  refine h_one 12 rfl (by kernel_rfl) rfl ?_
  refine op_val (by go_simp; exact ⟨rfl, rfl⟩) ?_
  refine ⟨by rw [hSe]; exact below_drew1 (below_alloc (Below.refl _ _) _), ?_⟩
  simp only [Act.put, List.setIfInBounds_toArray, List.set_cons_zero, List.set_cons_succ]
  refine wpAnyH_done (by kernel_rfl) ?_ _
  have hwe : Below w2.heap.size w2 (w2.alloc (.cells #[.string ⟨#[]⟩, .int .i64 0, .int .i64 0, .int .i64 0] 96)).drew := below_drew1 (below_alloc (Below.refl _ _) _)
  have hbn : ((w2.alloc (.cells #[.string ⟨#[]⟩, .int .i64 0, .int .i64 0, .int .i64 0] 96)).drew).heap[w2.heap.size]? = some (.cells #[.string ⟨#[]⟩, .int .i64 0, .int .i64 0, .int .i64 0] 96 (0, 0)) := blk_new w2 _
  generalize (w2.alloc (.cells #[.string ⟨#[]⟩, .int .i64 0, .int .i64 0, .int .i64 0] 96)).drew = w3 at *
  have hbk3 := blk_below hbk2 hwe
  have hrbone : w2.heap.size ≠ b := by have := HW2.out.size; omega
  have HW3 := Aside0.mk (HW2.out.before hwe (by have := HW2.out.size; omega))
  generalize w2.heap.size = rone at *
  have hrwone3 := hbn
  clear q0 q2 ql hS0 hSe hwe kP hbk2 HW2 hbn hrwtwo2 hrwone3 hrbtwo hrbone
  have z0 := blk_cell hbk3 0
  have z1 := blk_cell hbk3 1
  have z2 := blk_cell hbk3 2
  have z3 := blk_cell hbk3 3
  have z4 := blk_cell hbk3 4
  have e1 : (x.f0 == 1) = false := by rw [HOP.out]; rfl
  have e2 : (x.f0 == 2) = false := by rw [HOP.out]; rfl
  have e20 : (x.f0 == 20) = false := by rw [HOP.out]; rfl
  have e5 : (x.f0 == 5) = false := by rw [HOP.out]; rfl
  have e45 : (x.f0 == 45) = false := by rw [HOP.out]; rfl
  have e46 : (x.f0 == 46) = true := by rw [HOP.out]; rfl
  go_wp2_with fail
  clear z0 z1 z2 z3 z4
  refine (writeL_walk B b m2 m1 _ [115, 111, 109, 101, 32] _ HW3.out.1 ?a11 ?b12).mono ?_
  case a11 => have := HL.out; simp only [List.length_append, List.length_cons, List.length_nil, data_length] at this ⊢; omega
  case b12 => have := HW3.out.size; omega
  rintro e w4 ⟨rfl, hw4⟩
  have hbk4 := hw4.blk hbk3 hgb (by decide)
  have HW4 := Aside0.mk (HW3.out.trans hw4)
  clear hw4 HW3 hbk3  
  have z0 := blk_cell hbk4 0
  have z1 := blk_cell hbk4 1
  have z2 := blk_cell hbk4 2
  have z3 := blk_cell hbk4 3
  have z4 := blk_cell hbk4 4
  go_wp2_with fail
  clear z0 z1 z2 z3 z4
  refine (bound_walk x H0.out H1.out w0 B b m2 m1 _ _ _ HX.out ?a13 hB0 HT.out HW4.out.1 ?a14).mono ?_
  case a13 => exact HW4.out.from_ HB0.out hB0
  case a14 => have := HL.out; simp only [List.length_append, List.length_cons, List.length_nil, data_length] at this ⊢; omega
  rintro e w5 ⟨rfl, hw5⟩
  have hbk5 := hw5.blk hbk4 hgb (by decide)
  have HW5 := Aside0.mk (HW4.out.trans hw5)
  clear hw5 HW4 hbk4  
  go_wp2_with fail
  go_end0
  exact ⟨rfl, HW5.out⟩
set_option maxHeartbeats 4000000 in
set_option maxRecDepth 100000 in
theorem node_compr (x : S24) (hop : x.f0 = 15) (hbn : atT x.f0 binT = none) (hb : atT x.f0 preT = none) (h0 : OprC (x.f3.getD 0 z24)) (h1 : NodeC (x.f3.getD 1 z24)) : NodeC x := by
  intro w0 B b m2 m1 bs w cs fin hx hb0 hB0 ht hP hlen
  obtain ⟨A, c, rfl, hlc, hA⟩ := k24_open hx
  have HX := Aside0.mk hx
  have HA := Aside0.mk hA
  have HP := Aside0.mk hP
  have HT := Aside0.mk ht
  have HB0 := Aside0.mk hb0
  have hlt := hP.lt
  have hlow := hP.low
  have hu24 := Tryd.underlying24
  have hu96 := Tryd.underlying96
  have htx : txt x fin = [123] ++ bnd x ++ [125] := by rw [txt_def, hbn, hb]; simp [hop]
  rw [htx] at hlen ⊢
  have HL := Aside0.mk hlen
  have HQtwo := Aside0.mk hbn
  have HQone := Aside0.mk hb
  have HOP := Aside0.mk hop
  have H0 := Aside0.mk h0
  have H1 := Aside0.mk h1
  have hass : bs ++ ([123] ++ bnd x ++ [125]) = ((bs ++ [123]) ++ bnd x) ++ [125] := by simp
  rw [hass]
  clear hx hP ht hb0 hA hlc htx hlen hb hbn hop h0 h1 hass
  go_enter Tryd.func38, Tryd.ntmps38
  go_wp2_with ((with_reducible refine gate_dst (N := 4) rfl ?_); refine box_event rfl (N := 4) rfl (cs := #[.int .i64 x.f0, .string x.f1, .int .i64 x.f2, .slice A x.f3.length c, .int .i64 x.f4]) (t := 24) (by first | (go_simp; done) | (go_simp; rfl)) ?_; intro g hg w1 hbk1 hb1; have HG := Aside0.mk hg; clear hg)
  have HW1 := Aside0.mk (show Wrote B b m2 m1 bs w w1 from ⟨HP.out.below hb1, hb1.mono (by omega), fun i o hi _ _ => (hb1.block i (blk_lt hi)).trans hi⟩)
  have hgb : g ≠ b := by have := HG.out; omega
  clear hb1
  obtain ⟨S, hSe⟩ : ∃ S : World → Prop, S = fun W => Below w1.heap.size w1 W := ⟨_, rfl⟩
  obtain ⟨p, v, kP⟩ := HW1.out.1
  have q2 : ∀ W, S W → W.cell? ⟨b, 2, none⟩ = some (.map (some m2)) := fun W hW => by rw [hSe] at hW; exact blk_cell (blk_below kP.blk hW) 2
  have q0 : ∀ W, S W → W.cell? ⟨g, 0, none⟩ = some (.int .i64 x.f0) := fun W hW => by rw [hSe] at hW; exact blk_cell (blk_below hbk1 hW) 0
  have ql : ∀ W, S W → (Instr.lookup 73 (.map (some m2)) (.int .i64 x.f0) true).run Tryd.prog W = .ok (.tuple #[.agg #[.string ⟨#[]⟩, .int .i64 0, .int .i64 0, .int .i64 0], .bool false]) W := fun W hW => by
    rw [hSe] at hW
    rw [look_tab W m2 binT 17 (kP.below hW).two, HQtwo.out]
    rfl
  have hS0 : S w1.drew := by rw [hSe]; exact below_drew1 (Below.refl _ _)
  refine wp_region_held_drew (S := S) (by kernel_rfl) hS0 (fun _ => ?_)
  refine h_take 0 rfl (by kernel_rfl) (by kernel_rfl) (by kernel_rfl) (fun _ _ _ _ h => h) hS0 rfl ?_
  apply Exists.intro
  refine ⟨fun W hW => ?_, ?_⟩
  · have p2 := q2 W hW
    have p0 := q0 W hW
    have pl := ql W hW
    go_simp
    try rfl
  simp only [Act.put, List.setIfInBounds_toArray, List.set_cons_zero, List.set_cons_succ]
  refine h_take 1 rfl (by kernel_rfl) (by kernel_rfl) (by kernel_rfl) (fun _ _ _ _ h => h) hS0 rfl ?_
  apply Exists.intro
  refine ⟨fun W hW => ?_, ?_⟩
  · have p2 := q2 W hW
    have p0 := q0 W hW
    have pl := ql W hW
    go_simp
    try rfl
  simp only [Act.put, List.setIfInBounds_toArray, List.set_cons_zero, List.set_cons_succ]
  refine h_take 2 rfl (by kernel_rfl) (by kernel_rfl) (by kernel_rfl) (fun _ _ _ _ h => h) hS0 rfl ?_
  apply Exists.intro
  refine ⟨fun W hW => ?_, ?_⟩
  · have p2 := q2 W hW
    have p0 := q0 W hW
    have pl := ql W hW
    go_simp
    try rfl
  simp only [Act.put, List.setIfInBounds_toArray, List.set_cons_zero, List.set_cons_succ]
  refine h_take 3 rfl (by kernel_rfl) (by kernel_rfl) (by kernel_rfl) (fun _ _ _ _ h => h) hS0 rfl ?_
  apply Exists.intro
  refine ⟨fun W hW => ?_, ?_⟩
  · have p2 := q2 W hW
    have p0 := q0 W hW
    have pl := ql W hW
    go_simp
    try rfl
  simp only [Act.put, List.setIfInBounds_toArray, List.set_cons_zero, List.set_cons_succ]
  refine h_take 4 rfl (by kernel_rfl) (by kernel_rfl) (by kernel_rfl) (fun _ _ _ _ h => h) hS0 rfl ?_
  apply Exists.intro
  refine ⟨fun W hW => ?_, ?_⟩
  · have p2 := q2 W hW
    have p0 := q0 W hW
    have pl := ql W hW
    go_simp
    try rfl
  simp only [Act.put, List.setIfInBounds_toArray, List.set_cons_zero, List.set_cons_succ]
  refine h_take 5 rfl (by kernel_rfl) (by kernel_rfl) (by kernel_rfl) (fun _ _ _ _ h => h) hS0 rfl ?_
  apply Exists.intro
  refine ⟨fun W hW => ?_, ?_⟩
  · have p2 := q2 W hW
    have p0 := q0 W hW
    have pl := ql W hW
    go_simp
    try rfl
  simp only [Act.put, List.setIfInBounds_toArray, List.set_cons_zero, List.set_cons_succ]
  refine h_take 6 rfl (by kernel_rfl) (by kernel_rfl) (by kernel_rfl) (fun _ _ _ _ h => h) hS0 rfl ?_
  apply Exists.intro
  refine ⟨fun W hW => ?_, ?_⟩
  · have p2 := q2 W hW
    have p0 := q0 W hW
    have pl := ql W hW
    go_simp
    try rfl
  simp only [Act.put, List.setIfInBounds_toArray, List.set_cons_zero, List.set_cons_succ]
  refine h_take 7 rfl (by kernel_rfl) (by kernel_rfl) (by kernel_rfl) (fun _ _ _ _ h => h) hS0 rfl ?_
  apply Exists.intro
  refine ⟨fun W hW => ?_, ?_⟩
  · have p2 := q2 W hW
    have p0 := q0 W hW
    have pl := ql W hW
    go_simp
    try rfl
  simp only [Act.put, List.setIfInBounds_toArray, List.set_cons_zero, List.set_cons_succ]
  refine h_take 8 rfl (by kernel_rfl) (by kernel_rfl) (by kernel_rfl) (fun _ _ _ _ h => h) hS0 rfl ?_
  apply Exists.intro
  refine ⟨fun W hW => ?_, ?_⟩
  · have p2 := q2 W hW
    have p0 := q0 W hW
    have pl := ql W hW
    go_simp
    try rfl
  simp only [Act.put, List.setIfInBounds_toArray, List.set_cons_zero, List.set_cons_succ]
  refine h_take 9 rfl (by kernel_rfl) (by kernel_rfl) (by kernel_rfl) (fun _ _ _ _ h => h) hS0 rfl ?_
  apply Exists.intro
  refine ⟨fun W hW => ?_, ?_⟩
  · have p2 := q2 W hW
    have p0 := q0 W hW
    have pl := ql W hW
    go_simp
    try rfl
  simp only [Act.put, List.setIfInBounds_toArray, List.set_cons_zero, List.set_cons_succ]
  refine h_one 10 rfl (by kernel_rfl) rfl ?_
  refine op_val (by go_simp; exact ⟨rfl, rfl⟩) ?_
  refine ⟨by rw [hSe]; exact below_drew1 (below_alloc (Below.refl _ _) _), ?_⟩
  simp only [Act.put, List.setIfInBounds_toArray, List.set_cons_zero, List.set_cons_succ]
  refine h_one 11 rfl (by kernel_rfl) rfl ?_
  refine op_skip (w1 := (w1.alloc (.cells #[.string ⟨#[]⟩, .int .i64 0, .int .i64 0, .int .i64 0] 96)).drew) (by go_simp) ?_
  refine ⟨by rw [hSe]; exact below_drew1 (below_alloc (Below.refl _ _) _), ?_⟩
  simp only [Act.put]
  refine h_one 12 rfl (by kernel_rfl) rfl ?_
  refine op_val (by go_simp; exact ⟨rfl, rfl⟩) ?_
  refine ⟨by rw [hSe]; exact below_drew1 (below_alloc (Below.refl _ _) _), ?_⟩
  simp only [Act.put, List.setIfInBounds_toArray, List.set_cons_zero, List.set_cons_succ]
  refine wpAnyH_done (by kernel_rfl) ?_ _
  have hwe : Below w1.heap.size w1 (w1.alloc (.cells #[.string ⟨#[]⟩, .int .i64 0, .int .i64 0, .int .i64 0] 96)).drew := below_drew1 (below_alloc (Below.refl _ _) _)
  have hbn : ((w1.alloc (.cells #[.string ⟨#[]⟩, .int .i64 0, .int .i64 0, .int .i64 0] 96)).drew).heap[w1.heap.size]? = some (.cells #[.string ⟨#[]⟩, .int .i64 0, .int .i64 0, .int .i64 0] 96 (0, 0)) := blk_new w1 _
  generalize (w1.alloc (.cells #[.string ⟨#[]⟩, .int .i64 0, .int .i64 0, .int .i64 0] 96)).drew = w2 at *
  have hbk2 := blk_below hbk1 hwe
  have hrbtwo : w1.heap.size ≠ b := by have := HW1.out.size; omega
  have HW2 := Aside0.mk (HW1.out.before hwe (by have := HW1.out.size; omega))
  generalize w1.heap.size = rtwo at *
  have hrwtwo2 := hbn
  clear q0 q2 ql hS0 hSe hwe kP hbk1 HW1 hbn
  go_wp2_with fail
  obtain ⟨S, hSe⟩ : ∃ S : World → Prop, S = fun W => Below w2.heap.size w2 W := ⟨_, rfl⟩
  obtain ⟨p, v, kP⟩ := HW2.out.1
  have q2 : ∀ W, S W → W.cell? ⟨b, 3, none⟩ = some (.map (some m1)) := fun W hW => by rw [hSe] at hW; exact blk_cell (blk_below kP.blk hW) 3
  have q0 : ∀ W, S W → W.cell? ⟨g, 0, none⟩ = some (.int .i64 x.f0) := fun W hW => by rw [hSe] at hW; exact blk_cell (blk_below hbk2 hW) 0
  have ql : ∀ W, S W → (Instr.lookup 73 (.map (some m1)) (.int .i64 x.f0) true).run Tryd.prog W = .ok (.tuple #[.agg #[.string ⟨#[]⟩, .int .i64 0, .int .i64 0, .int .i64 0], .bool false]) W := fun W hW => by
    rw [hSe] at hW
    rw [look_tab W m1 preT 12 (kP.below hW).one, HQone.out]
    rfl
  have hS0 : S w2.drew := by rw [hSe]; exact below_drew1 (Below.refl _ _)
  refine wp_region_held_drew (S := S) (by kernel_rfl) hS0 (fun _ => ?_)
  refine h_take 0 rfl (by kernel_rfl) (by kernel_rfl) (by kernel_rfl) (fun _ _ _ _ h => h) hS0 rfl ?_
  apply Exists.intro
  refine ⟨fun W hW => ?_, ?_⟩
  · have p2 := q2 W hW
    have p0 := q0 W hW
    have pl := ql W hW
    go_simp
    try rfl
  simp only [Act.put, List.setIfInBounds_toArray, List.set_cons_zero, List.set_cons_succ]
  refine h_take 1 rfl (by kernel_rfl) (by kernel_rfl) (by kernel_rfl) (fun _ _ _ _ h => h) hS0 rfl ?_
  apply Exists.intro
  refine ⟨fun W hW => ?_, ?_⟩
  · have p2 := q2 W hW
    have p0 := q0 W hW
    have pl := ql W hW
    go_simp
    try rfl
  simp only [Act.put, List.setIfInBounds_toArray, List.set_cons_zero, List.set_cons_succ]
  refine h_take 2 rfl (by kernel_rfl) (by kernel_rfl) (by kernel_rfl) (fun _ _ _ _ h => h) hS0 rfl ?_
  apply Exists.intro
  refine ⟨fun W hW => ?_, ?_⟩
  · have p2 := q2 W hW
    have p0 := q0 W hW
    have pl := ql W hW
    go_simp
    try rfl
  simp only [Act.put, List.setIfInBounds_toArray, List.set_cons_zero, List.set_cons_succ]
  refine h_take 3 rfl (by kernel_rfl) (by kernel_rfl) (by kernel_rfl) (fun _ _ _ _ h => h) hS0 rfl ?_
  apply Exists.intro
  refine ⟨fun W hW => ?_, ?_⟩
  · have p2 := q2 W hW
    have p0 := q0 W hW
    have pl := ql W hW
    go_simp
    try rfl
  simp only [Act.put, List.setIfInBounds_toArray, List.set_cons_zero, List.set_cons_succ]
  refine h_take 4 rfl (by kernel_rfl) (by kernel_rfl) (by kernel_rfl) (fun _ _ _ _ h => h) hS0 rfl ?_
  apply Exists.intro
  refine ⟨fun W hW => ?_, ?_⟩
  · have p2 := q2 W hW
    have p0 := q0 W hW
    have pl := ql W hW
    go_simp
    try rfl
  simp only [Act.put, List.setIfInBounds_toArray, List.set_cons_zero, List.set_cons_succ]
  refine h_take 5 rfl (by kernel_rfl) (by kernel_rfl) (by kernel_rfl) (fun _ _ _ _ h => h) hS0 rfl ?_
  apply Exists.intro
  refine ⟨fun W hW => ?_, ?_⟩
  · have p2 := q2 W hW
    have p0 := q0 W hW
    have pl := ql W hW
    go_simp
    try rfl
  simp only [Act.put, List.setIfInBounds_toArray, List.set_cons_zero, List.set_cons_succ]
  refine h_take 6 rfl (by kernel_rfl) (by kernel_rfl) (by kernel_rfl) (fun _ _ _ _ h => h) hS0 rfl ?_
  apply Exists.intro
  refine ⟨fun W hW => ?_, ?_⟩
  · have p2 := q2 W hW
    have p0 := q0 W hW
    have pl := ql W hW
    go_simp
    try rfl
  simp only [Act.put, List.setIfInBounds_toArray, List.set_cons_zero, List.set_cons_succ]
  refine h_take 7 rfl (by kernel_rfl) (by kernel_rfl) (by kernel_rfl) (fun _ _ _ _ h => h) hS0 rfl ?_
  apply Exists.intro
  refine ⟨fun W hW => ?_, ?_⟩
  · have p2 := q2 W hW
    have p0 := q0 W hW
    have pl := ql W hW
    go_simp
    try rfl
  simp only [Act.put, List.setIfInBounds_toArray, List.set_cons_zero, List.set_cons_succ]
  refine h_take 8 rfl (by kernel_rfl) (by kernel_rfl) (by kernel_rfl) (fun _ _ _ _ h => h) hS0 rfl ?_
  apply Exists.intro
  refine ⟨fun W hW => ?_, ?_⟩
  · have p2 := q2 W hW
    have p0 := q0 W hW
    have pl := ql W hW
    go_simp
    try rfl
  simp only [Act.put, List.setIfInBounds_toArray, List.set_cons_zero, List.set_cons_succ]
  refine h_take 9 rfl (by kernel_rfl) (by kernel_rfl) (by kernel_rfl) (fun _ _ _ _ h => h) hS0 rfl ?_
  apply Exists.intro
  refine ⟨fun W hW => ?_, ?_⟩
  · have p2 := q2 W hW
    have p0 := q0 W hW
    have pl := ql W hW
    go_simp
    try rfl
  simp only [Act.put, List.setIfInBounds_toArray, List.set_cons_zero, List.set_cons_succ]
  refine h_one 10 rfl (by kernel_rfl) rfl ?_
  refine op_val (by go_simp; exact ⟨rfl, rfl⟩) ?_
  refine ⟨by rw [hSe]; exact below_drew1 (below_alloc (Below.refl _ _) _), ?_⟩
  simp only [Act.put, List.setIfInBounds_toArray, List.set_cons_zero, List.set_cons_succ]
  refine h_one 11 rfl (by kernel_rfl) rfl ?_
  refine op_skip (w1 := (w2.alloc (.cells #[.string ⟨#[]⟩, .int .i64 0, .int .i64 0, .int .i64 0] 96)).drew) (by go_simp) ?_
  refine ⟨by rw [hSe]; exact below_drew1 (below_alloc (Below.refl _ _) _), ?_⟩
  simp only [Act.put]
  refine h_one 12 rfl (by kernel_rfl) rfl ?_
  refine op_val (by go_simp; exact ⟨rfl, rfl⟩) ?_
  refine ⟨by rw [hSe]; exact below_drew1 (below_alloc (Below.refl _ _) _), ?_⟩
  simp only [Act.put, List.setIfInBounds_toArray, List.set_cons_zero, List.set_cons_succ]
  refine wpAnyH_done (by kernel_rfl) ?_ _
  have hwe : Below w2.heap.size w2 (w2.alloc (.cells #[.string ⟨#[]⟩, .int .i64 0, .int .i64 0, .int .i64 0] 96)).drew := below_drew1 (below_alloc (Below.refl _ _) _)
  have hbn : ((w2.alloc (.cells #[.string ⟨#[]⟩, .int .i64 0, .int .i64 0, .int .i64 0] 96)).drew).heap[w2.heap.size]? = some (.cells #[.string ⟨#[]⟩, .int .i64 0, .int .i64 0, .int .i64 0] 96 (0, 0)) := blk_new w2 _
  generalize (w2.alloc (.cells #[.string ⟨#[]⟩, .int .i64 0, .int .i64 0, .int .i64 0] 96)).drew = w3 at *
  have hbk3 := blk_below hbk2 hwe
  have hrbone : w2.heap.size ≠ b := by have := HW2.out.size; omega
  have HW3 := Aside0.mk (HW2.out.before hwe (by have := HW2.out.size; omega))
  generalize w2.heap.size = rone at *
  have hrwone3 := hbn
  clear q0 q2 ql hS0 hSe hwe kP hbk2 HW2 hbn hrwtwo2 hrwone3 hrbtwo hrbone
  have z0 := blk_cell hbk3 0
  have z1 := blk_cell hbk3 1
  have z2 := blk_cell hbk3 2
  have z3 := blk_cell hbk3 3
  have z4 := blk_cell hbk3 4
  have e1 : (x.f0 == 1) = false := by rw [HOP.out]; rfl
  have e2 : (x.f0 == 2) = false := by rw [HOP.out]; rfl
  have e20 : (x.f0 == 20) = false := by rw [HOP.out]; rfl
  have e5 : (x.f0 == 5) = false := by rw [HOP.out]; rfl
  have e45 : (x.f0 == 45) = false := by rw [HOP.out]; rfl
  have e46 : (x.f0 == 46) = false := by rw [HOP.out]; rfl
  have e15 : (x.f0 == 15) = true := by rw [HOP.out]; rfl
  go_wp2_with fail
  clear z0 z1 z2 z3 z4
  refine (writeByte_walk B b m2 m1 _ 123 _ HW3.out.1 ?a15 ?b16).mono ?_
  case a15 => have := HL.out; simp only [List.length_append, List.length_cons, List.length_nil, data_length] at this ⊢; unfold most at this; omega
  case b16 => have := HW3.out.size; omega
  rintro e w4 ⟨rfl, hw4⟩
  have hbk4 := hw4.blk hbk3 hgb (by decide)
  have HW4 := Aside0.mk (HW3.out.trans hw4)
  clear hw4 HW3 hbk3  
  have z0 := blk_cell hbk4 0
  have z1 := blk_cell hbk4 1
  have z2 := blk_cell hbk4 2
  have z3 := blk_cell hbk4 3
  have z4 := blk_cell hbk4 4
  go_wp2_with fail
  clear z0 z1 z2 z3 z4
  refine (bound_walk x H0.out H1.out w0 B b m2 m1 _ _ _ HX.out ?a17 hB0 HT.out HW4.out.1 ?a18).mono ?_
  case a17 => exact HW4.out.from_ HB0.out hB0
  case a18 => have := HL.out; simp only [List.length_append, List.length_cons, List.length_nil, data_length] at this ⊢; omega
  rintro e w5 ⟨rfl, hw5⟩
  have hbk5 := hw5.blk hbk4 hgb (by decide)
  have HW5 := Aside0.mk (HW4.out.trans hw5)
  clear hw5 HW4 hbk4  
  go_wp2_with fail
  refine (writeByte_walk B b m2 m1 _ 125 _ HW5.out.1 ?a19 ?b20).mono ?_
  case a19 => have := HL.out; simp only [List.length_append, List.length_cons, List.length_nil, data_length] at this ⊢; unfold most at this; omega
  case b20 => have := HW5.out.size; omega
  rintro e w6 ⟨rfl, hw6⟩
  have hbk6 := hw6.blk hbk5 hgb (by decide)
  have HW6 := Aside0.mk (HW5.out.trans hw6)
  clear hw6 HW5 hbk5  
  go_wp2_with fail
  go_end0
  exact ⟨rfl, HW6.out⟩
end Go.Proofs.YtgdiodhaihmnbaaDoor.Own
namespace Go.Proofs.YtgdiodhaihmnbaaDoor.Own
open Go.RowKit Go.Proofs.YtgdiodhaihmnbaaDoorW.PrintWords Go.Proofs.YtgdiodhaihmnbaaDoorW.PrintLast Go.Proofs.YtgdiodhaihmnbaaDoorW.PrintMore Go.Proofs.YtgdiodhaihmnbaaDoor.PPrinterMatchesReference
theorem grow_below (w : World) (k : Nat) (os : Array Obj) : Below w.heap.size w (Go.Sort.grow (w.drewN k) os) := by
  refine ⟨rfl, rfl, rfl, ?_, fun i hi => ?_⟩
  · simp [Go.Sort.grow, World.drewN]
  · simp only [Go.Sort.grow, World.drewN]
    rw [Array.getElem?_append_left hi]
theorem itoa_walk (n : Int) (h0 : -9223372036854775808 ≤ n) (h1 : n ≤ 9223372036854775807) (w : World) (ht : Tab w) : Calls Tryd.prog 61 #[.int .i64 n] w fun e w' => e = .returned (.string ⟨(Lib.itoa n).toArray⟩) ∧ Below w.heap.size w w' :=
  (Tryd.strconv_Itoa n h0 h1 w ht).mono fun e w' ⟨he, k, os, hw⟩ => ⟨he, by rw [hw]; exact grow_below w k os⟩
theorem Tab.below {w w1 : World} (h : Tab w) (hb : Below w.heap.size w w1) : Tab w1 := Lib.tabBelow_of_tabIs h w1 hb
set_option maxHeartbeats 4000000 in
set_option maxRecDepth 100000 in
theorem node_lit (x : S24) (hop : x.f0 = 20) (hn0 : -9223372036854775808 ≤ x.f2) (hn1 : x.f2 ≤ 9223372036854775807) (hbn : atT x.f0 binT = none) (hb : atT x.f0 preT = none) : NodeC x := by
  intro w0 B b m2 m1 bs w cs fin hx hb0 hB0 ht hP hlen
  obtain ⟨A, c, rfl, hlc, hA⟩ := k24_open hx
  have HX := Aside0.mk hx
  have HA := Aside0.mk hA
  have HP := Aside0.mk hP
  have HT := Aside0.mk ht
  have HB0 := Aside0.mk hb0
  have hlt := hP.lt
  have hlow := hP.low
  have hu24 := Tryd.underlying24
  have hu96 := Tryd.underlying96
  have htx : txt x fin = Lib.itoa x.f2 := by rw [txt_def, hbn, hb]; simp [hop]
  rw [htx] at hlen ⊢
  have HL := Aside0.mk hlen
  have HQtwo := Aside0.mk hbn
  have HQone := Aside0.mk hb
  have HOP := Aside0.mk hop
  clear hx hP ht hb0 hA hlc htx hlen hb hbn hop
  go_enter Tryd.func38, Tryd.ntmps38
  go_wp2_with ((with_reducible refine gate_dst (N := 4) rfl ?_); refine box_event rfl (N := 4) rfl (cs := #[.int .i64 x.f0, .string x.f1, .int .i64 x.f2, .slice A x.f3.length c, .int .i64 x.f4]) (t := 24) (by first | (go_simp; done) | (go_simp; rfl)) ?_; intro g hg w1 hbk1 hb1; have HG := Aside0.mk hg; clear hg)
  have HW1 := Aside0.mk (show Wrote B b m2 m1 bs w w1 from ⟨HP.out.below hb1, hb1.mono (by omega), fun i o hi _ _ => (hb1.block i (blk_lt hi)).trans hi⟩)
  have hgb : g ≠ b := by have := HG.out; omega
  clear hb1
  obtain ⟨S, hSe⟩ : ∃ S : World → Prop, S = fun W => Below w1.heap.size w1 W := ⟨_, rfl⟩
  obtain ⟨p, v, kP⟩ := HW1.out.1
  have q2 : ∀ W, S W → W.cell? ⟨b, 2, none⟩ = some (.map (some m2)) := fun W hW => by rw [hSe] at hW; exact blk_cell (blk_below kP.blk hW) 2
  have q0 : ∀ W, S W → W.cell? ⟨g, 0, none⟩ = some (.int .i64 x.f0) := fun W hW => by rw [hSe] at hW; exact blk_cell (blk_below hbk1 hW) 0
  have ql : ∀ W, S W → (Instr.lookup 73 (.map (some m2)) (.int .i64 x.f0) true).run Tryd.prog W = .ok (.tuple #[.agg #[.string ⟨#[]⟩, .int .i64 0, .int .i64 0, .int .i64 0], .bool false]) W := fun W hW => by
    rw [hSe] at hW
    rw [look_tab W m2 binT 17 (kP.below hW).two, HQtwo.out]
    rfl
  have hS0 : S w1.drew := by rw [hSe]; exact below_drew1 (Below.refl _ _)
  refine wp_region_held_drew (S := S) (by kernel_rfl) hS0 (fun _ => ?_)
  refine h_take 0 rfl (by kernel_rfl) (by kernel_rfl) (by kernel_rfl) (fun _ _ _ _ h => h) hS0 rfl ?_
  apply Exists.intro
  refine ⟨fun W hW => ?_, ?_⟩
  · have p2 := q2 W hW
    have p0 := q0 W hW
    have pl := ql W hW
    go_simp
    try rfl
  simp only [Act.put, List.setIfInBounds_toArray, List.set_cons_zero, List.set_cons_succ]
  refine h_take 1 rfl (by kernel_rfl) (by kernel_rfl) (by kernel_rfl) (fun _ _ _ _ h => h) hS0 rfl ?_
  apply Exists.intro
  refine ⟨fun W hW => ?_, ?_⟩
  · have p2 := q2 W hW
    have p0 := q0 W hW
    have pl := ql W hW
    go_simp
    try rfl
  simp only [Act.put, List.setIfInBounds_toArray, List.set_cons_zero, List.set_cons_succ]
  refine h_take 2 rfl (by kernel_rfl) (by kernel_rfl) (by kernel_rfl) (fun _ _ _ _ h => h) hS0 rfl ?_
  apply Exists.intro
  refine ⟨fun W hW => ?_, ?_⟩
  · have p2 := q2 W hW
    have p0 := q0 W hW
    have pl := ql W hW
    go_simp
    try rfl
  simp only [Act.put, List.setIfInBounds_toArray, List.set_cons_zero, List.set_cons_succ]
  refine h_take 3 rfl (by kernel_rfl) (by kernel_rfl) (by kernel_rfl) (fun _ _ _ _ h => h) hS0 rfl ?_
  apply Exists.intro
  refine ⟨fun W hW => ?_, ?_⟩
  · have p2 := q2 W hW
    have p0 := q0 W hW
    have pl := ql W hW
    go_simp
    try rfl
  simp only [Act.put, List.setIfInBounds_toArray, List.set_cons_zero, List.set_cons_succ]
  refine h_take 4 rfl (by kernel_rfl) (by kernel_rfl) (by kernel_rfl) (fun _ _ _ _ h => h) hS0 rfl ?_
  apply Exists.intro
  refine ⟨fun W hW => ?_, ?_⟩
  · have p2 := q2 W hW
    have p0 := q0 W hW
    have pl := ql W hW
    go_simp
    try rfl
  simp only [Act.put, List.setIfInBounds_toArray, List.set_cons_zero, List.set_cons_succ]
  refine h_take 5 rfl (by kernel_rfl) (by kernel_rfl) (by kernel_rfl) (fun _ _ _ _ h => h) hS0 rfl ?_
  apply Exists.intro
  refine ⟨fun W hW => ?_, ?_⟩
  · have p2 := q2 W hW
    have p0 := q0 W hW
    have pl := ql W hW
    go_simp
    try rfl
  simp only [Act.put, List.setIfInBounds_toArray, List.set_cons_zero, List.set_cons_succ]
  refine h_take 6 rfl (by kernel_rfl) (by kernel_rfl) (by kernel_rfl) (fun _ _ _ _ h => h) hS0 rfl ?_
  apply Exists.intro
  refine ⟨fun W hW => ?_, ?_⟩
  · have p2 := q2 W hW
    have p0 := q0 W hW
    have pl := ql W hW
    go_simp
    try rfl
  simp only [Act.put, List.setIfInBounds_toArray, List.set_cons_zero, List.set_cons_succ]
  refine h_take 7 rfl (by kernel_rfl) (by kernel_rfl) (by kernel_rfl) (fun _ _ _ _ h => h) hS0 rfl ?_
  apply Exists.intro
  refine ⟨fun W hW => ?_, ?_⟩
  · have p2 := q2 W hW
    have p0 := q0 W hW
    have pl := ql W hW
    go_simp
    try rfl
  simp only [Act.put, List.setIfInBounds_toArray, List.set_cons_zero, List.set_cons_succ]
  refine h_take 8 rfl (by kernel_rfl) (by kernel_rfl) (by kernel_rfl) (fun _ _ _ _ h => h) hS0 rfl ?_
  apply Exists.intro
  refine ⟨fun W hW => ?_, ?_⟩
  · have p2 := q2 W hW
    have p0 := q0 W hW
    have pl := ql W hW
    go_simp
    try rfl
  simp only [Act.put, List.setIfInBounds_toArray, List.set_cons_zero, List.set_cons_succ]
  refine h_take 9 rfl (by kernel_rfl) (by kernel_rfl) (by kernel_rfl) (fun _ _ _ _ h => h) hS0 rfl ?_
  apply Exists.intro
  refine ⟨fun W hW => ?_, ?_⟩
  · have p2 := q2 W hW
    have p0 := q0 W hW
    have pl := ql W hW
    go_simp
    try rfl
  simp only [Act.put, List.setIfInBounds_toArray, List.set_cons_zero, List.set_cons_succ]
  refine h_one 10 rfl (by kernel_rfl) rfl ?_
  refine op_val (by go_simp; exact ⟨rfl, rfl⟩) ?_
  refine ⟨by rw [hSe]; exact below_drew1 (below_alloc (Below.refl _ _) _), ?_⟩
  simp only [Act.put, List.setIfInBounds_toArray, List.set_cons_zero, List.set_cons_succ]
  refine h_one 11 rfl (by kernel_rfl) rfl ?_
  refine op_skip (w1 := (w1.alloc (.cells #[.string ⟨#[]⟩, .int .i64 0, .int .i64 0, .int .i64 0] 96)).drew) (by go_simp) ?_
  refine ⟨by rw [hSe]; exact below_drew1 (below_alloc (Below.refl _ _) _), ?_⟩
  simp only [Act.put]
  refine h_one 12 rfl (by kernel_rfl) rfl ?_
  refine op_val (by go_simp; exact ⟨rfl, rfl⟩) ?_
  refine ⟨by rw [hSe]; exact below_drew1 (below_alloc (Below.refl _ _) _), ?_⟩
  simp only [Act.put, List.setIfInBounds_toArray, List.set_cons_zero, List.set_cons_succ]
  refine wpAnyH_done (by kernel_rfl) ?_ _
  have hwe : Below w1.heap.size w1 (w1.alloc (.cells #[.string ⟨#[]⟩, .int .i64 0, .int .i64 0, .int .i64 0] 96)).drew := below_drew1 (below_alloc (Below.refl _ _) _)
  have hbn : ((w1.alloc (.cells #[.string ⟨#[]⟩, .int .i64 0, .int .i64 0, .int .i64 0] 96)).drew).heap[w1.heap.size]? = some (.cells #[.string ⟨#[]⟩, .int .i64 0, .int .i64 0, .int .i64 0] 96 (0, 0)) := blk_new w1 _
  generalize (w1.alloc (.cells #[.string ⟨#[]⟩, .int .i64 0, .int .i64 0, .int .i64 0] 96)).drew = w2 at *
  have hbk2 := blk_below hbk1 hwe
  have hrbtwo : w1.heap.size ≠ b := by have := HW1.out.size; omega
  have HW2 := Aside0.mk (HW1.out.before hwe (by have := HW1.out.size; omega))
  generalize w1.heap.size = rtwo at *
  have hrwtwo2 := hbn
  clear q0 q2 ql hS0 hSe hwe kP hbk1 HW1 hbn
  go_wp2_with fail
  obtain ⟨S, hSe⟩ : ∃ S : World → Prop, S = fun W => Below w2.heap.size w2 W := ⟨_, rfl⟩
  obtain ⟨p, v, kP⟩ := HW2.out.1
  have q2 : ∀ W, S W → W.cell? ⟨b, 3, none⟩ = some (.map (some m1)) := fun W hW => by rw [hSe] at hW; exact blk_cell (blk_below kP.blk hW) 3
  have q0 : ∀ W, S W → W.cell? ⟨g, 0, none⟩ = some (.int .i64 x.f0) := fun W hW => by rw [hSe] at hW; exact blk_cell (blk_below hbk2 hW) 0
  have ql : ∀ W, S W → (Instr.lookup 73 (.map (some m1)) (.int .i64 x.f0) true).run Tryd.prog W = .ok (.tuple #[.agg #[.string ⟨#[]⟩, .int .i64 0, .int .i64 0, .int .i64 0], .bool false]) W := fun W hW => by
    rw [hSe] at hW
    rw [look_tab W m1 preT 12 (kP.below hW).one, HQone.out]
    rfl
  have hS0 : S w2.drew := by rw [hSe]; exact below_drew1 (Below.refl _ _)
  refine wp_region_held_drew (S := S) (by kernel_rfl) hS0 (fun _ => ?_)
  refine h_take 0 rfl (by kernel_rfl) (by kernel_rfl) (by kernel_rfl) (fun _ _ _ _ h => h) hS0 rfl ?_
  apply Exists.intro
  refine ⟨fun W hW => ?_, ?_⟩
  · have p2 := q2 W hW
    have p0 := q0 W hW
    have pl := ql W hW
    go_simp
    try rfl
  simp only [Act.put, List.setIfInBounds_toArray, List.set_cons_zero, List.set_cons_succ]
  refine h_take 1 rfl (by kernel_rfl) (by kernel_rfl) (by kernel_rfl) (fun _ _ _ _ h => h) hS0 rfl ?_
  apply Exists.intro
  refine ⟨fun W hW => ?_, ?_⟩
  · have p2 := q2 W hW
    have p0 := q0 W hW
    have pl := ql W hW
    go_simp
    try rfl
  simp only [Act.put, List.setIfInBounds_toArray, List.set_cons_zero, List.set_cons_succ]
  refine h_take 2 rfl (by kernel_rfl) (by kernel_rfl) (by kernel_rfl) (fun _ _ _ _ h => h) hS0 rfl ?_
  apply Exists.intro
  refine ⟨fun W hW => ?_, ?_⟩
  · have p2 := q2 W hW
    have p0 := q0 W hW
    have pl := ql W hW
    go_simp
    try rfl
  simp only [Act.put, List.setIfInBounds_toArray, List.set_cons_zero, List.set_cons_succ]
  refine h_take 3 rfl (by kernel_rfl) (by kernel_rfl) (by kernel_rfl) (fun _ _ _ _ h => h) hS0 rfl ?_
  apply Exists.intro
  refine ⟨fun W hW => ?_, ?_⟩
  · have p2 := q2 W hW
    have p0 := q0 W hW
    have pl := ql W hW
    go_simp
    try rfl
  simp only [Act.put, List.setIfInBounds_toArray, List.set_cons_zero, List.set_cons_succ]
  refine h_take 4 rfl (by kernel_rfl) (by kernel_rfl) (by kernel_rfl) (fun _ _ _ _ h => h) hS0 rfl ?_
  apply Exists.intro
  refine ⟨fun W hW => ?_, ?_⟩
  · have p2 := q2 W hW
    have p0 := q0 W hW
    have pl := ql W hW
    go_simp
    try rfl
  simp only [Act.put, List.setIfInBounds_toArray, List.set_cons_zero, List.set_cons_succ]
  refine h_take 5 rfl (by kernel_rfl) (by kernel_rfl) (by kernel_rfl) (fun _ _ _ _ h => h) hS0 rfl ?_
  apply Exists.intro
  refine ⟨fun W hW => ?_, ?_⟩
  · have p2 := q2 W hW
    have p0 := q0 W hW
    have pl := ql W hW
    go_simp
    try rfl
  simp only [Act.put, List.setIfInBounds_toArray, List.set_cons_zero, List.set_cons_succ]
  refine h_take 6 rfl (by kernel_rfl) (by kernel_rfl) (by kernel_rfl) (fun _ _ _ _ h => h) hS0 rfl ?_
  apply Exists.intro
  refine ⟨fun W hW => ?_, ?_⟩
  · have p2 := q2 W hW
    have p0 := q0 W hW
    have pl := ql W hW
    go_simp
    try rfl
  simp only [Act.put, List.setIfInBounds_toArray, List.set_cons_zero, List.set_cons_succ]
  refine h_take 7 rfl (by kernel_rfl) (by kernel_rfl) (by kernel_rfl) (fun _ _ _ _ h => h) hS0 rfl ?_
  apply Exists.intro
  refine ⟨fun W hW => ?_, ?_⟩
  · have p2 := q2 W hW
    have p0 := q0 W hW
    have pl := ql W hW
    go_simp
    try rfl
  simp only [Act.put, List.setIfInBounds_toArray, List.set_cons_zero, List.set_cons_succ]
  refine h_take 8 rfl (by kernel_rfl) (by kernel_rfl) (by kernel_rfl) (fun _ _ _ _ h => h) hS0 rfl ?_
  apply Exists.intro
  refine ⟨fun W hW => ?_, ?_⟩
  · have p2 := q2 W hW
    have p0 := q0 W hW
    have pl := ql W hW
    go_simp
    try rfl
  simp only [Act.put, List.setIfInBounds_toArray, List.set_cons_zero, List.set_cons_succ]
  refine h_take 9 rfl (by kernel_rfl) (by kernel_rfl) (by kernel_rfl) (fun _ _ _ _ h => h) hS0 rfl ?_
  apply Exists.intro
  refine ⟨fun W hW => ?_, ?_⟩
  · have p2 := q2 W hW
    have p0 := q0 W hW
    have pl := ql W hW
    go_simp
    try rfl
  simp only [Act.put, List.setIfInBounds_toArray, List.set_cons_zero, List.set_cons_succ]
  refine h_one 10 rfl (by kernel_rfl) rfl ?_
  refine op_val (by go_simp; exact ⟨rfl, rfl⟩) ?_
  refine ⟨by rw [hSe]; exact below_drew1 (below_alloc (Below.refl _ _) _), ?_⟩
  simp only [Act.put, List.setIfInBounds_toArray, List.set_cons_zero, List.set_cons_succ]
  refine h_one 11 rfl (by kernel_rfl) rfl ?_
  refine op_skip (w1 := (w2.alloc (.cells #[.string ⟨#[]⟩, .int .i64 0, .int .i64 0, .int .i64 0] 96)).drew) (by go_simp) ?_
  refine ⟨by rw [hSe]; exact below_drew1 (below_alloc (Below.refl _ _) _), ?_⟩
  simp only [Act.put]
  refine h_one 12 rfl (by kernel_rfl) rfl ?_
  refine op_val (by go_simp; exact ⟨rfl, rfl⟩) ?_
  refine ⟨by rw [hSe]; exact below_drew1 (below_alloc (Below.refl _ _) _), ?_⟩
  simp only [Act.put, List.setIfInBounds_toArray, List.set_cons_zero, List.set_cons_succ]
  refine wpAnyH_done (by kernel_rfl) ?_ _
  have hwe : Below w2.heap.size w2 (w2.alloc (.cells #[.string ⟨#[]⟩, .int .i64 0, .int .i64 0, .int .i64 0] 96)).drew := below_drew1 (below_alloc (Below.refl _ _) _)
  have hbn : ((w2.alloc (.cells #[.string ⟨#[]⟩, .int .i64 0, .int .i64 0, .int .i64 0] 96)).drew).heap[w2.heap.size]? = some (.cells #[.string ⟨#[]⟩, .int .i64 0, .int .i64 0, .int .i64 0] 96 (0, 0)) := blk_new w2 _
  generalize (w2.alloc (.cells #[.string ⟨#[]⟩, .int .i64 0, .int .i64 0, .int .i64 0] 96)).drew = w3 at *
  have hbk3 := blk_below hbk2 hwe
  have hrbone : w2.heap.size ≠ b := by have := HW2.out.size; omega
  have HW3 := Aside0.mk (HW2.out.before hwe (by have := HW2.out.size; omega))
  generalize w2.heap.size = rone at *
  have hrwone3 := hbn
  clear q0 q2 ql hS0 hSe hwe kP hbk2 HW2 hbn hrwtwo2 hrwone3 hrbtwo hrbone
  have z0 := blk_cell hbk3 0
  have z1 := blk_cell hbk3 1
  have z2 := blk_cell hbk3 2
  have z3 := blk_cell hbk3 3
  have z4 := blk_cell hbk3 4
  have e1 : (x.f0 == 1) = false := by rw [HOP.out]; rfl
  have e2 : (x.f0 == 2) = false := by rw [HOP.out]; rfl
  have e20 : (x.f0 == 20) = true := by rw [HOP.out]; rfl
  go_wp2_with fail
  clear z0 z1 z2 z3 z4
  have hito : ∀ W, Below w3.heap.size w3 W → Calls Tryd.prog 61 #[.int .i64 x.f2] W fun e w' => e = .returned (.string ⟨(Lib.itoa x.f2).toArray⟩) ∧ Below w3.heap.size w3 w' := fun W hW => (itoa_walk x.f2 hn0 hn1 W (HT.out.below (below_step (HW3.out.from_ HB0.out hB0) hW))).mono fun e w' h => ⟨h.1, below_step hW h.2⟩
  obtain ⟨C, hCe⟩ : ∃ C : World → Prop, C = fun W => Below w3.heap.size w3 W := ⟨_, rfl⟩
  have q0 : ∀ W, C W → W.cell? ⟨g, 2, none⟩ = some (.int .i64 x.f2) := fun W hW => by rw [hCe] at hW; exact blk_cell (blk_below hbk3 hW) 2
  refine wp_quiet_tail C 6 (by kernel_rfl) (by kernel_rfl) (by rw [hCe]; exact below_drew1 (Below.refl _ _)) ?_
  simp only [List.take_succ_cons, List.take_zero, List.drop_succ_cons, List.drop_zero]
  refine q_ex rfl ?_
  apply Exists.intro
  refine ⟨fun W hW => ?_, ?_⟩
  · skip
    have p0 := q0 W hW
    go_simp
    try rfl
  simp only [Act.put, List.setIfInBounds_toArray, List.set_cons_zero, List.set_cons_succ]
  refine q_ex rfl ?_
  apply Exists.intro
  refine ⟨fun W hW => ?_, ?_⟩
  · skip
    have p0 := q0 W hW
    go_simp
    try rfl
  simp only [Act.put, List.setIfInBounds_toArray, List.set_cons_zero, List.set_cons_succ]
  refine q_ex rfl ?_
  apply Exists.intro
  refine ⟨fun W hW => ?_, ?_⟩
  · skip
    have p0 := q0 W hW
    go_simp
    try rfl
  simp only [Act.put, List.setIfInBounds_toArray, List.set_cons_zero, List.set_cons_succ]
  refine q_ex rfl ?_
  apply Exists.intro
  refine ⟨fun W hW => ?_, ?_⟩
  · skip
    have p0 := q0 W hW
    go_simp
    try rfl
  simp only [Act.put, List.setIfInBounds_toArray, List.set_cons_zero, List.set_cons_succ]
  refine q_ex rfl ?_
  apply Exists.intro
  refine ⟨fun W hW => ?_, ?_⟩
  · skip
    have p0 := q0 W hW
    go_simp
    try rfl
  simp only [Act.put, List.setIfInBounds_toArray, List.set_cons_zero, List.set_cons_succ]
  refine q_call rfl (fun W hW => by go_simp; exact ⟨rfl, rfl⟩) (fun W hW => (by subst hCe; exact hito W hW)) ?_
  simp only [Act.put, List.setIfInBounds_toArray, List.set_cons_zero, List.set_cons_succ]
  intro W hW
  have hWb := hW
  rw [hCe] at hWb
  clear hW q0
  clear hCe hito
  have HW4 := Aside0.mk (HW3.out.before hWb (by have := HW3.out.size; omega))
  have hbk4 := blk_below hbk3 hWb
  clear hWb HW3 hbk3 
  go_wp2_with fail
  refine (writeL_walk B b m2 m1 _ (Lib.itoa x.f2) _ HW4.out.1 ?a1 ?b2).mono ?_
  case a1 => have := HL.out; (try simp only [List.length_append, List.length_cons, List.length_nil, data_length] at this ⊢); omega
  case b2 => have := HW4.out.size; omega
  rintro e w5 ⟨rfl, hw5⟩
  have hbk5 := hw5.blk hbk4 hgb (by decide)
  have HW5 := Aside0.mk (HW4.out.trans hw5)
  clear hw5 HW4 hbk4  
  go_wp2_with fail
  go_end0
  exact ⟨rfl, HW5.out⟩
set_option maxHeartbeats 4000000 in
set_option maxRecDepth 100000 in
theorem node_none1 (x : S24) (hop : x.f0 = 2) (hn : x.f2 = 1) (hbn : atT x.f0 binT = none) (hb : atT x.f0 preT = none) : NodeC x := by
  intro w0 B b m2 m1 bs w cs fin hx hb0 hB0 ht hP hlen
  obtain ⟨A, c, rfl, hlc, hA⟩ := k24_open hx
  have HX := Aside0.mk hx
  have HA := Aside0.mk hA
  have HP := Aside0.mk hP
  have HT := Aside0.mk ht
  have HB0 := Aside0.mk hb0
  have hlt := hP.lt
  have hlow := hP.low
  have hu24 := Tryd.underlying24
  have hu96 := Tryd.underlying96
  have htx : txt x fin = [110, 111, 110, 101] := by rw [txt_def, hbn, hb]; simp [hop, hn]
  rw [htx] at hlen ⊢
  have HL := Aside0.mk hlen
  have HQtwo := Aside0.mk hbn
  have HQone := Aside0.mk hb
  have HOP := Aside0.mk hop
  have hnb : (x.f2 != 1) = false := by rw [hn]; rfl
  clear hx hP ht hb0 hA hlc htx hlen hb hbn hop hn
  go_enter Tryd.func38, Tryd.ntmps38
  go_wp2_with ((with_reducible refine gate_dst (N := 4) rfl ?_); refine box_event rfl (N := 4) rfl (cs := #[.int .i64 x.f0, .string x.f1, .int .i64 x.f2, .slice A x.f3.length c, .int .i64 x.f4]) (t := 24) (by first | (go_simp; done) | (go_simp; rfl)) ?_; intro g hg w1 hbk1 hb1; have HG := Aside0.mk hg; clear hg)
  have HW1 := Aside0.mk (show Wrote B b m2 m1 bs w w1 from ⟨HP.out.below hb1, hb1.mono (by omega), fun i o hi _ _ => (hb1.block i (blk_lt hi)).trans hi⟩)
  have hgb : g ≠ b := by have := HG.out; omega
  clear hb1
  obtain ⟨S, hSe⟩ : ∃ S : World → Prop, S = fun W => Below w1.heap.size w1 W := ⟨_, rfl⟩
  obtain ⟨p, v, kP⟩ := HW1.out.1
  have q2 : ∀ W, S W → W.cell? ⟨b, 2, none⟩ = some (.map (some m2)) := fun W hW => by rw [hSe] at hW; exact blk_cell (blk_below kP.blk hW) 2
  have q0 : ∀ W, S W → W.cell? ⟨g, 0, none⟩ = some (.int .i64 x.f0) := fun W hW => by rw [hSe] at hW; exact blk_cell (blk_below hbk1 hW) 0
  have ql : ∀ W, S W → (Instr.lookup 73 (.map (some m2)) (.int .i64 x.f0) true).run Tryd.prog W = .ok (.tuple #[.agg #[.string ⟨#[]⟩, .int .i64 0, .int .i64 0, .int .i64 0], .bool false]) W := fun W hW => by
    rw [hSe] at hW
    rw [look_tab W m2 binT 17 (kP.below hW).two, HQtwo.out]
    rfl
  have hS0 : S w1.drew := by rw [hSe]; exact below_drew1 (Below.refl _ _)
  refine wp_region_held_drew (S := S) (by kernel_rfl) hS0 (fun _ => ?_)
  refine h_take 0 rfl (by kernel_rfl) (by kernel_rfl) (by kernel_rfl) (fun _ _ _ _ h => h) hS0 rfl ?_
  apply Exists.intro
  refine ⟨fun W hW => ?_, ?_⟩
  · have p2 := q2 W hW
    have p0 := q0 W hW
    have pl := ql W hW
    go_simp
    try rfl
  simp only [Act.put, List.setIfInBounds_toArray, List.set_cons_zero, List.set_cons_succ]
  refine h_take 1 rfl (by kernel_rfl) (by kernel_rfl) (by kernel_rfl) (fun _ _ _ _ h => h) hS0 rfl ?_
  apply Exists.intro
  refine ⟨fun W hW => ?_, ?_⟩
  · have p2 := q2 W hW
    have p0 := q0 W hW
    have pl := ql W hW
    go_simp
    try rfl
  simp only [Act.put, List.setIfInBounds_toArray, List.set_cons_zero, List.set_cons_succ]
  refine h_take 2 rfl (by kernel_rfl) (by kernel_rfl) (by kernel_rfl) (fun _ _ _ _ h => h) hS0 rfl ?_
  apply Exists.intro
  refine ⟨fun W hW => ?_, ?_⟩
  · have p2 := q2 W hW
    have p0 := q0 W hW
    have pl := ql W hW
    go_simp
    try rfl
  simp only [Act.put, List.setIfInBounds_toArray, List.set_cons_zero, List.set_cons_succ]
  refine h_take 3 rfl (by kernel_rfl) (by kernel_rfl) (by kernel_rfl) (fun _ _ _ _ h => h) hS0 rfl ?_
  apply Exists.intro
  refine ⟨fun W hW => ?_, ?_⟩
  · have p2 := q2 W hW
    have p0 := q0 W hW
    have pl := ql W hW
    go_simp
    try rfl
  simp only [Act.put, List.setIfInBounds_toArray, List.set_cons_zero, List.set_cons_succ]
  refine h_take 4 rfl (by kernel_rfl) (by kernel_rfl) (by kernel_rfl) (fun _ _ _ _ h => h) hS0 rfl ?_
  apply Exists.intro
  refine ⟨fun W hW => ?_, ?_⟩
  · have p2 := q2 W hW
    have p0 := q0 W hW
    have pl := ql W hW
    go_simp
    try rfl
  simp only [Act.put, List.setIfInBounds_toArray, List.set_cons_zero, List.set_cons_succ]
  refine h_take 5 rfl (by kernel_rfl) (by kernel_rfl) (by kernel_rfl) (fun _ _ _ _ h => h) hS0 rfl ?_
  apply Exists.intro
  refine ⟨fun W hW => ?_, ?_⟩
  · have p2 := q2 W hW
    have p0 := q0 W hW
    have pl := ql W hW
    go_simp
    try rfl
  simp only [Act.put, List.setIfInBounds_toArray, List.set_cons_zero, List.set_cons_succ]
  refine h_take 6 rfl (by kernel_rfl) (by kernel_rfl) (by kernel_rfl) (fun _ _ _ _ h => h) hS0 rfl ?_
  apply Exists.intro
  refine ⟨fun W hW => ?_, ?_⟩
  · have p2 := q2 W hW
    have p0 := q0 W hW
    have pl := ql W hW
    go_simp
    try rfl
  simp only [Act.put, List.setIfInBounds_toArray, List.set_cons_zero, List.set_cons_succ]
  refine h_take 7 rfl (by kernel_rfl) (by kernel_rfl) (by kernel_rfl) (fun _ _ _ _ h => h) hS0 rfl ?_
  apply Exists.intro
  refine ⟨fun W hW => ?_, ?_⟩
  · have p2 := q2 W hW
    have p0 := q0 W hW
    have pl := ql W hW
    go_simp
    try rfl
  simp only [Act.put, List.setIfInBounds_toArray, List.set_cons_zero, List.set_cons_succ]
  refine h_take 8 rfl (by kernel_rfl) (by kernel_rfl) (by kernel_rfl) (fun _ _ _ _ h => h) hS0 rfl ?_
  apply Exists.intro
  refine ⟨fun W hW => ?_, ?_⟩
  · have p2 := q2 W hW
    have p0 := q0 W hW
    have pl := ql W hW
    go_simp
    try rfl
  simp only [Act.put, List.setIfInBounds_toArray, List.set_cons_zero, List.set_cons_succ]
  refine h_take 9 rfl (by kernel_rfl) (by kernel_rfl) (by kernel_rfl) (fun _ _ _ _ h => h) hS0 rfl ?_
  apply Exists.intro
  refine ⟨fun W hW => ?_, ?_⟩
  · have p2 := q2 W hW
    have p0 := q0 W hW
    have pl := ql W hW
    go_simp
    try rfl
  simp only [Act.put, List.setIfInBounds_toArray, List.set_cons_zero, List.set_cons_succ]
  refine h_one 10 rfl (by kernel_rfl) rfl ?_
  refine op_val (by go_simp; exact ⟨rfl, rfl⟩) ?_
  refine ⟨by rw [hSe]; exact below_drew1 (below_alloc (Below.refl _ _) _), ?_⟩
  simp only [Act.put, List.setIfInBounds_toArray, List.set_cons_zero, List.set_cons_succ]
  refine h_one 11 rfl (by kernel_rfl) rfl ?_
  refine op_skip (w1 := (w1.alloc (.cells #[.string ⟨#[]⟩, .int .i64 0, .int .i64 0, .int .i64 0] 96)).drew) (by go_simp) ?_
  refine ⟨by rw [hSe]; exact below_drew1 (below_alloc (Below.refl _ _) _), ?_⟩
  simp only [Act.put]
  refine h_one 12 rfl (by kernel_rfl) rfl ?_
  refine op_val (by go_simp; exact ⟨rfl, rfl⟩) ?_
  refine ⟨by rw [hSe]; exact below_drew1 (below_alloc (Below.refl _ _) _), ?_⟩
  simp only [Act.put, List.setIfInBounds_toArray, List.set_cons_zero, List.set_cons_succ]
  refine wpAnyH_done (by kernel_rfl) ?_ _
  have hwe : Below w1.heap.size w1 (w1.alloc (.cells #[.string ⟨#[]⟩, .int .i64 0, .int .i64 0, .int .i64 0] 96)).drew := below_drew1 (below_alloc (Below.refl _ _) _)
  have hbn : ((w1.alloc (.cells #[.string ⟨#[]⟩, .int .i64 0, .int .i64 0, .int .i64 0] 96)).drew).heap[w1.heap.size]? = some (.cells #[.string ⟨#[]⟩, .int .i64 0, .int .i64 0, .int .i64 0] 96 (0, 0)) := blk_new w1 _
  generalize (w1.alloc (.cells #[.string ⟨#[]⟩, .int .i64 0, .int .i64 0, .int .i64 0] 96)).drew = w2 at *
  have hbk2 := blk_below hbk1 hwe
  have hrbtwo : w1.heap.size ≠ b := by have := HW1.out.size; omega
  have HW2 := Aside0.mk (HW1.out.before hwe (by have := HW1.out.size; omega))
  generalize w1.heap.size = rtwo at *
  have hrwtwo2 := hbn
  clear q0 q2 ql hS0 hSe hwe kP hbk1 HW1 hbn
  go_wp2_with fail
  obtain ⟨S, hSe⟩ : ∃ S : World → Prop, S = fun W => Below w2.heap.size w2 W := ⟨_, rfl⟩
  obtain ⟨p, v, kP⟩ := HW2.out.1
  have q2 : ∀ W, S W → W.cell? ⟨b, 3, none⟩ = some (.map (some m1)) := fun W hW => by rw [hSe] at hW; exact blk_cell (blk_below kP.blk hW) 3
  have q0 : ∀ W, S W → W.cell? ⟨g, 0, none⟩ = some (.int .i64 x.f0) := fun W hW => by rw [hSe] at hW; exact blk_cell (blk_below hbk2 hW) 0
  have ql : ∀ W, S W → (Instr.lookup 73 (.map (some m1)) (.int .i64 x.f0) true).run Tryd.prog W = .ok (.tuple #[.agg #[.string ⟨#[]⟩, .int .i64 0, .int .i64 0, .int .i64 0], .bool false]) W := fun W hW => by
    rw [hSe] at hW
    rw [look_tab W m1 preT 12 (kP.below hW).one, HQone.out]
    rfl
  have hS0 : S w2.drew := by rw [hSe]; exact below_drew1 (Below.refl _ _)
  refine wp_region_held_drew (S := S) (by kernel_rfl) hS0 (fun _ => ?_)
  refine h_take 0 rfl (by kernel_rfl) (by kernel_rfl) (by kernel_rfl) (fun _ _ _ _ h => h) hS0 rfl ?_
  apply Exists.intro
  refine ⟨fun W hW => ?_, ?_⟩
  · have p2 := q2 W hW
    have p0 := q0 W hW
    have pl := ql W hW
    go_simp
    try rfl
  simp only [Act.put, List.setIfInBounds_toArray, List.set_cons_zero, List.set_cons_succ]
  refine h_take 1 rfl (by kernel_rfl) (by kernel_rfl) (by kernel_rfl) (fun _ _ _ _ h => h) hS0 rfl ?_
  apply Exists.intro
  refine ⟨fun W hW => ?_, ?_⟩
  · have p2 := q2 W hW
    have p0 := q0 W hW
    have pl := ql W hW
    go_simp
    try rfl
  simp only [Act.put, List.setIfInBounds_toArray, List.set_cons_zero, List.set_cons_succ]
  refine h_take 2 rfl (by kernel_rfl) (by kernel_rfl) (by kernel_rfl) (fun _ _ _ _ h => h) hS0 rfl ?_
  apply Exists.intro
  refine ⟨fun W hW => ?_, ?_⟩
  · have p2 := q2 W hW
    have p0 := q0 W hW
    have pl := ql W hW
    go_simp
    try rfl
  simp only [Act.put, List.setIfInBounds_toArray, List.set_cons_zero, List.set_cons_succ]
  refine h_take 3 rfl (by kernel_rfl) (by kernel_rfl) (by kernel_rfl) (fun _ _ _ _ h => h) hS0 rfl ?_
  apply Exists.intro
  refine ⟨fun W hW => ?_, ?_⟩
  · have p2 := q2 W hW
    have p0 := q0 W hW
    have pl := ql W hW
    go_simp
    try rfl
  simp only [Act.put, List.setIfInBounds_toArray, List.set_cons_zero, List.set_cons_succ]
  refine h_take 4 rfl (by kernel_rfl) (by kernel_rfl) (by kernel_rfl) (fun _ _ _ _ h => h) hS0 rfl ?_
  apply Exists.intro
  refine ⟨fun W hW => ?_, ?_⟩
  · have p2 := q2 W hW
    have p0 := q0 W hW
    have pl := ql W hW
    go_simp
    try rfl
  simp only [Act.put, List.setIfInBounds_toArray, List.set_cons_zero, List.set_cons_succ]
  refine h_take 5 rfl (by kernel_rfl) (by kernel_rfl) (by kernel_rfl) (fun _ _ _ _ h => h) hS0 rfl ?_
  apply Exists.intro
  refine ⟨fun W hW => ?_, ?_⟩
  · have p2 := q2 W hW
    have p0 := q0 W hW
    have pl := ql W hW
    go_simp
    try rfl
  simp only [Act.put, List.setIfInBounds_toArray, List.set_cons_zero, List.set_cons_succ]
  refine h_take 6 rfl (by kernel_rfl) (by kernel_rfl) (by kernel_rfl) (fun _ _ _ _ h => h) hS0 rfl ?_
  apply Exists.intro
  refine ⟨fun W hW => ?_, ?_⟩
  · have p2 := q2 W hW
    have p0 := q0 W hW
    have pl := ql W hW
    go_simp
    try rfl
  simp only [Act.put, List.setIfInBounds_toArray, List.set_cons_zero, List.set_cons_succ]
  refine h_take 7 rfl (by kernel_rfl) (by kernel_rfl) (by kernel_rfl) (fun _ _ _ _ h => h) hS0 rfl ?_
  apply Exists.intro
  refine ⟨fun W hW => ?_, ?_⟩
  · have p2 := q2 W hW
    have p0 := q0 W hW
    have pl := ql W hW
    go_simp
    try rfl
  simp only [Act.put, List.setIfInBounds_toArray, List.set_cons_zero, List.set_cons_succ]
  refine h_take 8 rfl (by kernel_rfl) (by kernel_rfl) (by kernel_rfl) (fun _ _ _ _ h => h) hS0 rfl ?_
  apply Exists.intro
  refine ⟨fun W hW => ?_, ?_⟩
  · have p2 := q2 W hW
    have p0 := q0 W hW
    have pl := ql W hW
    go_simp
    try rfl
  simp only [Act.put, List.setIfInBounds_toArray, List.set_cons_zero, List.set_cons_succ]
  refine h_take 9 rfl (by kernel_rfl) (by kernel_rfl) (by kernel_rfl) (fun _ _ _ _ h => h) hS0 rfl ?_
  apply Exists.intro
  refine ⟨fun W hW => ?_, ?_⟩
  · have p2 := q2 W hW
    have p0 := q0 W hW
    have pl := ql W hW
    go_simp
    try rfl
  simp only [Act.put, List.setIfInBounds_toArray, List.set_cons_zero, List.set_cons_succ]
  refine h_one 10 rfl (by kernel_rfl) rfl ?_
  refine op_val (by go_simp; exact ⟨rfl, rfl⟩) ?_
  refine ⟨by rw [hSe]; exact below_drew1 (below_alloc (Below.refl _ _) _), ?_⟩
  simp only [Act.put, List.setIfInBounds_toArray, List.set_cons_zero, List.set_cons_succ]
  refine h_one 11 rfl (by kernel_rfl) rfl ?_
  refine op_skip (w1 := (w2.alloc (.cells #[.string ⟨#[]⟩, .int .i64 0, .int .i64 0, .int .i64 0] 96)).drew) (by go_simp) ?_
  refine ⟨by rw [hSe]; exact below_drew1 (below_alloc (Below.refl _ _) _), ?_⟩
  simp only [Act.put]
  refine h_one 12 rfl (by kernel_rfl) rfl ?_
  refine op_val (by go_simp; exact ⟨rfl, rfl⟩) ?_
  refine ⟨by rw [hSe]; exact below_drew1 (below_alloc (Below.refl _ _) _), ?_⟩
  simp only [Act.put, List.setIfInBounds_toArray, List.set_cons_zero, List.set_cons_succ]
  refine wpAnyH_done (by kernel_rfl) ?_ _
  have hwe : Below w2.heap.size w2 (w2.alloc (.cells #[.string ⟨#[]⟩, .int .i64 0, .int .i64 0, .int .i64 0] 96)).drew := below_drew1 (below_alloc (Below.refl _ _) _)
  have hbn : ((w2.alloc (.cells #[.string ⟨#[]⟩, .int .i64 0, .int .i64 0, .int .i64 0] 96)).drew).heap[w2.heap.size]? = some (.cells #[.string ⟨#[]⟩, .int .i64 0, .int .i64 0, .int .i64 0] 96 (0, 0)) := blk_new w2 _
  generalize (w2.alloc (.cells #[.string ⟨#[]⟩, .int .i64 0, .int .i64 0, .int .i64 0] 96)).drew = w3 at *
  have hbk3 := blk_below hbk2 hwe
  have hrbone : w2.heap.size ≠ b := by have := HW2.out.size; omega
  have HW3 := Aside0.mk (HW2.out.before hwe (by have := HW2.out.size; omega))
  generalize w2.heap.size = rone at *
  have hrwone3 := hbn
  clear q0 q2 ql hS0 hSe hwe kP hbk2 HW2 hbn hrwtwo2 hrwone3 hrbtwo hrbone
  have z0 := blk_cell hbk3 0
  have z1 := blk_cell hbk3 1
  have z2 := blk_cell hbk3 2
  have z3 := blk_cell hbk3 3
  have z4 := blk_cell hbk3 4
  have e1 : (x.f0 == 1) = false := by rw [HOP.out]; rfl
  have e2 : (x.f0 == 2) = true := by rw [HOP.out]; rfl
  go_wp2_with fail
  clear z0 z1 z2 z3 z4
  refine (writeL_walk B b m2 m1 _ [110, 111, 110, 101] _ HW3.out.1 ?a3 ?b4).mono ?_
  case a3 => have := HL.out; (try simp only [List.length_append, List.length_cons, List.length_nil, data_length] at this ⊢); omega
  case b4 => have := HW3.out.size; omega
  rintro e w4 ⟨rfl, hw4⟩
  have hbk4 := hw4.blk hbk3 hgb (by decide)
  have HW4 := Aside0.mk (HW3.out.trans hw4)
  clear hw4 HW3 hbk3  
  have z0 := blk_cell hbk4 0
  have z1 := blk_cell hbk4 1
  have z2 := blk_cell hbk4 2
  have z3 := blk_cell hbk4 3
  have z4 := blk_cell hbk4 4
  go_wp2_with fail
  go_end0
  exact ⟨rfl, HW4.out⟩
set_option maxHeartbeats 4000000 in
set_option maxRecDepth 100000 in
theorem node_none2 (x : S24) (hop : x.f0 = 2) (hn : x.f2 ≠ 1) (hn0 : -9223372036854775808 ≤ x.f2) (hn1 : x.f2 ≤ 9223372036854775807) (hbn : atT x.f0 binT = none) (hb : atT x.f0 preT = none) : NodeC x := by
  intro w0 B b m2 m1 bs w cs fin hx hb0 hB0 ht hP hlen
  obtain ⟨A, c, rfl, hlc, hA⟩ := k24_open hx
  have HX := Aside0.mk hx
  have HA := Aside0.mk hA
  have HP := Aside0.mk hP
  have HT := Aside0.mk ht
  have HB0 := Aside0.mk hb0
  have hlt := hP.lt
  have hlow := hP.low
  have hu24 := Tryd.underlying24
  have hu96 := Tryd.underlying96
  have htx : txt x fin = [110, 111, 110, 101] ++ ([91] ++ Lib.itoa x.f2 ++ [93]) := by rw [txt_def, hbn, hb]; simp [hop, hn]
  rw [htx] at hlen ⊢
  have HL := Aside0.mk hlen
  have HQtwo := Aside0.mk hbn
  have HQone := Aside0.mk hb
  have HOP := Aside0.mk hop
  have hnb : (x.f2 != 1) = true := by simpa using hn
  have hl2 : bs.length + (4 + ((Lib.itoa x.f2).length + 2)) ≤ most := by have := HL.out; simp only [List.length_append, List.length_cons, List.length_nil] at this; omega
  have hz1 : ¬ 9223372036854775807 < 1 + (Lib.itoa x.f2).length := by unfold most at hl2; omega
  have hz2 : ¬ 9223372036854775807 < 1 + (Lib.itoa x.f2).length + 1 := by unfold most at hl2; omega
  have HS2 := Aside0.mk (show ((⟨#[91]⟩ : ByteArray) ++ (⟨(Lib.itoa x.f2).toArray⟩ : ByteArray) ++ (⟨#[93]⟩ : ByteArray)).size = (Lib.itoa x.f2).length + 2 by rw [ByteArray.size_append, ByteArray.size_append, toL_size (Lib.itoa x.f2)]; show 1 + _ + 1 = _; omega)
  have HL2 := Aside0.mk hl2
  have hass : bs ++ ([110, 111, 110, 101] ++ ([91] ++ Lib.itoa x.f2 ++ [93])) = (bs ++ [110, 111, 110, 101]) ++ ((⟨#[91]⟩ : ByteArray) ++ (⟨(Lib.itoa x.f2).toArray⟩ : ByteArray) ++ (⟨#[93]⟩ : ByteArray)).data.toList := by simp [ByteArray.data_append]
  rw [hass]
  clear hx hP ht hb0 hA hlc htx hlen hb hbn hop hn hass hl2
  go_enter Tryd.func38, Tryd.ntmps38
  go_wp2_with ((with_reducible refine gate_dst (N := 4) rfl ?_); refine box_event rfl (N := 4) rfl (cs := #[.int .i64 x.f0, .string x.f1, .int .i64 x.f2, .slice A x.f3.length c, .int .i64 x.f4]) (t := 24) (by first | (go_simp; done) | (go_simp; rfl)) ?_; intro g hg w1 hbk1 hb1; have HG := Aside0.mk hg; clear hg)
  have HW1 := Aside0.mk (show Wrote B b m2 m1 bs w w1 from ⟨HP.out.below hb1, hb1.mono (by omega), fun i o hi _ _ => (hb1.block i (blk_lt hi)).trans hi⟩)
  have hgb : g ≠ b := by have := HG.out; omega
  clear hb1
  obtain ⟨S, hSe⟩ : ∃ S : World → Prop, S = fun W => Below w1.heap.size w1 W := ⟨_, rfl⟩
  obtain ⟨p, v, kP⟩ := HW1.out.1
  have q2 : ∀ W, S W → W.cell? ⟨b, 2, none⟩ = some (.map (some m2)) := fun W hW => by rw [hSe] at hW; exact blk_cell (blk_below kP.blk hW) 2
  have q0 : ∀ W, S W → W.cell? ⟨g, 0, none⟩ = some (.int .i64 x.f0) := fun W hW => by rw [hSe] at hW; exact blk_cell (blk_below hbk1 hW) 0
  have ql : ∀ W, S W → (Instr.lookup 73 (.map (some m2)) (.int .i64 x.f0) true).run Tryd.prog W = .ok (.tuple #[.agg #[.string ⟨#[]⟩, .int .i64 0, .int .i64 0, .int .i64 0], .bool false]) W := fun W hW => by
    rw [hSe] at hW
    rw [look_tab W m2 binT 17 (kP.below hW).two, HQtwo.out]
    rfl
  have hS0 : S w1.drew := by rw [hSe]; exact below_drew1 (Below.refl _ _)
  refine wp_region_held_drew (S := S) (by kernel_rfl) hS0 (fun _ => ?_)
  refine h_take 0 rfl (by kernel_rfl) (by kernel_rfl) (by kernel_rfl) (fun _ _ _ _ h => h) hS0 rfl ?_
  apply Exists.intro
  refine ⟨fun W hW => ?_, ?_⟩
  · have p2 := q2 W hW
    have p0 := q0 W hW
    have pl := ql W hW
    go_simp
    try rfl
  simp only [Act.put, List.setIfInBounds_toArray, List.set_cons_zero, List.set_cons_succ]
  refine h_take 1 rfl (by kernel_rfl) (by kernel_rfl) (by kernel_rfl) (fun _ _ _ _ h => h) hS0 rfl ?_
  apply Exists.intro
  refine ⟨fun W hW => ?_, ?_⟩
  · have p2 := q2 W hW
    have p0 := q0 W hW
    have pl := ql W hW
    go_simp
    try rfl
  simp only [Act.put, List.setIfInBounds_toArray, List.set_cons_zero, List.set_cons_succ]
  refine h_take 2 rfl (by kernel_rfl) (by kernel_rfl) (by kernel_rfl) (fun _ _ _ _ h => h) hS0 rfl ?_
  apply Exists.intro
  refine ⟨fun W hW => ?_, ?_⟩
  · have p2 := q2 W hW
    have p0 := q0 W hW
    have pl := ql W hW
    go_simp
    try rfl
  simp only [Act.put, List.setIfInBounds_toArray, List.set_cons_zero, List.set_cons_succ]
  refine h_take 3 rfl (by kernel_rfl) (by kernel_rfl) (by kernel_rfl) (fun _ _ _ _ h => h) hS0 rfl ?_
  apply Exists.intro
  refine ⟨fun W hW => ?_, ?_⟩
  · have p2 := q2 W hW
    have p0 := q0 W hW
    have pl := ql W hW
    go_simp
    try rfl
  simp only [Act.put, List.setIfInBounds_toArray, List.set_cons_zero, List.set_cons_succ]
  refine h_take 4 rfl (by kernel_rfl) (by kernel_rfl) (by kernel_rfl) (fun _ _ _ _ h => h) hS0 rfl ?_
  apply Exists.intro
  refine ⟨fun W hW => ?_, ?_⟩
  · have p2 := q2 W hW
    have p0 := q0 W hW
    have pl := ql W hW
    go_simp
    try rfl
  simp only [Act.put, List.setIfInBounds_toArray, List.set_cons_zero, List.set_cons_succ]
  refine h_take 5 rfl (by kernel_rfl) (by kernel_rfl) (by kernel_rfl) (fun _ _ _ _ h => h) hS0 rfl ?_
  apply Exists.intro
  refine ⟨fun W hW => ?_, ?_⟩
  · have p2 := q2 W hW
    have p0 := q0 W hW
    have pl := ql W hW
    go_simp
    try rfl
  simp only [Act.put, List.setIfInBounds_toArray, List.set_cons_zero, List.set_cons_succ]
  refine h_take 6 rfl (by kernel_rfl) (by kernel_rfl) (by kernel_rfl) (fun _ _ _ _ h => h) hS0 rfl ?_
  apply Exists.intro
  refine ⟨fun W hW => ?_, ?_⟩
  · have p2 := q2 W hW
    have p0 := q0 W hW
    have pl := ql W hW
    go_simp
    try rfl
  simp only [Act.put, List.setIfInBounds_toArray, List.set_cons_zero, List.set_cons_succ]
  refine h_take 7 rfl (by kernel_rfl) (by kernel_rfl) (by kernel_rfl) (fun _ _ _ _ h => h) hS0 rfl ?_
  apply Exists.intro
  refine ⟨fun W hW => ?_, ?_⟩
  · have p2 := q2 W hW
    have p0 := q0 W hW
    have pl := ql W hW
    go_simp
    try rfl
  simp only [Act.put, List.setIfInBounds_toArray, List.set_cons_zero, List.set_cons_succ]
  refine h_take 8 rfl (by kernel_rfl) (by kernel_rfl) (by kernel_rfl) (fun _ _ _ _ h => h) hS0 rfl ?_
  apply Exists.intro
  refine ⟨fun W hW => ?_, ?_⟩
  · have p2 := q2 W hW
    have p0 := q0 W hW
    have pl := ql W hW
    go_simp
    try rfl
  simp only [Act.put, List.setIfInBounds_toArray, List.set_cons_zero, List.set_cons_succ]
  refine h_take 9 rfl (by kernel_rfl) (by kernel_rfl) (by kernel_rfl) (fun _ _ _ _ h => h) hS0 rfl ?_
  apply Exists.intro
  refine ⟨fun W hW => ?_, ?_⟩
  · have p2 := q2 W hW
    have p0 := q0 W hW
    have pl := ql W hW
    go_simp
    try rfl
  simp only [Act.put, List.setIfInBounds_toArray, List.set_cons_zero, List.set_cons_succ]
  refine h_one 10 rfl (by kernel_rfl) rfl ?_
  refine op_val (by go_simp; exact ⟨rfl, rfl⟩) ?_
  refine ⟨by rw [hSe]; exact below_drew1 (below_alloc (Below.refl _ _) _), ?_⟩
  simp only [Act.put, List.setIfInBounds_toArray, List.set_cons_zero, List.set_cons_succ]
  refine h_one 11 rfl (by kernel_rfl) rfl ?_
  refine op_skip (w1 := (w1.alloc (.cells #[.string ⟨#[]⟩, .int .i64 0, .int .i64 0, .int .i64 0] 96)).drew) (by go_simp) ?_
  refine ⟨by rw [hSe]; exact below_drew1 (below_alloc (Below.refl _ _) _), ?_⟩
  simp only [Act.put]
  refine h_one 12 rfl (by kernel_rfl) rfl ?_
  refine op_val (by go_simp; exact ⟨rfl, rfl⟩) ?_
  refine ⟨by rw [hSe]; exact below_drew1 (below_alloc (Below.refl _ _) _), ?_⟩
  simp only [Act.put, List.setIfInBounds_toArray, List.set_cons_zero, List.set_cons_succ]
  refine wpAnyH_done (by kernel_rfl) ?_ _
  have hwe : Below w1.heap.size w1 (w1.alloc (.cells #[.string ⟨#[]⟩, .int .i64 0, .int .i64 0, .int .i64 0] 96)).drew := below_drew1 (below_alloc (Below.refl _ _) _)
  have hbn : ((w1.alloc (.cells #[.string ⟨#[]⟩, .int .i64 0, .int .i64 0, .int .i64 0] 96)).drew).heap[w1.heap.size]? = some (.cells #[.string ⟨#[]⟩, .int .i64 0, .int .i64 0, .int .i64 0] 96 (0, 0)) := blk_new w1 _
  generalize (w1.alloc (.cells #[.string ⟨#[]⟩, .int .i64 0, .int .i64 0, .int .i64 0] 96)).drew = w2 at *
  have hbk2 := blk_below hbk1 hwe
  have hrbtwo : w1.heap.size ≠ b := by have := HW1.out.size; omega
  have HW2 := Aside0.mk (HW1.out.before hwe (by have := HW1.out.size; omega))
  generalize w1.heap.size = rtwo at *
  have hrwtwo2 := hbn
  clear q0 q2 ql hS0 hSe hwe kP hbk1 HW1 hbn
  go_wp2_with fail
  obtain ⟨S, hSe⟩ : ∃ S : World → Prop, S = fun W => Below w2.heap.size w2 W := ⟨_, rfl⟩
  obtain ⟨p, v, kP⟩ := HW2.out.1
  have q2 : ∀ W, S W → W.cell? ⟨b, 3, none⟩ = some (.map (some m1)) := fun W hW => by rw [hSe] at hW; exact blk_cell (blk_below kP.blk hW) 3
  have q0 : ∀ W, S W → W.cell? ⟨g, 0, none⟩ = some (.int .i64 x.f0) := fun W hW => by rw [hSe] at hW; exact blk_cell (blk_below hbk2 hW) 0
  have ql : ∀ W, S W → (Instr.lookup 73 (.map (some m1)) (.int .i64 x.f0) true).run Tryd.prog W = .ok (.tuple #[.agg #[.string ⟨#[]⟩, .int .i64 0, .int .i64 0, .int .i64 0], .bool false]) W := fun W hW => by
    rw [hSe] at hW
    rw [look_tab W m1 preT 12 (kP.below hW).one, HQone.out]
    rfl
  have hS0 : S w2.drew := by rw [hSe]; exact below_drew1 (Below.refl _ _)
  refine wp_region_held_drew (S := S) (by kernel_rfl) hS0 (fun _ => ?_)
  refine h_take 0 rfl (by kernel_rfl) (by kernel_rfl) (by kernel_rfl) (fun _ _ _ _ h => h) hS0 rfl ?_
  apply Exists.intro
  refine ⟨fun W hW => ?_, ?_⟩
  · have p2 := q2 W hW
    have p0 := q0 W hW
    have pl := ql W hW
    go_simp
    try rfl
  simp only [Act.put, List.setIfInBounds_toArray, List.set_cons_zero, List.set_cons_succ]
  refine h_take 1 rfl (by kernel_rfl) (by kernel_rfl) (by kernel_rfl) (fun _ _ _ _ h => h) hS0 rfl ?_
  apply Exists.intro
  refine ⟨fun W hW => ?_, ?_⟩
  · have p2 := q2 W hW
    have p0 := q0 W hW
    have pl := ql W hW
    go_simp
    try rfl
  simp only [Act.put, List.setIfInBounds_toArray, List.set_cons_zero, List.set_cons_succ]
  refine h_take 2 rfl (by kernel_rfl) (by kernel_rfl) (by kernel_rfl) (fun _ _ _ _ h => h) hS0 rfl ?_
  apply Exists.intro
  refine ⟨fun W hW => ?_, ?_⟩
  · have p2 := q2 W hW
    have p0 := q0 W hW
    have pl := ql W hW
    go_simp
    try rfl
  simp only [Act.put, List.setIfInBounds_toArray, List.set_cons_zero, List.set_cons_succ]
  refine h_take 3 rfl (by kernel_rfl) (by kernel_rfl) (by kernel_rfl) (fun _ _ _ _ h => h) hS0 rfl ?_
  apply Exists.intro
  refine ⟨fun W hW => ?_, ?_⟩
  · have p2 := q2 W hW
    have p0 := q0 W hW
    have pl := ql W hW
    go_simp
    try rfl
  simp only [Act.put, List.setIfInBounds_toArray, List.set_cons_zero, List.set_cons_succ]
  refine h_take 4 rfl (by kernel_rfl) (by kernel_rfl) (by kernel_rfl) (fun _ _ _ _ h => h) hS0 rfl ?_
  apply Exists.intro
  refine ⟨fun W hW => ?_, ?_⟩
  · have p2 := q2 W hW
    have p0 := q0 W hW
    have pl := ql W hW
    go_simp
    try rfl
  simp only [Act.put, List.setIfInBounds_toArray, List.set_cons_zero, List.set_cons_succ]
  refine h_take 5 rfl (by kernel_rfl) (by kernel_rfl) (by kernel_rfl) (fun _ _ _ _ h => h) hS0 rfl ?_
  apply Exists.intro
  refine ⟨fun W hW => ?_, ?_⟩
  · have p2 := q2 W hW
    have p0 := q0 W hW
    have pl := ql W hW
    go_simp
    try rfl
  simp only [Act.put, List.setIfInBounds_toArray, List.set_cons_zero, List.set_cons_succ]
  refine h_take 6 rfl (by kernel_rfl) (by kernel_rfl) (by kernel_rfl) (fun _ _ _ _ h => h) hS0 rfl ?_
  apply Exists.intro
  refine ⟨fun W hW => ?_, ?_⟩
  · have p2 := q2 W hW
    have p0 := q0 W hW
    have pl := ql W hW
    go_simp
    try rfl
  simp only [Act.put, List.setIfInBounds_toArray, List.set_cons_zero, List.set_cons_succ]
  refine h_take 7 rfl (by kernel_rfl) (by kernel_rfl) (by kernel_rfl) (fun _ _ _ _ h => h) hS0 rfl ?_
  apply Exists.intro
  refine ⟨fun W hW => ?_, ?_⟩
  · have p2 := q2 W hW
    have p0 := q0 W hW
    have pl := ql W hW
    go_simp
    try rfl
  simp only [Act.put, List.setIfInBounds_toArray, List.set_cons_zero, List.set_cons_succ]
  refine h_take 8 rfl (by kernel_rfl) (by kernel_rfl) (by kernel_rfl) (fun _ _ _ _ h => h) hS0 rfl ?_
  apply Exists.intro
  refine ⟨fun W hW => ?_, ?_⟩
  · have p2 := q2 W hW
    have p0 := q0 W hW
    have pl := ql W hW
    go_simp
    try rfl
  simp only [Act.put, List.setIfInBounds_toArray, List.set_cons_zero, List.set_cons_succ]
  refine h_take 9 rfl (by kernel_rfl) (by kernel_rfl) (by kernel_rfl) (fun _ _ _ _ h => h) hS0 rfl ?_
  apply Exists.intro
  refine ⟨fun W hW => ?_, ?_⟩
  · have p2 := q2 W hW
    have p0 := q0 W hW
    have pl := ql W hW
    go_simp
    try rfl
  simp only [Act.put, List.setIfInBounds_toArray, List.set_cons_zero, List.set_cons_succ]
  refine h_one 10 rfl (by kernel_rfl) rfl ?_
  refine op_val (by go_simp; exact ⟨rfl, rfl⟩) ?_
  refine ⟨by rw [hSe]; exact below_drew1 (below_alloc (Below.refl _ _) _), ?_⟩
  simp only [Act.put, List.setIfInBounds_toArray, List.set_cons_zero, List.set_cons_succ]
  refine h_one 11 rfl (by kernel_rfl) rfl ?_
  refine op_skip (w1 := (w2.alloc (.cells #[.string ⟨#[]⟩, .int .i64 0, .int .i64 0, .int .i64 0] 96)).drew) (by go_simp) ?_
  refine ⟨by rw [hSe]; exact below_drew1 (below_alloc (Below.refl _ _) _), ?_⟩
  simp only [Act.put]
  refine h_one 12 rfl (by kernel_rfl) rfl ?_
  refine op_val (by go_simp; exact ⟨rfl, rfl⟩) ?_
  refine ⟨by rw [hSe]; exact below_drew1 (below_alloc (Below.refl _ _) _), ?_⟩
  simp only [Act.put, List.setIfInBounds_toArray, List.set_cons_zero, List.set_cons_succ]
  refine wpAnyH_done (by kernel_rfl) ?_ _
  have hwe : Below w2.heap.size w2 (w2.alloc (.cells #[.string ⟨#[]⟩, .int .i64 0, .int .i64 0, .int .i64 0] 96)).drew := below_drew1 (below_alloc (Below.refl _ _) _)
  have hbn : ((w2.alloc (.cells #[.string ⟨#[]⟩, .int .i64 0, .int .i64 0, .int .i64 0] 96)).drew).heap[w2.heap.size]? = some (.cells #[.string ⟨#[]⟩, .int .i64 0, .int .i64 0, .int .i64 0] 96 (0, 0)) := blk_new w2 _
  generalize (w2.alloc (.cells #[.string ⟨#[]⟩, .int .i64 0, .int .i64 0, .int .i64 0] 96)).drew = w3 at *
  have hbk3 := blk_below hbk2 hwe
  have hrbone : w2.heap.size ≠ b := by have := HW2.out.size; omega
  have HW3 := Aside0.mk (HW2.out.before hwe (by have := HW2.out.size; omega))
  generalize w2.heap.size = rone at *
  have hrwone3 := hbn
  clear q0 q2 ql hS0 hSe hwe kP hbk2 HW2 hbn hrwtwo2 hrwone3 hrbtwo hrbone
  have z0 := blk_cell hbk3 0
  have z1 := blk_cell hbk3 1
  have z2 := blk_cell hbk3 2
  have z3 := blk_cell hbk3 3
  have z4 := blk_cell hbk3 4
  have e1 : (x.f0 == 1) = false := by rw [HOP.out]; rfl
  have e2 : (x.f0 == 2) = true := by rw [HOP.out]; rfl
  go_wp2_with fail
  clear z0 z1 z2 z3 z4
  refine (writeL_walk B b m2 m1 _ [110, 111, 110, 101] _ HW3.out.1 ?a5 ?b6).mono ?_
  case a5 => have := HL.out; (try simp only [List.length_append, List.length_cons, List.length_nil, data_length] at this ⊢); omega
  case b6 => have := HW3.out.size; omega
  rintro e w4 ⟨rfl, hw4⟩
  have hbk4 := hw4.blk hbk3 hgb (by decide)
  have HW4 := Aside0.mk (HW3.out.trans hw4)
  clear hw4 HW3 hbk3  
  have z0 := blk_cell hbk4 0
  have z1 := blk_cell hbk4 1
  have z2 := blk_cell hbk4 2
  have z3 := blk_cell hbk4 3
  have z4 := blk_cell hbk4 4
  go_wp2_with fail
  clear z0 z1 z2 z3 z4
  have hito : ∀ W, Below w4.heap.size w4 W → Calls Tryd.prog 61 #[.int .i64 x.f2] W fun e w' => e = .returned (.string ⟨(Lib.itoa x.f2).toArray⟩) ∧ Below w4.heap.size w4 w' := fun W hW => (itoa_walk x.f2 hn0 hn1 W (HT.out.below (below_step (HW4.out.from_ HB0.out hB0) hW))).mono fun e w' h => ⟨h.1, below_step hW h.2⟩
  obtain ⟨C, hCe⟩ : ∃ C : World → Prop, C = fun W => Below w4.heap.size w4 W := ⟨_, rfl⟩
  have q0 : ∀ W, C W → W.cell? ⟨g, 2, none⟩ = some (.int .i64 x.f2) := fun W hW => by rw [hCe] at hW; exact blk_cell (blk_below hbk4 hW) 2
  refine wp_quiet_tail C 8 (by kernel_rfl) (by kernel_rfl) (by rw [hCe]; exact below_drew1 (Below.refl _ _)) ?_
  simp only [List.take_succ_cons, List.take_zero, List.drop_succ_cons, List.drop_zero]
  refine q_ex rfl ?_
  apply Exists.intro
  refine ⟨fun W hW => ?_, ?_⟩
  · skip
    have p0 := q0 W hW
    go_simp
    try rfl
  simp only [Act.put, List.setIfInBounds_toArray, List.set_cons_zero, List.set_cons_succ]
  refine q_ex rfl ?_
  apply Exists.intro
  refine ⟨fun W hW => ?_, ?_⟩
  · skip
    have p0 := q0 W hW
    go_simp
    try rfl
  simp only [Act.put, List.setIfInBounds_toArray, List.set_cons_zero, List.set_cons_succ]
  refine q_ex rfl ?_
  apply Exists.intro
  refine ⟨fun W hW => ?_, ?_⟩
  · skip
    have p0 := q0 W hW
    go_simp
    try rfl
  simp only [Act.put, List.setIfInBounds_toArray, List.set_cons_zero, List.set_cons_succ]
  refine q_ex rfl ?_
  apply Exists.intro
  refine ⟨fun W hW => ?_, ?_⟩
  · skip
    have p0 := q0 W hW
    go_simp
    try rfl
  simp only [Act.put, List.setIfInBounds_toArray, List.set_cons_zero, List.set_cons_succ]
  refine q_ex rfl ?_
  apply Exists.intro
  refine ⟨fun W hW => ?_, ?_⟩
  · skip
    have p0 := q0 W hW
    go_simp
    try rfl
  simp only [Act.put, List.setIfInBounds_toArray, List.set_cons_zero, List.set_cons_succ]
  refine q_call rfl (fun W hW => by go_simp; exact ⟨rfl, rfl⟩) (fun W hW => (by subst hCe; exact hito W hW)) ?_
  simp only [Act.put, List.setIfInBounds_toArray, List.set_cons_zero, List.set_cons_succ]
  refine q_ex rfl ?_
  apply Exists.intro
  refine ⟨fun W hW => ?_, ?_⟩
  · skip
    have p0 := q0 W hW
    go_simp
    try rfl
  simp only [Act.put, List.setIfInBounds_toArray, List.set_cons_zero, List.set_cons_succ]
  refine q_ex rfl ?_
  apply Exists.intro
  refine ⟨fun W hW => ?_, ?_⟩
  · skip
    have p0 := q0 W hW
    go_simp
    try rfl
  simp only [Act.put, List.setIfInBounds_toArray, List.set_cons_zero, List.set_cons_succ]
  intro W hW
  have hWb := hW
  rw [hCe] at hWb
  clear hW q0
  clear hCe hito
  have HW5 := Aside0.mk (HW4.out.before hWb (by have := HW4.out.size; omega))
  have hbk5 := blk_below hbk4 hWb
  clear hWb HW4 hbk4 
  go_wp2_with fail
  refine (writeString_walk B b m2 m1 _ _ _ HW5.out.1 ?a7 ?b8).mono ?_
  case a7 => have := HL2.out; have := HS2.out; unfold most at *; rw [List.length_append]; show _ + 4 + _ ≤ _; omega
  case b8 => have := HW5.out.size; omega
  rintro e w6 ⟨rfl, hw6⟩
  have hbk6 := hw6.blk hbk5 hgb (by decide)
  have HW6 := Aside0.mk (HW5.out.trans hw6)
  clear hw6 HW5 hbk5  
  go_wp2_with fail
  go_end0
  exact ⟨rfl, HW6.out⟩
set_option maxHeartbeats 4000000 in
set_option maxRecDepth 100000 in
theorem node_call (x : S24) (hop : x.f0 = 47) (hbn : atT x.f0 binT = none) (hb : atT x.f0 preT = none) (hO : ∀ y ∈ x.f3, OprC y) : NodeC x := by
  intro w0 B b m2 m1 bs w cs fin hx hb0 hB0 ht hP hlen
  obtain ⟨A, c, rfl, hlc, hA⟩ := k24_open hx
  have HX := Aside0.mk hx
  have HA := Aside0.mk hA
  have HP := Aside0.mk hP
  have HT := Aside0.mk ht
  have HB0 := Aside0.mk hb0
  have hlt := hP.lt
  have hlow := hP.low
  have hu24 := Tryd.underlying24
  have hu96 := Tryd.underlying96
  have htx : txt x fin = x.f1.data.toList ++ [91] ++ argl x.f3 true ++ [93] := by rw [txt_def, hbn, hb]; simp [hop]
  rw [htx] at hlen ⊢
  have HL := Aside0.mk hlen
  have HQtwo := Aside0.mk hbn
  have HQone := Aside0.mk hb
  have HOP := Aside0.mk hop
  have HO := Aside0.mk hO
  have hl2 : bs.length + (x.f1.size + 1 + (argl x.f3 true).length + 1) ≤ most := by have := HL.out; simp only [List.length_append, List.length_cons, List.length_nil, data_length] at this; omega
  have hz1 : ¬ 9223372036854775807 < x.f1.size + 1 := by unfold most at hl2; omega
  have HS2 := Aside0.mk (show (x.f1 ++ (⟨#[91]⟩ : ByteArray)).size = x.f1.size + 1 by rw [ByteArray.size_append]; rfl)
  have HL2 := Aside0.mk hl2
  have hass : bs ++ (x.f1.data.toList ++ [91] ++ argl x.f3 true ++ [93]) = ((bs ++ (x.f1 ++ (⟨#[91]⟩ : ByteArray)).data.toList) ++ argl x.f3 true) ++ [93] := by simp [ByteArray.data_append]
  rw [hass]
  clear hx hP ht hb0 hA hlc htx hlen hb hbn hop hass hl2 hO
  go_enter Tryd.func38, Tryd.ntmps38
  go_wp2_with ((with_reducible refine gate_dst (N := 4) rfl ?_); refine box_event rfl (N := 4) rfl (cs := #[.int .i64 x.f0, .string x.f1, .int .i64 x.f2, .slice A x.f3.length c, .int .i64 x.f4]) (t := 24) (by first | (go_simp; done) | (go_simp; rfl)) ?_; intro g hg w1 hbk1 hb1; have HG := Aside0.mk hg; clear hg)
  have HW1 := Aside0.mk (show Wrote B b m2 m1 bs w w1 from ⟨HP.out.below hb1, hb1.mono (by omega), fun i o hi _ _ => (hb1.block i (blk_lt hi)).trans hi⟩)
  have hgb : g ≠ b := by have := HG.out; omega
  clear hb1
  obtain ⟨S, hSe⟩ : ∃ S : World → Prop, S = fun W => Below w1.heap.size w1 W := ⟨_, rfl⟩
  obtain ⟨p, v, kP⟩ := HW1.out.1
  have q2 : ∀ W, S W → W.cell? ⟨b, 2, none⟩ = some (.map (some m2)) := fun W hW => by rw [hSe] at hW; exact blk_cell (blk_below kP.blk hW) 2
  have q0 : ∀ W, S W → W.cell? ⟨g, 0, none⟩ = some (.int .i64 x.f0) := fun W hW => by rw [hSe] at hW; exact blk_cell (blk_below hbk1 hW) 0
  have ql : ∀ W, S W → (Instr.lookup 73 (.map (some m2)) (.int .i64 x.f0) true).run Tryd.prog W = .ok (.tuple #[.agg #[.string ⟨#[]⟩, .int .i64 0, .int .i64 0, .int .i64 0], .bool false]) W := fun W hW => by
    rw [hSe] at hW
    rw [look_tab W m2 binT 17 (kP.below hW).two, HQtwo.out]
    rfl
  have hS0 : S w1.drew := by rw [hSe]; exact below_drew1 (Below.refl _ _)
  refine wp_region_held_drew (S := S) (by kernel_rfl) hS0 (fun _ => ?_)
  refine h_take 0 rfl (by kernel_rfl) (by kernel_rfl) (by kernel_rfl) (fun _ _ _ _ h => h) hS0 rfl ?_
  apply Exists.intro
  refine ⟨fun W hW => ?_, ?_⟩
  · have p2 := q2 W hW
    have p0 := q0 W hW
    have pl := ql W hW
    go_simp
    try rfl
  simp only [Act.put, List.setIfInBounds_toArray, List.set_cons_zero, List.set_cons_succ]
  refine h_take 1 rfl (by kernel_rfl) (by kernel_rfl) (by kernel_rfl) (fun _ _ _ _ h => h) hS0 rfl ?_
  apply Exists.intro
  refine ⟨fun W hW => ?_, ?_⟩
  · have p2 := q2 W hW
    have p0 := q0 W hW
    have pl := ql W hW
    go_simp
    try rfl
  simp only [Act.put, List.setIfInBounds_toArray, List.set_cons_zero, List.set_cons_succ]
  refine h_take 2 rfl (by kernel_rfl) (by kernel_rfl) (by kernel_rfl) (fun _ _ _ _ h => h) hS0 rfl ?_
  apply Exists.intro
  refine ⟨fun W hW => ?_, ?_⟩
  · have p2 := q2 W hW
    have p0 := q0 W hW
    have pl := ql W hW
    go_simp
    try rfl
  simp only [Act.put, List.setIfInBounds_toArray, List.set_cons_zero, List.set_cons_succ]
  refine h_take 3 rfl (by kernel_rfl) (by kernel_rfl) (by kernel_rfl) (fun _ _ _ _ h => h) hS0 rfl ?_
  apply Exists.intro
  refine ⟨fun W hW => ?_, ?_⟩
  · have p2 := q2 W hW
    have p0 := q0 W hW
    have pl := ql W hW
    go_simp
    try rfl
  simp only [Act.put, List.setIfInBounds_toArray, List.set_cons_zero, List.set_cons_succ]
  refine h_take 4 rfl (by kernel_rfl) (by kernel_rfl) (by kernel_rfl) (fun _ _ _ _ h => h) hS0 rfl ?_
  apply Exists.intro
  refine ⟨fun W hW => ?_, ?_⟩
  · have p2 := q2 W hW
    have p0 := q0 W hW
    have pl := ql W hW
    go_simp
    try rfl
  simp only [Act.put, List.setIfInBounds_toArray, List.set_cons_zero, List.set_cons_succ]
  refine h_take 5 rfl (by kernel_rfl) (by kernel_rfl) (by kernel_rfl) (fun _ _ _ _ h => h) hS0 rfl ?_
  apply Exists.intro
  refine ⟨fun W hW => ?_, ?_⟩
  · have p2 := q2 W hW
    have p0 := q0 W hW
    have pl := ql W hW
    go_simp
    try rfl
  simp only [Act.put, List.setIfInBounds_toArray, List.set_cons_zero, List.set_cons_succ]
  refine h_take 6 rfl (by kernel_rfl) (by kernel_rfl) (by kernel_rfl) (fun _ _ _ _ h => h) hS0 rfl ?_
  apply Exists.intro
  refine ⟨fun W hW => ?_, ?_⟩
  · have p2 := q2 W hW
    have p0 := q0 W hW
    have pl := ql W hW
    go_simp
    try rfl
  simp only [Act.put, List.setIfInBounds_toArray, List.set_cons_zero, List.set_cons_succ]
  refine h_take 7 rfl (by kernel_rfl) (by kernel_rfl) (by kernel_rfl) (fun _ _ _ _ h => h) hS0 rfl ?_
  apply Exists.intro
  refine ⟨fun W hW => ?_, ?_⟩
  · have p2 := q2 W hW
    have p0 := q0 W hW
    have pl := ql W hW
    go_simp
    try rfl
  simp only [Act.put, List.setIfInBounds_toArray, List.set_cons_zero, List.set_cons_succ]
  refine h_take 8 rfl (by kernel_rfl) (by kernel_rfl) (by kernel_rfl) (fun _ _ _ _ h => h) hS0 rfl ?_
  apply Exists.intro
  refine ⟨fun W hW => ?_, ?_⟩
  · have p2 := q2 W hW
    have p0 := q0 W hW
    have pl := ql W hW
    go_simp
    try rfl
  simp only [Act.put, List.setIfInBounds_toArray, List.set_cons_zero, List.set_cons_succ]
  refine h_take 9 rfl (by kernel_rfl) (by kernel_rfl) (by kernel_rfl) (fun _ _ _ _ h => h) hS0 rfl ?_
  apply Exists.intro
  refine ⟨fun W hW => ?_, ?_⟩
  · have p2 := q2 W hW
    have p0 := q0 W hW
    have pl := ql W hW
    go_simp
    try rfl
  simp only [Act.put, List.setIfInBounds_toArray, List.set_cons_zero, List.set_cons_succ]
  refine h_one 10 rfl (by kernel_rfl) rfl ?_
  refine op_val (by go_simp; exact ⟨rfl, rfl⟩) ?_
  refine ⟨by rw [hSe]; exact below_drew1 (below_alloc (Below.refl _ _) _), ?_⟩
  simp only [Act.put, List.setIfInBounds_toArray, List.set_cons_zero, List.set_cons_succ]
  refine h_one 11 rfl (by kernel_rfl) rfl ?_
  refine op_skip (w1 := (w1.alloc (.cells #[.string ⟨#[]⟩, .int .i64 0, .int .i64 0, .int .i64 0] 96)).drew) (by go_simp) ?_
  refine ⟨by rw [hSe]; exact below_drew1 (below_alloc (Below.refl _ _) _), ?_⟩
  simp only [Act.put]
  refine h_one 12 rfl (by kernel_rfl) rfl ?_
  refine op_val (by go_simp; exact ⟨rfl, rfl⟩) ?_
  refine ⟨by rw [hSe]; exact below_drew1 (below_alloc (Below.refl _ _) _), ?_⟩
  simp only [Act.put, List.setIfInBounds_toArray, List.set_cons_zero, List.set_cons_succ]
  refine wpAnyH_done (by kernel_rfl) ?_ _
  have hwe : Below w1.heap.size w1 (w1.alloc (.cells #[.string ⟨#[]⟩, .int .i64 0, .int .i64 0, .int .i64 0] 96)).drew := below_drew1 (below_alloc (Below.refl _ _) _)
  have hbn : ((w1.alloc (.cells #[.string ⟨#[]⟩, .int .i64 0, .int .i64 0, .int .i64 0] 96)).drew).heap[w1.heap.size]? = some (.cells #[.string ⟨#[]⟩, .int .i64 0, .int .i64 0, .int .i64 0] 96 (0, 0)) := blk_new w1 _
  generalize (w1.alloc (.cells #[.string ⟨#[]⟩, .int .i64 0, .int .i64 0, .int .i64 0] 96)).drew = w2 at *
  have hbk2 := blk_below hbk1 hwe
  have hrbtwo : w1.heap.size ≠ b := by have := HW1.out.size; omega
  have HW2 := Aside0.mk (HW1.out.before hwe (by have := HW1.out.size; omega))
  generalize w1.heap.size = rtwo at *
  have hrwtwo2 := hbn
  clear q0 q2 ql hS0 hSe hwe kP hbk1 HW1 hbn
  go_wp2_with fail
  obtain ⟨S, hSe⟩ : ∃ S : World → Prop, S = fun W => Below w2.heap.size w2 W := ⟨_, rfl⟩
  obtain ⟨p, v, kP⟩ := HW2.out.1
  have q2 : ∀ W, S W → W.cell? ⟨b, 3, none⟩ = some (.map (some m1)) := fun W hW => by rw [hSe] at hW; exact blk_cell (blk_below kP.blk hW) 3
  have q0 : ∀ W, S W → W.cell? ⟨g, 0, none⟩ = some (.int .i64 x.f0) := fun W hW => by rw [hSe] at hW; exact blk_cell (blk_below hbk2 hW) 0
  have ql : ∀ W, S W → (Instr.lookup 73 (.map (some m1)) (.int .i64 x.f0) true).run Tryd.prog W = .ok (.tuple #[.agg #[.string ⟨#[]⟩, .int .i64 0, .int .i64 0, .int .i64 0], .bool false]) W := fun W hW => by
    rw [hSe] at hW
    rw [look_tab W m1 preT 12 (kP.below hW).one, HQone.out]
    rfl
  have hS0 : S w2.drew := by rw [hSe]; exact below_drew1 (Below.refl _ _)
  refine wp_region_held_drew (S := S) (by kernel_rfl) hS0 (fun _ => ?_)
  refine h_take 0 rfl (by kernel_rfl) (by kernel_rfl) (by kernel_rfl) (fun _ _ _ _ h => h) hS0 rfl ?_
  apply Exists.intro
  refine ⟨fun W hW => ?_, ?_⟩
  · have p2 := q2 W hW
    have p0 := q0 W hW
    have pl := ql W hW
    go_simp
    try rfl
  simp only [Act.put, List.setIfInBounds_toArray, List.set_cons_zero, List.set_cons_succ]
  refine h_take 1 rfl (by kernel_rfl) (by kernel_rfl) (by kernel_rfl) (fun _ _ _ _ h => h) hS0 rfl ?_
  apply Exists.intro
  refine ⟨fun W hW => ?_, ?_⟩
  · have p2 := q2 W hW
    have p0 := q0 W hW
    have pl := ql W hW
    go_simp
    try rfl
  simp only [Act.put, List.setIfInBounds_toArray, List.set_cons_zero, List.set_cons_succ]
  refine h_take 2 rfl (by kernel_rfl) (by kernel_rfl) (by kernel_rfl) (fun _ _ _ _ h => h) hS0 rfl ?_
  apply Exists.intro
  refine ⟨fun W hW => ?_, ?_⟩
  · have p2 := q2 W hW
    have p0 := q0 W hW
    have pl := ql W hW
    go_simp
    try rfl
  simp only [Act.put, List.setIfInBounds_toArray, List.set_cons_zero, List.set_cons_succ]
  refine h_take 3 rfl (by kernel_rfl) (by kernel_rfl) (by kernel_rfl) (fun _ _ _ _ h => h) hS0 rfl ?_
  apply Exists.intro
  refine ⟨fun W hW => ?_, ?_⟩
  · have p2 := q2 W hW
    have p0 := q0 W hW
    have pl := ql W hW
    go_simp
    try rfl
  simp only [Act.put, List.setIfInBounds_toArray, List.set_cons_zero, List.set_cons_succ]
  refine h_take 4 rfl (by kernel_rfl) (by kernel_rfl) (by kernel_rfl) (fun _ _ _ _ h => h) hS0 rfl ?_
  apply Exists.intro
  refine ⟨fun W hW => ?_, ?_⟩
  · have p2 := q2 W hW
    have p0 := q0 W hW
    have pl := ql W hW
    go_simp
    try rfl
  simp only [Act.put, List.setIfInBounds_toArray, List.set_cons_zero, List.set_cons_succ]
  refine h_take 5 rfl (by kernel_rfl) (by kernel_rfl) (by kernel_rfl) (fun _ _ _ _ h => h) hS0 rfl ?_
  apply Exists.intro
  refine ⟨fun W hW => ?_, ?_⟩
  · have p2 := q2 W hW
    have p0 := q0 W hW
    have pl := ql W hW
    go_simp
    try rfl
  simp only [Act.put, List.setIfInBounds_toArray, List.set_cons_zero, List.set_cons_succ]
  refine h_take 6 rfl (by kernel_rfl) (by kernel_rfl) (by kernel_rfl) (fun _ _ _ _ h => h) hS0 rfl ?_
  apply Exists.intro
  refine ⟨fun W hW => ?_, ?_⟩
  · have p2 := q2 W hW
    have p0 := q0 W hW
    have pl := ql W hW
    go_simp
    try rfl
  simp only [Act.put, List.setIfInBounds_toArray, List.set_cons_zero, List.set_cons_succ]
  refine h_take 7 rfl (by kernel_rfl) (by kernel_rfl) (by kernel_rfl) (fun _ _ _ _ h => h) hS0 rfl ?_
  apply Exists.intro
  refine ⟨fun W hW => ?_, ?_⟩
  · have p2 := q2 W hW
    have p0 := q0 W hW
    have pl := ql W hW
    go_simp
    try rfl
  simp only [Act.put, List.setIfInBounds_toArray, List.set_cons_zero, List.set_cons_succ]
  refine h_take 8 rfl (by kernel_rfl) (by kernel_rfl) (by kernel_rfl) (fun _ _ _ _ h => h) hS0 rfl ?_
  apply Exists.intro
  refine ⟨fun W hW => ?_, ?_⟩
  · have p2 := q2 W hW
    have p0 := q0 W hW
    have pl := ql W hW
    go_simp
    try rfl
  simp only [Act.put, List.setIfInBounds_toArray, List.set_cons_zero, List.set_cons_succ]
  refine h_take 9 rfl (by kernel_rfl) (by kernel_rfl) (by kernel_rfl) (fun _ _ _ _ h => h) hS0 rfl ?_
  apply Exists.intro
  refine ⟨fun W hW => ?_, ?_⟩
  · have p2 := q2 W hW
    have p0 := q0 W hW
    have pl := ql W hW
    go_simp
    try rfl
  simp only [Act.put, List.setIfInBounds_toArray, List.set_cons_zero, List.set_cons_succ]
  refine h_one 10 rfl (by kernel_rfl) rfl ?_
  refine op_val (by go_simp; exact ⟨rfl, rfl⟩) ?_
  refine ⟨by rw [hSe]; exact below_drew1 (below_alloc (Below.refl _ _) _), ?_⟩
  simp only [Act.put, List.setIfInBounds_toArray, List.set_cons_zero, List.set_cons_succ]
  refine h_one 11 rfl (by kernel_rfl) rfl ?_
  refine op_skip (w1 := (w2.alloc (.cells #[.string ⟨#[]⟩, .int .i64 0, .int .i64 0, .int .i64 0] 96)).drew) (by go_simp) ?_
  refine ⟨by rw [hSe]; exact below_drew1 (below_alloc (Below.refl _ _) _), ?_⟩
  simp only [Act.put]
  refine h_one 12 rfl (by kernel_rfl) rfl ?_
  refine op_val (by go_simp; exact ⟨rfl, rfl⟩) ?_
  refine ⟨by rw [hSe]; exact below_drew1 (below_alloc (Below.refl _ _) _), ?_⟩
  simp only [Act.put, List.setIfInBounds_toArray, List.set_cons_zero, List.set_cons_succ]
  refine wpAnyH_done (by kernel_rfl) ?_ _
  have hwe : Below w2.heap.size w2 (w2.alloc (.cells #[.string ⟨#[]⟩, .int .i64 0, .int .i64 0, .int .i64 0] 96)).drew := below_drew1 (below_alloc (Below.refl _ _) _)
  have hbn : ((w2.alloc (.cells #[.string ⟨#[]⟩, .int .i64 0, .int .i64 0, .int .i64 0] 96)).drew).heap[w2.heap.size]? = some (.cells #[.string ⟨#[]⟩, .int .i64 0, .int .i64 0, .int .i64 0] 96 (0, 0)) := blk_new w2 _
  generalize (w2.alloc (.cells #[.string ⟨#[]⟩, .int .i64 0, .int .i64 0, .int .i64 0] 96)).drew = w3 at *
  have hbk3 := blk_below hbk2 hwe
  have hrbone : w2.heap.size ≠ b := by have := HW2.out.size; omega
  have HW3 := Aside0.mk (HW2.out.before hwe (by have := HW2.out.size; omega))
  generalize w2.heap.size = rone at *
  have hrwone3 := hbn
  clear q0 q2 ql hS0 hSe hwe kP hbk2 HW2 hbn hrwtwo2 hrwone3 hrbtwo hrbone
  have z0 := blk_cell hbk3 0
  have z1 := blk_cell hbk3 1
  have z2 := blk_cell hbk3 2
  have z3 := blk_cell hbk3 3
  have z4 := blk_cell hbk3 4
  have e1 : (x.f0 == 1) = false := by rw [HOP.out]; rfl
  have e2 : (x.f0 == 2) = false := by rw [HOP.out]; rfl
  have e20 : (x.f0 == 20) = false := by rw [HOP.out]; rfl
  have e5 : (x.f0 == 5) = false := by rw [HOP.out]; rfl
  have e45 : (x.f0 == 45) = false := by rw [HOP.out]; rfl
  have e46 : (x.f0 == 46) = false := by rw [HOP.out]; rfl
  have e15 : (x.f0 == 15) = false := by rw [HOP.out]; rfl
  have e47 : (x.f0 == 47) = true := by rw [HOP.out]; rfl
  go_wp2_with fail
  clear z0 z1 z2 z3 z4
  obtain ⟨C, hCe⟩ : ∃ C : World → Prop, C = fun W => Below w3.heap.size w3 W := ⟨_, rfl⟩
  have q0 : ∀ W, C W → W.cell? ⟨g, 1, none⟩ = some (.string x.f1) := fun W hW => by rw [hCe] at hW; exact blk_cell (blk_below hbk3 hW) 1
  refine wp_quiet_tail C 6 (by kernel_rfl) (by kernel_rfl) (by rw [hCe]; exact below_drew1 (Below.refl _ _)) ?_
  simp only [List.take_succ_cons, List.take_zero, List.drop_succ_cons, List.drop_zero]
  refine q_ex rfl ?_
  apply Exists.intro
  refine ⟨fun W hW => ?_, ?_⟩
  · skip
    have p0 := q0 W hW
    go_simp
    try rfl
  simp only [Act.put, List.setIfInBounds_toArray, List.set_cons_zero, List.set_cons_succ]
  refine q_ex rfl ?_
  apply Exists.intro
  refine ⟨fun W hW => ?_, ?_⟩
  · skip
    have p0 := q0 W hW
    go_simp
    try rfl
  simp only [Act.put, List.setIfInBounds_toArray, List.set_cons_zero, List.set_cons_succ]
  refine q_ex rfl ?_
  apply Exists.intro
  refine ⟨fun W hW => ?_, ?_⟩
  · skip
    have p0 := q0 W hW
    go_simp
    try rfl
  simp only [Act.put, List.setIfInBounds_toArray, List.set_cons_zero, List.set_cons_succ]
  refine q_ex rfl ?_
  apply Exists.intro
  refine ⟨fun W hW => ?_, ?_⟩
  · skip
    have p0 := q0 W hW
    go_simp
    try rfl
  simp only [Act.put, List.setIfInBounds_toArray, List.set_cons_zero, List.set_cons_succ]
  refine q_ex rfl ?_
  apply Exists.intro
  refine ⟨fun W hW => ?_, ?_⟩
  · skip
    have p0 := q0 W hW
    go_simp
    try rfl
  simp only [Act.put, List.setIfInBounds_toArray, List.set_cons_zero, List.set_cons_succ]
  refine q_ex rfl ?_
  apply Exists.intro
  refine ⟨fun W hW => ?_, ?_⟩
  · skip
    have p0 := q0 W hW
    go_simp
    try rfl
  simp only [Act.put, List.setIfInBounds_toArray, List.set_cons_zero, List.set_cons_succ]
  intro W hW
  have hWb := hW
  rw [hCe] at hWb
  clear hW q0
  clear hCe
  have HW4 := Aside0.mk (HW3.out.before hWb (by have := HW3.out.size; omega))
  have hbk4 := blk_below hbk3 hWb
  clear hWb HW3 hbk3 
  go_wp2_with fail
  refine (writeString_walk B b m2 m1 _ _ _ HW4.out.1 ?a9 ?b10).mono ?_
  case a9 => have := HL2.out; have := HS2.out; (try simp only [List.length_append, List.length_cons, List.length_nil, data_length]); unfold most at *; omega
  case b10 => have := HW4.out.size; omega
  rintro e w5 ⟨rfl, hw5⟩
  have hbk5 := hw5.blk hbk4 hgb (by decide)
  have HW5 := Aside0.mk (HW4.out.trans hw5)
  clear hw5 HW4 hbk4  
  have z0 := blk_cell hbk5 0
  have z1 := blk_cell hbk5 1
  have z2 := blk_cell hbk5 2
  have z3 := blk_cell hbk5 3
  have z4 := blk_cell hbk5 4
  go_wp2_with fail
  clear z0 z1 z2 z3 z4
  refine (list_walk x.f3 HO.out w0 B b m2 m1 _ _ A c HA.out ?k1 hB0 HT.out HW5.out.1 ?k2).mono ?_
  case k1 => exact HW5.out.from_ HB0.out hB0
  case k2 => have := HL2.out; have := HS2.out; (try simp only [List.length_append, List.length_cons, List.length_nil, data_length]); unfold most at *; omega
  rintro e w6 ⟨rfl, hw6⟩
  have hbk6 := hw6.blk hbk5 hgb (by decide)
  have HW6 := Aside0.mk (HW5.out.trans hw6)
  clear hw6 HW5 hbk5  
  go_wp2_with fail
  refine (writeByte_walk B b m2 m1 _ 93 _ HW6.out.1 ?a11 ?b12).mono ?_
  case a11 => have := HL2.out; have := HS2.out; (try simp only [List.length_append, List.length_cons, List.length_nil, data_length]); unfold most at *; omega
  case b12 => have := HW6.out.size; omega
  rintro e w7 ⟨rfl, hw7⟩
  have hbk7 := hw7.blk hbk6 hgb (by decide)
  have HW7 := Aside0.mk (HW6.out.trans hw7)
  clear hw7 HW6 hbk6  
  go_wp2_with fail
  go_end0
  exact ⟨rfl, HW7.out⟩
end Go.Proofs.YtgdiodhaihmnbaaDoor.Own
namespace Go.Proofs.YtgdiodhaihmnbaaDoor.Own
open Go
section
variable {P : Program} {ops : Array Oper} {md : Region.Mode} {S : World → Prop} {Q : Exit → Act → World → Prop}
/-- From here on just these may come up, in any order. -/
def onlyB (md : Region.Mode) (ops : Array Oper) : Nat → Array Bool → List Nat → Bool
  | 0, _, R => R.isEmpty
  | n + 1, listed, R => decide (Region.ready md ops listed = R) && !R.isEmpty && R.all fun i => onlyB md ops n (listed.setIfInBounds i true) (R.erase i)
def doneL (listed : Array Bool) (R : List Nat) : Array Bool := R.foldl (fun a i => a.setIfInBounds i true) listed
theorem doneL_erase (listed : Array Bool) (R : List Nat) (i : Nat) (h : i ∈ R) : doneL (listed.setIfInBounds i true) (R.erase i) = doneL listed R := by
  unfold doneL
  have hp := List.perm_cons_erase h
  have : R.foldl (fun a i => a.setIfInBounds i true) listed = (i :: R.erase i).foldl (fun a i => a.setIfInBounds i true) listed := by
    refine hp.foldl_eq' (fun x _ y _ z => ?_) listed
    by_cases hxy : x = y
    · rw [hxy]
    · exact Array.setIfInBounds_comm _ _ hxy
  rw [this]; rfl
theorem look_snoc (k a : Int) (v : Value) (c : Nat) : ∀ l, lookI k (l ++ [(⟨.int .i64 a, v, c⟩ : MapEntry)]) = match lookI k l with | some u => some u | none => if k = a then some v else none
  | [] => rfl
  | e :: r => by
    rw [List.cons_append, lookI, lookI]
    obtain ⟨ek, ev, eb⟩ := e
    cases ek with
    | int kk b =>
      cases kk with
      | i64 => by_cases h : k = b <;> simp [h, look_snoc k a v c r]
      | _ => exact look_snoc k a v c r
    | _ => exact look_snoc k a v c r
theorem keys_snoc (a : Int) (v : Value) (c : Nat) : ∀ l, keysI l = true → keysI (l ++ [(⟨.int .i64 a, v, c⟩ : MapEntry)]) = true
  | [], _ => rfl
  | e :: r, h => by
    rw [keysI, Bool.and_eq_true] at h
    rw [List.cons_append, keysI, h.1, keys_snoc a v c r h.2]; rfl
theorem noKey_of (k : Int) : ∀ l, keysI l = true → lookI k l = none → noKey k l = true
  | [], _, _ => rfl
  | e :: r, h, hl => by
    rw [keysI, Bool.and_eq_true] at h
    rw [lookI] at hl
    rw [noKey]
    obtain ⟨ek, ev, eb⟩ := e
    cases ek with
    | int kk b =>
      cases kk <;> simp at h
      by_cases hkb : k = b
      · simp [hkb] at hl
      · simp only [hkb, if_false] at hl
        simp [hkb, noKey_of k r h hl]
    | _ => simp at h
theorem ins_all (w : World) (a : Act) (key : Nat → Int) (val : Nat → Value) (target : Int → Option Value) {fuel : Nat} (hS : ∀ o, S (w.alloc o)) : ∀ (n : Nat) (R : List Nat) (listed : Array Bool) (l : List MapEntry) (c : Nat),
    onlyB md ops n listed R = true → R.length = n → (R.map key).Nodup → (∀ i ∈ R, target (key i) = some (val i)) →
    (∀ i ∈ R, ∃ o tl, ops.toList.drop i = o :: tl ∧ o.guard = none ∧ o.dst = none ∧ ∀ (l : List MapEntry) (c : Nat), noKey (key i) l = true → (execOp a.eval o).run P (w.alloc (.map l.toArray c)) = .ok .skip (w.alloc (.map (l ++ [(⟨.int .i64 (key i), val i, c⟩ : MapEntry)]).toArray (c + 1)))) →
    keysI l = true → (∀ k, lookI k l = if k ∈ R.map key then none else target k) →
    (∀ l', keysI l' = true → (∀ k, lookI k l' = target k) → wpAnyH P md ops Q S fuel (doneL listed R) a (w.alloc (.map l'.toArray (c + n)))) →
    wpAnyH P md ops Q S (fuel + n) listed a (w.alloc (.map l.toArray c))
  | 0, R, listed, l, c, _, hR, _, _, _, hk, hl, ht => by
    obtain rfl := List.eq_nil_of_length_eq_zero hR
    exact ht l hk (fun k => by rw [hl k]; simp)
  | n + 1, R, listed, l, c, hB, hR, hnd, htg, hop, hk, hl, ht => by
    simp only [onlyB, Bool.and_eq_true, decide_eq_true_eq, List.all_eq_true] at hB
    obtain ⟨⟨hr, hne⟩, hB⟩ := hB
    have hne' : R ≠ [] := fun e => by rw [e] at hne; simp at hne
    refine wpAnyH_all hr hne' fun i hi => ?_
    obtain ⟨o, tl, hd, hg, hds, hrun⟩ := hop i hi
    unfold wpOp
    simp only [at_drop hd, Region.wanted, hg, if_true]
    left
    have hki : key i ∈ R.map key := List.mem_map_of_mem hi
    have hno : noKey (key i) l = true := noKey_of _ l hk (by rw [hl]; simp [hki])
    refine op_skip (hrun l c hno) ⟨hS _, ?_⟩
    rw [hds]
    show wpAnyH P md ops Q S (fuel + n) _ a _
    have hsub : ∀ j, j ∈ R.erase i → j ∈ R := fun j hj => List.mem_of_mem_erase hj
    have hmem : ∀ k, k ∈ (R.erase i).map key ↔ (k ∈ R.map key ∧ k ≠ key i) := by
      intro k
      have hp : (R.map key).Perm (key i :: (R.erase i).map key) := (List.perm_cons_erase hi).map key
      have hnd2 : (key i :: (R.erase i).map key).Nodup := hp.nodup_iff.1 hnd
      rw [hp.mem_iff, List.mem_cons]
      constructor
      · intro h
        exact ⟨.inr h, fun e => (List.nodup_cons.1 hnd2).1 (e ▸ h)⟩
      · rintro ⟨h | h, h2⟩
        · exact absurd h h2
        · exact h
    have hnd' : ((R.erase i).map key).Nodup := ((List.perm_cons_erase hi).map key).nodup_iff.1 hnd |> fun h => (List.nodup_cons.1 h).2
    refine ins_all w a key val target hS n (R.erase i) _ _ _ (hB i hi) (by rw [List.length_erase_of_mem hi, hR]; rfl) hnd' (fun j hj => htg j (hsub j hj)) (fun j hj => hop j (hsub j hj)) (keys_snoc _ _ _ l hk) ?_ ?_
    · intro k
      rw [look_snoc, hl k]
      by_cases hke : k = key i
      · subst hke
        have : ¬ key i ∈ (R.erase i).map key := fun h => ((hmem _).1 h).2 rfl
        simp only [hki, if_true, this, if_false, htg i hi]
      · by_cases hkm : k ∈ R.map key
        · have h2 : k ∈ (R.erase i).map key := (hmem k).2 ⟨hkm, hke⟩
          simp only [hkm, if_true, h2, hke, if_false]
        · have h2 : ¬ k ∈ (R.erase i).map key := fun h => hkm ((hmem k).1 h).1
          simp only [hkm, if_false, h2, hke]
          cases target k <;> rfl
    · intro l' h1 h2
      rw [doneL_erase listed R i hi]
      have := ht l' h1 h2
      rwa [show c + 1 + n = c + (n + 1) by omega]
end
end Go.Proofs.YtgdiodhaihmnbaaDoor.Own
