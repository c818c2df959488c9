/- Steps towards the statement: the printer's texts and equalities are the reference's, and two valid formulas are equal exactly if their texts are; walks of the program's functions and the plain law behind them. This text: part 5 of 7. No condition of its own. -/
import Derived.Lib.AppendIntMem
import Derived.Laws.EntriesVeiled
import Derived.Test.YtgdiodhaihmnbaaDoorMat1
import Derived.Test.YtgdiodhaihmnbaaDoorMat2
import Derived.Test.YtgdiodhaihmnbaaDoorMat3
import Derived.Test.YtgdiodhaihmnbaaDoorMat4
set_option linter.unusedSimpArgs false
set_option linter.unusedVariables false
namespace Go.Proofs.YtgdiodhaihmnbaaDoor.Own
open Go.RowKit Go.Proofs.YtgdiodhaihmnbaaDoorW.PrintWords Go.Proofs.YtgdiodhaihmnbaaDoorW.PrintLast Go.Proofs.YtgdiodhaihmnbaaDoorW.PrintMore Go.Proofs.YtgdiodhaihmnbaaDoor.PPrinterMatchesReference
theorem zero9 (w : World) : (zeroValue 9).run Tryd.prog w = .ok (.string ⟨#[]⟩) w := by kernel_rfl
def entW : List MapEntry := [(⟨.int .i64 3, .string ⟨[117, 110, 105, 118].toArray⟩, 0⟩ : MapEntry), (⟨.int .i64 4, .string ⟨[105, 100, 101, 110].toArray⟩, 1⟩ : MapEntry), (⟨.int .i64 30, .string ⟨[116, 114, 117, 101].toArray⟩, 2⟩ : MapEntry), (⟨.int .i64 31, .string ⟨[102, 97, 108, 115, 101].toArray⟩, 3⟩ : MapEntry)]
theorem look_entW (k : Int) : (lookI k entW).getD (.string ⟨#[]⟩) = .string ⟨(wordT k).toArray⟩ := by
  simp only [entW, lookI, wordT]
  split <;> (try rfl)
  split <;> (try rfl)
  split <;> (try rfl)
  split <;> rfl
theorem look_word (w : World) (m : Nat) (l : List MapEntry) (n : Nat) (h : w.heap[m]? = some (.map l.toArray n)) (hk : keysI l = true) (hl : ∀ k, lookI k l = lookI k entW) (k : Int) : (Instr.lookup 103 (.map (some m)) (.int .i64 k) false).run Tryd.prog w = .ok (.string ⟨(wordT k).toArray⟩) w := by
  rw [run_look1 3 Tryd.underlying103 Tryd.underlying3 _ zero9 w m l n h hk k, hl k, look_entW]
def keyW : Nat → Int | 4 => 3 | 5 => 4 | 6 => 30 | _ => 31
def valW : Nat → Value | 4 => .string ⟨#[117, 110, 105, 118]⟩ | 5 => .string ⟨#[105, 100, 101, 110]⟩ | 6 => .string ⟨#[116, 114, 117, 101]⟩ | _ => .string ⟨#[102, 97, 108, 115, 101]⟩
theorem entW_none (k : Int) : lookI k [] = if k ∈ [4, 5, 6, 7].map keyW then none else lookI k entW := by
  simp only [lookI, entW, List.map_cons, List.map_nil, keyW, List.mem_cons, List.not_mem_nil, or_false]
  split
  · rfl
  · rename_i h
    rw [if_neg (fun e => h (.inl e)), if_neg (fun e => h (.inr (.inl e))), if_neg (fun e => h (.inr (.inr (.inl e)))), if_neg (fun e => h (.inr (.inr (.inr e))))]
theorem ins_run (w : World) {a : Act} {o : Oper} {m k x : Operand} (l : List MapEntry) (c : Nat) (ki : Int) (v : Value) (ho : o.op = .insert 103 m k x) (hm : a.eval m = .map (some w.heap.size)) (hk : a.eval k = .int .i64 ki ∧ a.eval x = v) (hno : noKey ki l = true) :
    (execOp a.eval o).run Tryd.prog (w.alloc (.map l.toArray c)) = .ok .skip (w.alloc (.map (l ++ [(⟨.int .i64 ki, v, c⟩ : MapEntry)]).toArray (c + 1))) := by
  have := run_insert_new 3 Tryd.underlying103 Tryd.underlying3 w l c ki v hno
  obtain ⟨od, oo, ot, op, oa, og⟩ := o
  simp only at ho
  subst ho
  simp [execOp, hm, hk.1, hk.2, this, Result.andThen]
set_option maxHeartbeats 4000000 in
set_option maxRecDepth 100000 in
theorem node_leaf (x : S24) (hno : ∀ k ∈ ([1, 2, 20, 5, 45, 46, 15, 47] : List Int), x.f0 ≠ k) (hbn : atT x.f0 binT = none) (hb : atT x.f0 preT = none) : NodeC x := by
  intro w0 B b m2 m1 bs w cs fin hx hb0 hB0 ht hP hlen
  obtain ⟨A, c, rfl, hlc, hA⟩ := k24_open hx
  have HX := Aside0.mk hx
  have HA := Aside0.mk hA
  have HP := Aside0.mk hP
  have HT := Aside0.mk ht
  have HB0 := Aside0.mk hb0
  have hlt := hP.lt
  have hlow := hP.low
  have hu24 := Tryd.underlying24
  have hu96 := Tryd.underlying96
  have htx : txt x fin = wordT x.f0 := by rw [txt_def, hbn, hb]; simp only [List.forall_mem_cons] at hno; simp [hno]
  rw [htx] at hlen ⊢
  have HL := Aside0.mk hlen
  have HQtwo := Aside0.mk hbn
  have HQone := Aside0.mk hb
  have HNO := Aside0.mk hno
  clear hx hP ht hb0 hA hlc htx hlen hb hbn hno
  go_enter Tryd.func38, Tryd.ntmps38
  go_wp2_with ((with_reducible refine gate_dst (N := 4) rfl ?_); refine box_event rfl (N := 4) rfl (cs := #[.int .i64 x.f0, .string x.f1, .int .i64 x.f2, .slice A x.f3.length c, .int .i64 x.f4]) (t := 24) (by first | (go_simp; done) | (go_simp; rfl)) ?_; intro g hg w1 hbk1 hb1; have HG := Aside0.mk hg; clear hg)
  have HW1 := Aside0.mk (show Wrote B b m2 m1 bs w w1 from ⟨HP.out.below hb1, hb1.mono (by omega), fun i o hi _ _ => (hb1.block i (blk_lt hi)).trans hi⟩)
  have hgb : g ≠ b := by have := HG.out; omega
  clear hb1
  obtain ⟨S, hSe⟩ : ∃ S : World → Prop, S = fun W => Below w1.heap.size w1 W := ⟨_, rfl⟩
  obtain ⟨p, v, kP⟩ := HW1.out.1
  have q2 : ∀ W, S W → W.cell? ⟨b, 2, none⟩ = some (.map (some m2)) := fun W hW => by rw [hSe] at hW; exact blk_cell (blk_below kP.blk hW) 2
  have q0 : ∀ W, S W → W.cell? ⟨g, 0, none⟩ = some (.int .i64 x.f0) := fun W hW => by rw [hSe] at hW; exact blk_cell (blk_below hbk1 hW) 0
  have ql : ∀ W, S W → (Instr.lookup 73 (.map (some m2)) (.int .i64 x.f0) true).run Tryd.prog W = .ok (.tuple #[.agg #[.string ⟨#[]⟩, .int .i64 0, .int .i64 0, .int .i64 0], .bool false]) W := fun W hW => by
    rw [hSe] at hW
    rw [look_tab W m2 binT 17 (kP.below hW).two, HQtwo.out]
    rfl
  have hS0 : S w1.drew := by rw [hSe]; exact below_drew1 (Below.refl _ _)
  refine wp_region_held_drew (S := S) (by kernel_rfl) hS0 (fun _ => ?_)
  refine h_take 0 rfl (by kernel_rfl) (by kernel_rfl) (by kernel_rfl) (fun _ _ _ _ h => h) hS0 rfl ?_
  apply Exists.intro
  refine ⟨fun W hW => ?_, ?_⟩
  · have p2 := q2 W hW
    have p0 := q0 W hW
    have pl := ql W hW
    go_simp
    try rfl
  simp only [Act.put, List.setIfInBounds_toArray, List.set_cons_zero, List.set_cons_succ]
  refine h_take 1 rfl (by kernel_rfl) (by kernel_rfl) (by kernel_rfl) (fun _ _ _ _ h => h) hS0 rfl ?_
  apply Exists.intro
  refine ⟨fun W hW => ?_, ?_⟩
  · have p2 := q2 W hW
    have p0 := q0 W hW
    have pl := ql W hW
    go_simp
    try rfl
  simp only [Act.put, List.setIfInBounds_toArray, List.set_cons_zero, List.set_cons_succ]
  refine h_take 2 rfl (by kernel_rfl) (by kernel_rfl) (by kernel_rfl) (fun _ _ _ _ h => h) hS0 rfl ?_
  apply Exists.intro
  refine ⟨fun W hW => ?_, ?_⟩
  · have p2 := q2 W hW
    have p0 := q0 W hW
    have pl := ql W hW
    go_simp
    try rfl
  simp only [Act.put, List.setIfInBounds_toArray, List.set_cons_zero, List.set_cons_succ]
  refine h_take 3 rfl (by kernel_rfl) (by kernel_rfl) (by kernel_rfl) (fun _ _ _ _ h => h) hS0 rfl ?_
  apply Exists.intro
  refine ⟨fun W hW => ?_, ?_⟩
  · have p2 := q2 W hW
    have p0 := q0 W hW
    have pl := ql W hW
    go_simp
    try rfl
  simp only [Act.put, List.setIfInBounds_toArray, List.set_cons_zero, List.set_cons_succ]
  refine h_take 4 rfl (by kernel_rfl) (by kernel_rfl) (by kernel_rfl) (fun _ _ _ _ h => h) hS0 rfl ?_
  apply Exists.intro
  refine ⟨fun W hW => ?_, ?_⟩
  · have p2 := q2 W hW
    have p0 := q0 W hW
    have pl := ql W hW
    go_simp
    try rfl
  simp only [Act.put, List.setIfInBounds_toArray, List.set_cons_zero, List.set_cons_succ]
  refine h_take 5 rfl (by kernel_rfl) (by kernel_rfl) (by kernel_rfl) (fun _ _ _ _ h => h) hS0 rfl ?_
  apply Exists.intro
  refine ⟨fun W hW => ?_, ?_⟩
  · have p2 := q2 W hW
    have p0 := q0 W hW
    have pl := ql W hW
    go_simp
    try rfl
  simp only [Act.put, List.setIfInBounds_toArray, List.set_cons_zero, List.set_cons_succ]
  refine h_take 6 rfl (by kernel_rfl) (by kernel_rfl) (by kernel_rfl) (fun _ _ _ _ h => h) hS0 rfl ?_
  apply Exists.intro
  refine ⟨fun W hW => ?_, ?_⟩
  · have p2 := q2 W hW
    have p0 := q0 W hW
    have pl := ql W hW
    go_simp
    try rfl
  simp only [Act.put, List.setIfInBounds_toArray, List.set_cons_zero, List.set_cons_succ]
  refine h_take 7 rfl (by kernel_rfl) (by kernel_rfl) (by kernel_rfl) (fun _ _ _ _ h => h) hS0 rfl ?_
  apply Exists.intro
  refine ⟨fun W hW => ?_, ?_⟩
  · have p2 := q2 W hW
    have p0 := q0 W hW
    have pl := ql W hW
    go_simp
    try rfl
  simp only [Act.put, List.setIfInBounds_toArray, List.set_cons_zero, List.set_cons_succ]
  refine h_take 8 rfl (by kernel_rfl) (by kernel_rfl) (by kernel_rfl) (fun _ _ _ _ h => h) hS0 rfl ?_
  apply Exists.intro
  refine ⟨fun W hW => ?_, ?_⟩
  · have p2 := q2 W hW
    have p0 := q0 W hW
    have pl := ql W hW
    go_simp
    try rfl
  simp only [Act.put, List.setIfInBounds_toArray, List.set_cons_zero, List.set_cons_succ]
  refine h_take 9 rfl (by kernel_rfl) (by kernel_rfl) (by kernel_rfl) (fun _ _ _ _ h => h) hS0 rfl ?_
  apply Exists.intro
  refine ⟨fun W hW => ?_, ?_⟩
  · have p2 := q2 W hW
    have p0 := q0 W hW
    have pl := ql W hW
    go_simp
    try rfl
  simp only [Act.put, List.setIfInBounds_toArray, List.set_cons_zero, List.set_cons_succ]
  refine h_one 10 rfl (by kernel_rfl) rfl ?_
  refine op_val (by go_simp; exact ⟨rfl, rfl⟩) ?_
  refine ⟨by rw [hSe]; exact below_drew1 (below_alloc (Below.refl _ _) _), ?_⟩
  simp only [Act.put, List.setIfInBounds_toArray, List.set_cons_zero, List.set_cons_succ]
  refine h_one 11 rfl (by kernel_rfl) rfl ?_
  refine op_skip (w1 := (w1.alloc (.cells #[.string ⟨#[]⟩, .int .i64 0, .int .i64 0, .int .i64 0] 96)).drew) (by go_simp) ?_
  refine ⟨by rw [hSe]; exact below_drew1 (below_alloc (Below.refl _ _) _), ?_⟩
  simp only [Act.put]
  refine h_one 12 rfl (by kernel_rfl) rfl ?_
  refine op_val (by go_simp; exact ⟨rfl, rfl⟩) ?_
  refine ⟨by rw [hSe]; exact below_drew1 (below_alloc (Below.refl _ _) _), ?_⟩
  simp only [Act.put, List.setIfInBounds_toArray, List.set_cons_zero, List.set_cons_succ]
  refine wpAnyH_done (by kernel_rfl) ?_ _
  have hwe : Below w1.heap.size w1 (w1.alloc (.cells #[.string ⟨#[]⟩, .int .i64 0, .int .i64 0, .int .i64 0] 96)).drew := below_drew1 (below_alloc (Below.refl _ _) _)
  have hbn : ((w1.alloc (.cells #[.string ⟨#[]⟩, .int .i64 0, .int .i64 0, .int .i64 0] 96)).drew).heap[w1.heap.size]? = some (.cells #[.string ⟨#[]⟩, .int .i64 0, .int .i64 0, .int .i64 0] 96 (0, 0)) := blk_new w1 _
  generalize (w1.alloc (.cells #[.string ⟨#[]⟩, .int .i64 0, .int .i64 0, .int .i64 0] 96)).drew = w2 at *
  have hbk2 := blk_below hbk1 hwe
  have hrbtwo : w1.heap.size ≠ b := by have := HW1.out.size; omega
  have HW2 := Aside0.mk (HW1.out.before hwe (by have := HW1.out.size; omega))
  generalize w1.heap.size = rtwo at *
  have hrwtwo2 := hbn
  clear q0 q2 ql hS0 hSe hwe kP hbk1 HW1 hbn
  go_wp2_with fail
  obtain ⟨S, hSe⟩ : ∃ S : World → Prop, S = fun W => Below w2.heap.size w2 W := ⟨_, rfl⟩
  obtain ⟨p, v, kP⟩ := HW2.out.1
  have q2 : ∀ W, S W → W.cell? ⟨b, 3, none⟩ = some (.map (some m1)) := fun W hW => by rw [hSe] at hW; exact blk_cell (blk_below kP.blk hW) 3
  have q0 : ∀ W, S W → W.cell? ⟨g, 0, none⟩ = some (.int .i64 x.f0) := fun W hW => by rw [hSe] at hW; exact blk_cell (blk_below hbk2 hW) 0
  have ql : ∀ W, S W → (Instr.lookup 73 (.map (some m1)) (.int .i64 x.f0) true).run Tryd.prog W = .ok (.tuple #[.agg #[.string ⟨#[]⟩, .int .i64 0, .int .i64 0, .int .i64 0], .bool false]) W := fun W hW => by
    rw [hSe] at hW
    rw [look_tab W m1 preT 12 (kP.below hW).one, HQone.out]
    rfl
  have hS0 : S w2.drew := by rw [hSe]; exact below_drew1 (Below.refl _ _)
  refine wp_region_held_drew (S := S) (by kernel_rfl) hS0 (fun _ => ?_)
  refine h_take 0 rfl (by kernel_rfl) (by kernel_rfl) (by kernel_rfl) (fun _ _ _ _ h => h) hS0 rfl ?_
  apply Exists.intro
  refine ⟨fun W hW => ?_, ?_⟩
  · have p2 := q2 W hW
    have p0 := q0 W hW
    have pl := ql W hW
    go_simp
    try rfl
  simp only [Act.put, List.setIfInBounds_toArray, List.set_cons_zero, List.set_cons_succ]
  refine h_take 1 rfl (by kernel_rfl) (by kernel_rfl) (by kernel_rfl) (fun _ _ _ _ h => h) hS0 rfl ?_
  apply Exists.intro
  refine ⟨fun W hW => ?_, ?_⟩
  · have p2 := q2 W hW
    have p0 := q0 W hW
    have pl := ql W hW
    go_simp
    try rfl
  simp only [Act.put, List.setIfInBounds_toArray, List.set_cons_zero, List.set_cons_succ]
  refine h_take 2 rfl (by kernel_rfl) (by kernel_rfl) (by kernel_rfl) (fun _ _ _ _ h => h) hS0 rfl ?_
  apply Exists.intro
  refine ⟨fun W hW => ?_, ?_⟩
  · have p2 := q2 W hW
    have p0 := q0 W hW
    have pl := ql W hW
    go_simp
    try rfl
  simp only [Act.put, List.setIfInBounds_toArray, List.set_cons_zero, List.set_cons_succ]
  refine h_take 3 rfl (by kernel_rfl) (by kernel_rfl) (by kernel_rfl) (fun _ _ _ _ h => h) hS0 rfl ?_
  apply Exists.intro
  refine ⟨fun W hW => ?_, ?_⟩
  · have p2 := q2 W hW
    have p0 := q0 W hW
    have pl := ql W hW
    go_simp
    try rfl
  simp only [Act.put, List.setIfInBounds_toArray, List.set_cons_zero, List.set_cons_succ]
  refine h_take 4 rfl (by kernel_rfl) (by kernel_rfl) (by kernel_rfl) (fun _ _ _ _ h => h) hS0 rfl ?_
  apply Exists.intro
  refine ⟨fun W hW => ?_, ?_⟩
  · have p2 := q2 W hW
    have p0 := q0 W hW
    have pl := ql W hW
    go_simp
    try rfl
  simp only [Act.put, List.setIfInBounds_toArray, List.set_cons_zero, List.set_cons_succ]
  refine h_take 5 rfl (by kernel_rfl) (by kernel_rfl) (by kernel_rfl) (fun _ _ _ _ h => h) hS0 rfl ?_
  apply Exists.intro
  refine ⟨fun W hW => ?_, ?_⟩
  · have p2 := q2 W hW
    have p0 := q0 W hW
    have pl := ql W hW
    go_simp
    try rfl
  simp only [Act.put, List.setIfInBounds_toArray, List.set_cons_zero, List.set_cons_succ]
  refine h_take 6 rfl (by kernel_rfl) (by kernel_rfl) (by kernel_rfl) (fun _ _ _ _ h => h) hS0 rfl ?_
  apply Exists.intro
  refine ⟨fun W hW => ?_, ?_⟩
  · have p2 := q2 W hW
    have p0 := q0 W hW
    have pl := ql W hW
    go_simp
    try rfl
  simp only [Act.put, List.setIfInBounds_toArray, List.set_cons_zero, List.set_cons_succ]
  refine h_take 7 rfl (by kernel_rfl) (by kernel_rfl) (by kernel_rfl) (fun _ _ _ _ h => h) hS0 rfl ?_
  apply Exists.intro
  refine ⟨fun W hW => ?_, ?_⟩
  · have p2 := q2 W hW
    have p0 := q0 W hW
    have pl := ql W hW
    go_simp
    try rfl
  simp only [Act.put, List.setIfInBounds_toArray, List.set_cons_zero, List.set_cons_succ]
  refine h_take 8 rfl (by kernel_rfl) (by kernel_rfl) (by kernel_rfl) (fun _ _ _ _ h => h) hS0 rfl ?_
  apply Exists.intro
  refine ⟨fun W hW => ?_, ?_⟩
  · have p2 := q2 W hW
    have p0 := q0 W hW
    have pl := ql W hW
    go_simp
    try rfl
  simp only [Act.put, List.setIfInBounds_toArray, List.set_cons_zero, List.set_cons_succ]
  refine h_take 9 rfl (by kernel_rfl) (by kernel_rfl) (by kernel_rfl) (fun _ _ _ _ h => h) hS0 rfl ?_
  apply Exists.intro
  refine ⟨fun W hW => ?_, ?_⟩
  · have p2 := q2 W hW
    have p0 := q0 W hW
    have pl := ql W hW
    go_simp
    try rfl
  simp only [Act.put, List.setIfInBounds_toArray, List.set_cons_zero, List.set_cons_succ]
  refine h_one 10 rfl (by kernel_rfl) rfl ?_
  refine op_val (by go_simp; exact ⟨rfl, rfl⟩) ?_
  refine ⟨by rw [hSe]; exact below_drew1 (below_alloc (Below.refl _ _) _), ?_⟩
  simp only [Act.put, List.setIfInBounds_toArray, List.set_cons_zero, List.set_cons_succ]
  refine h_one 11 rfl (by kernel_rfl) rfl ?_
  refine op_skip (w1 := (w2.alloc (.cells #[.string ⟨#[]⟩, .int .i64 0, .int .i64 0, .int .i64 0] 96)).drew) (by go_simp) ?_
  refine ⟨by rw [hSe]; exact below_drew1 (below_alloc (Below.refl _ _) _), ?_⟩
  simp only [Act.put]
  refine h_one 12 rfl (by kernel_rfl) rfl ?_
  refine op_val (by go_simp; exact ⟨rfl, rfl⟩) ?_
  refine ⟨by rw [hSe]; exact below_drew1 (below_alloc (Below.refl _ _) _), ?_⟩
  simp only [Act.put, List.setIfInBounds_toArray, List.set_cons_zero, List.set_cons_succ]
  refine wpAnyH_done (by kernel_rfl) ?_ _
  have hwe : Below w2.heap.size w2 (w2.alloc (.cells #[.string ⟨#[]⟩, .int .i64 0, .int .i64 0, .int .i64 0] 96)).drew := below_drew1 (below_alloc (Below.refl _ _) _)
  have hbn : ((w2.alloc (.cells #[.string ⟨#[]⟩, .int .i64 0, .int .i64 0, .int .i64 0] 96)).drew).heap[w2.heap.size]? = some (.cells #[.string ⟨#[]⟩, .int .i64 0, .int .i64 0, .int .i64 0] 96 (0, 0)) := blk_new w2 _
  generalize (w2.alloc (.cells #[.string ⟨#[]⟩, .int .i64 0, .int .i64 0, .int .i64 0] 96)).drew = w3 at *
  have hbk3 := blk_below hbk2 hwe
  have hrbone : w2.heap.size ≠ b := by have := HW2.out.size; omega
  have HW3 := Aside0.mk (HW2.out.before hwe (by have := HW2.out.size; omega))
  generalize w2.heap.size = rone at *
  have hrwone3 := hbn
  clear q0 q2 ql hS0 hSe hwe kP hbk2 HW2 hbn hrwtwo2 hrwone3 hrbtwo hrbone
  have z0 := blk_cell hbk3 0
  have z1 := blk_cell hbk3 1
  have z2 := blk_cell hbk3 2
  have z3 := blk_cell hbk3 3
  have z4 := blk_cell hbk3 4
  have e1 : (x.f0 == 1) = false := by simpa using HNO.out 1 (by decide)
  have e2 : (x.f0 == 2) = false := by simpa using HNO.out 2 (by decide)
  have e20 : (x.f0 == 20) = false := by simpa using HNO.out 20 (by decide)
  have e5 : (x.f0 == 5) = false := by simpa using HNO.out 5 (by decide)
  have e45 : (x.f0 == 45) = false := by simpa using HNO.out 45 (by decide)
  have e46 : (x.f0 == 46) = false := by simpa using HNO.out 46 (by decide)
  have e15 : (x.f0 == 15) = false := by simpa using HNO.out 15 (by decide)
  have e47 : (x.f0 == 47) = false := by simpa using HNO.out 47 (by decide)
  go_wp2_with fail
  clear z1 z2 z3 z4
  obtain ⟨S, hSe⟩ : ∃ S : World → Prop, S = fun W => W.heap[g]? = some (.cells #[.int .i64 x.f0, .string x.f1, .int .i64 x.f2, .slice A x.f3.length c, .int .i64 x.f4] 24 (0, 0)) := ⟨_, rfl⟩
  have q0 : ∀ W, S W → W.cell? ⟨g, 0, none⟩ = some (.int .i64 x.f0) := fun W hW => by rw [hSe] at hW; exact blk_cell hW 0
  have hS0 : S w3.drew := by rw [hSe]; exact hbk3
  have hmm := @run_makeMap Tryd.prog
  refine wp_region_held_drew (S := S) (by kernel_rfl) hS0 (fun _ => ?_)
  refine h_take 0 rfl (by kernel_rfl) (by kernel_rfl) (by kernel_rfl) (fun _ _ _ _ h => h) hS0 rfl ?_
  apply Exists.intro
  refine ⟨fun W hW => ?_, ?_⟩
  · have p0 := q0 W hW
    go_simp
    try rfl
  simp only [Act.put, List.setIfInBounds_toArray, List.set_cons_zero, List.set_cons_succ]
  refine h_take 1 rfl (by kernel_rfl) (by kernel_rfl) (by kernel_rfl) (fun _ _ _ _ h => h) hS0 rfl ?_
  apply Exists.intro
  refine ⟨fun W hW => ?_, ?_⟩
  · have p0 := q0 W hW
    go_simp
    try rfl
  simp only [Act.put, List.setIfInBounds_toArray, List.set_cons_zero, List.set_cons_succ]
  refine h_take 2 rfl (by kernel_rfl) (by kernel_rfl) (by kernel_rfl) (fun _ _ _ _ h => h) hS0 rfl ?_
  apply Exists.intro
  refine ⟨fun W hW => ?_, ?_⟩
  · have p0 := q0 W hW
    go_simp
    try rfl
  simp only [Act.put, List.setIfInBounds_toArray, List.set_cons_zero, List.set_cons_succ]
  refine h_take 9 rfl (by kernel_rfl) (by kernel_rfl) (by kernel_rfl) (fun _ _ _ _ h => h) hS0 rfl ?_
  apply Exists.intro
  refine ⟨fun W hW => ?_, ?_⟩
  · have p0 := q0 W hW
    go_simp
    try rfl
  simp only [Act.put, List.setIfInBounds_toArray, List.set_cons_zero, List.set_cons_succ]
  refine h_take 10 rfl (by kernel_rfl) (by kernel_rfl) (by kernel_rfl) (fun _ _ _ _ h => h) hS0 rfl ?_
  apply Exists.intro
  refine ⟨fun W hW => ?_, ?_⟩
  · have p0 := q0 W hW
    go_simp
    try rfl
  simp only [Act.put, List.setIfInBounds_toArray, List.set_cons_zero, List.set_cons_succ]
  refine h_one 3 rfl (by kernel_rfl) rfl ?_
  refine op_val (v := .map (some w3.heap.size)) (w1 := w3.drew.alloc (.map ([] : List MapEntry).toArray 0)) (by go_simp; first | done | rfl) ?_
  refine ⟨by rw [hSe]; exact blk_alloc hbk3 _, ?_⟩
  simp only [Act.put, List.setIfInBounds_toArray, List.set_cons_zero, List.set_cons_succ]
  refine ins_all w3.drew _ keyW valW (fun k => lookI k entW) (fun o => by rw [hSe]; exact blk_alloc hbk3 o) 4 [4, 5, 6, 7] _ [] 0 (by kernel_rfl) rfl (by decide) ?_ ?_ rfl ?_ ?_
  · intro i hi
    simp only [List.mem_cons, List.not_mem_nil, or_false] at hi
    rcases hi with rfl | rfl | rfl | rfl <;> rfl
  · intro i hi
    simp only [List.mem_cons, List.not_mem_nil, or_false] at hi
    rcases hi with rfl | rfl | rfl | rfl
    · exact ⟨_, _, rfl, rfl, rfl, fun l c hno => ins_run _ l c _ _ rfl rfl ⟨rfl, rfl⟩ hno⟩
    · exact ⟨_, _, rfl, rfl, rfl, fun l c hno => ins_run _ l c _ _ rfl rfl ⟨rfl, rfl⟩ hno⟩
    · exact ⟨_, _, rfl, rfl, rfl, fun l c hno => ins_run _ l c _ _ rfl rfl ⟨rfl, rfl⟩ hno⟩
    · exact ⟨_, _, rfl, rfl, rfl, fun l c hno => ins_run _ l c _ _ rfl rfl ⟨rfl, rfl⟩ hno⟩
  · intro k
    exact entW_none k
  intro l' hk' hl'
  have hlw : (Instr.lookup 103 (.map (some w3.heap.size)) (.int .i64 x.f0) false).run Tryd.prog (w3.drew.alloc (.map l'.toArray (0 + 4))) = .ok (.string ⟨(wordT x.f0).toArray⟩) (w3.drew.alloc (.map l'.toArray (0 + 4))) := look_word (w3.drew.alloc (.map l'.toArray (0 + 4))) w3.drew.heap.size l' (0 + 4) (blk_new _ _) hk' hl' x.f0
  obtain ⟨w4, hw4⟩ : ∃ w4, w4 = w3.drew.alloc (.map l'.toArray (0 + 4)) := ⟨_, rfl⟩
  rw [← hw4] at hlw ⊢
  have hwb : Below w3.heap.size w3 w4 := by rw [hw4]; exact below_alloc (below_drew1 (Below.refl _ _)) _
  have hbk4 := blk_below hbk3 hwb
  have HW4 := Aside0.mk (HW3.out.before hwb (by have := HW3.out.size; omega))
  clear hw4 hk' hl' hwb hmm
  have hS4 : S w4 := by rw [hSe]; exact hbk4
  refine h_one 8 rfl (by kernel_rfl) rfl ?_
  refine op_val (by go_simp; exact ⟨rfl, rfl⟩) ?_
  refine ⟨hS4, ?_⟩
  simp only [Act.put, List.setIfInBounds_toArray, List.set_cons_zero, List.set_cons_succ]
  refine h_one 11 rfl (by kernel_rfl) rfl ?_
  refine op_val (v := .string ⟨(wordT x.f0).toArray⟩) (w1 := w4) (by go_simp; done) ?_
  refine ⟨hS4, ?_⟩
  simp only [Act.put, List.setIfInBounds_toArray, List.set_cons_zero, List.set_cons_succ]
  refine h_one 12 rfl (by kernel_rfl) rfl ?_
  refine op_call (by go_simp) (writeL_walk B b m2 m1 bs (wordT x.f0) w4 HW4.out.1 HL.out (by have := HW4.out.size; omega)) ?_
  intro w5 hw5
  refine ⟨by rw [hSe]; exact hw5.blk hbk4 hgb (by decide), ?_⟩
  simp only [Act.put, List.setIfInBounds_toArray, List.set_cons_zero, List.set_cons_succ]
  refine wpAnyH_done (by kernel_rfl) ?_ _
  have HW5 := Aside0.mk (HW4.out.trans hw5)
  clear q0 hS0 hS4 hlw hSe hw5 HW4 hbk4 HW3 hbk3
  go_wp2_with fail
  go_end0
  exact ⟨rfl, HW5.out⟩
end Go.Proofs.YtgdiodhaihmnbaaDoor.Own
namespace Go.Proofs.YtgdiodhaihmnbaaDoor.Own
open Go.RowKit Go.Proofs.YtgdiodhaihmnbaaDoorW.PrintWords Go.Proofs.YtgdiodhaihmnbaaDoorW.PrintLast Go.Proofs.YtgdiodhaihmnbaaDoorW.PrintMore Go.Proofs.YtgdiodhaihmnbaaDoor.PPrinterMatchesReference
theorem atT_mem {k : Int} {v : List UInt8 × Int × Int × Int} : ∀ {T : List (Int × List UInt8 × Int × Int × Int)}, atT k T = some v → (k, v) ∈ T
  | [], h => by cases h
  | (a, u) :: r, h => by
    rw [atT] at h
    split at h
    · rename_i e; subst e; cases h; exact List.mem_cons_self
    · exact List.mem_cons_of_mem _ (atT_mem h)
theorem bin_needs {k : Int} {s : List UInt8} {l a b : Int} (h : atT k binT = some (s, l, a, b)) : a ≤ 15 ∧ b ≤ 15 := by
  have : ∀ p ∈ binT, p.2.2.2.1 ≤ 15 ∧ p.2.2.2.2 ≤ 15 := by decide
  exact this _ (atT_mem h)
theorem pre_needs {k : Int} {s : List UInt8} {l a b : Int} (h : atT k preT = some (s, l, a, b)) : a ≤ 15 ∧ b ≤ 15 := by
  have : ∀ p ∈ preT, p.2.2.2.1 ≤ 15 ∧ p.2.2.2.2 ≤ 15 := by decide
  exact this _ (atT_mem h)
theorem node_z24 : NodeC z24 := node_leaf z24 (by decide) rfl rfl
theorem node_all_aux (n : Nat) : ∀ x : S24, SizeOf.sizeOf x < n → numOK x → NodeC x := by
  induction n with
  | zero => intro x h; omega
  | succ n ih =>
    intro x hx hn
    rw [numOK_def] at hn
    have hkid : ∀ y ∈ x.f3, NodeC y := fun y hy => ih y (by
      have h3 := List.sizeOf_lt_of_mem hy
      have h4 : SizeOf.sizeOf x.f3 < SizeOf.sizeOf x := by cases x; simp; omega
      omega) (numsOK_mem hn.2 hy)
    have hget : ∀ i, NodeC (x.f3.getD i z24) := fun i => by
      rw [List.getD_eq_getElem?_getD]
      cases h : x.f3[i]? with
      | none => exact node_z24
      | some y => exact hkid y (List.mem_of_getElem? h)
    have hopr : ∀ i, OprC (x.f3.getD i z24) := fun i => opr_walk _ (hget i)
    cases hb : atT x.f0 binT with
    | some q =>
      obtain ⟨s, l, a, b⟩ := q
      exact node_bin x s l a b hb (hopr 0) (hopr 1) (bin_needs hb).1 (bin_needs hb).2
    | none =>
      cases hp : atT x.f0 preT with
      | some q =>
        obtain ⟨s, l, a, b⟩ := q
        exact node_pre x s l a b hb hp (hopr 0) (pre_needs hp).1
      | none =>
        by_cases h1 : x.f0 = 1
        · exact node_name x h1 hb hp
        by_cases h2 : x.f0 = 2
        · by_cases h : x.f2 = 1
          · exact node_none1 x h2 h hb hp
          · exact node_none2 x h2 h hn.1.1.1 hn.1.1.2 hb hp
        by_cases h20 : x.f0 = 20
        · exact node_lit x h20 hn.1.1.1 hn.1.1.2 hb hp
        by_cases h5 : x.f0 = 5
        · exact node_prime x h5 hb hp (hopr 0)
        by_cases h45 : x.f0 = 45
        · exact node_all x h45 hb hp (hopr 0) (hget 1)
        by_cases h46 : x.f0 = 46
        · exact node_some x h46 hb hp (hopr 0) (hget 1)
        by_cases h15 : x.f0 = 15
        · exact node_compr x h15 hb hp (hopr 0) (hget 1)
        by_cases h47 : x.f0 = 47
        · exact node_call x h47 hb hp (fun y hy => opr_walk y (hkid y hy))
        · exact node_leaf x (by intro k hk; simp only [List.mem_cons, List.not_mem_nil, or_false] at hk; rcases hk with rfl | rfl | rfl | rfl | rfl | rfl | rfl | rfl <;> assumption) hb hp
theorem node_walk (x : S24) (h : numOK x) : NodeC x := node_all_aux _ x (Nat.lt_succ_self _) h
/-- newPrinter: a printer that holds nothing yet. -/
theorem newp_walk (w : World) : Calls Tryd.prog 37 #[] w fun e w' => ∃ b m2 m1, e = .returned (.pointer (some ⟨b, 0, none⟩)) ∧ IsPa w.heap.size b m2 m1 none (.slice none 0 0) [] w' ∧ Below w.heap.size w w' := by
  refine (new_walk w).mono ?_
  rintro e w' ⟨rfl, rfl⟩
  refine ⟨w.heap.size + 2, w.heap.size, w.heap.size + 1, rfl, ⟨by omega, ?_, .inl rfl, World.ownsRow_nil _ _ _ _, ?_, ?_⟩, by repeat (first | exact Below.refl _ _ | apply below_alloc)⟩
  · simpa using blk_new ((w.alloc (.map (entT binT 0).toArray 17)).alloc (.map (entT preT 0).toArray 12)) (.cells #[.pointer none, .slice none 0 0, .map (some w.heap.size), .map (some (w.heap.size + 1))] 75)
  · exact blk_alloc (blk_alloc (blk_new _ _) _) _
  · exact blk_alloc (blk_two _ _ _) _
set_option maxHeartbeats 1000000 in
set_option maxRecDepth 100000 in
/-- Formula. -/
theorem formula_walk (x : S24) (hn : numOK x) (w : World) (cs : List Value) (hx : k24.K w x cs) (ht : Tab w) (hne : txt x true ≠ []) (hlen : (txt x true).length ≤ most) :
    Calls Tryd.prog 13 #[.agg cs.toArray] w fun e w' => e = .returned (.string ⟨(txt x true).toArray⟩) ∧ Below w.heap.size w w' := by
  obtain ⟨A, c, rfl, hlc, hA⟩ := k24_open hx
  have HN := Aside0.mk (node_walk x hn)
  have HX := Aside0.mk hx
  have HT := Aside0.mk ht
  have HE := Aside0.mk hne
  have HL := Aside0.mk hlen
  have hu24 := Tryd.underlying24
  clear hx ht hn hne hlen hA hlc
  go_enter Tryd.func13, Tryd.ntmps13
  go_wp2_with fail
  have hb0 : Below w.heap.size w (w.alloc (.cells #[.int .i64 x.f0, .string x.f1, .int .i64 x.f2, .slice A x.f3.length c, .int .i64 x.f4] 24)) := below_alloc (Below.refl _ _) _
  have hbk0 := blk_new w (.cells #[.int .i64 x.f0, .string x.f1, .int .i64 x.f2, .slice A x.f3.length c, .int .i64 x.f4] 24)
  refine (newp_walk _).mono ?_
  rintro e w1 ⟨b, m2, m1, rfl, hP, hb1⟩
  have hbk1 := blk_below hbk0 hb1
  have HB1 := Aside0.mk (below_step hb0 hb1)
  have HP := Aside0.mk hP
  have HSZ := Aside0.mk (hb0.size)
  clear hb1 hbk0 hb0 hP
  have z0 := blk_cell hbk1 0
  have z1 := blk_cell hbk1 1
  have z2 := blk_cell hbk1 2
  have z3 := blk_cell hbk1 3
  have z4 := blk_cell hbk1 4
  clear hbk1
  go_wp2_with fail
  refine (HN.out w _ b m2 m1 [] w1 _ true HX.out HB1.out HSZ.out HT.out ⟨_, _, HP.out⟩ ?l1).mono ?_
  case l1 => have := HL.out; simpa using this
  rintro e w2 ⟨rfl, hw⟩
  have HW := Aside0.mk hw
  have HB2 := Aside0.mk (hw.from_ HB1.out HSZ.out)
  clear hw z0 z1 z2 z3 z4
  go_wp2_with fail
  refine (string_walk _ b m2 m1 _ w2 HW.out.1 ?l2 ?l3).mono ?_
  case l2 => have := HE.out; simpa using this
  case l3 => have := HW.out.size; have := HP.out.low; have := HP.out.lt; omega
  rintro e w3 ⟨rfl, hb3⟩
  have HB3 := Aside0.mk (show Below w.heap.size w w3 from HB2.out.trans (hb3.mono HSZ.out))
  clear hb3
  go_wp2
  go_ret
  exact ⟨rfl, HB3.out⟩
end Go.Proofs.YtgdiodhaihmnbaaDoor.Own
namespace Go.Proofs.YtgdiodhaihmnbaaDoor.PPrinterMatchesReference
open Go.RowKit Go.Proofs.YtgdiodhaihmnbaaDoorW.PrintWords Go.Proofs.YtgdiodhaihmnbaaDoorW.PrintLast Go.Proofs.YtgdiodhaihmnbaaDoorW.PrintMore
set_option linter.unusedVariables false
set_option linter.unusedSimpArgs false
theorem eqA42 (d : Nat) (w : World) (x0 y0 : ByteArray) (x1 y1 : Bool) :
    (Op.equalIn (d + 2) 42 (.agg #[.string x0, .bool x1]) (.agg #[.string y0, .bool y1])).run Tryd.prog w = .ok (x0.toList == y0.toList && (x1 == y1)) w := by
  refine eqA_of Tryd.underlying42 (by kernel_rfl) ?_
  refine eqf_cons (by rfl) (by go_simp; rfl) (by go_simp; rfl) (by go_simp) ?_
  exact eqf_last (by rfl) (by go_simp; rfl) (by go_simp; rfl) (by go_simp)
end Go.Proofs.YtgdiodhaihmnbaaDoor.PPrinterMatchesReference
namespace Go.Proofs.YtgdiodhaihmnbaaDoor.PPrinterMatchesReference
open Go.RowKit Go.Proofs.YtgdiodhaihmnbaaDoorW.PrintWords Go.Proofs.YtgdiodhaihmnbaaDoorW.PrintLast Go.Proofs.YtgdiodhaihmnbaaDoorW.PrintMore
set_option linter.unusedVariables false
set_option linter.unusedSimpArgs false
theorem eqA47 (d : Nat) (w : World) (x0 y0 : ByteArray) (x1 y1 : Int) :
    (Op.equalIn (d + 2) 47 (.agg #[.string x0, .int .i64 x1]) (.agg #[.string y0, .int .i64 y1])).run Tryd.prog w = .ok (x0.toList == y0.toList && (x1 == y1)) w := by
  refine eqA_of Tryd.underlying47 (by kernel_rfl) ?_
  refine eqf_cons (by rfl) (by go_simp; rfl) (by go_simp; rfl) (by go_simp) ?_
  exact eqf_last (by rfl) (by go_simp; rfl) (by go_simp; rfl) (by go_simp)
end Go.Proofs.YtgdiodhaihmnbaaDoor.PPrinterMatchesReference
namespace Go.Proofs.YtgdiodhaihmnbaaDoor.Own
open Go.RowKit Go.Proofs.YtgdiodhaihmnbaaDoorW.PrintWords Go.Proofs.YtgdiodhaihmnbaaDoorW.PrintLast Go.Proofs.YtgdiodhaihmnbaaDoorW.PrintMore Go.Proofs.YtgdiodhaihmnbaaDoor.PPrinterMatchesReference
attribute [local go_sem high] eqA42 eqA47
/-- Lists of equal lengths whose elements are equal, pair by pair. -/
def eqBy {α : Type} (f : α → α → Bool) : List α → List α → Bool
  | [], [] => true
  | a :: r, b :: q => f a b && eqBy f r q
  | _, _ => false
theorem eqBy_len {α : Type} (f : α → α → Bool) : ∀ (xs ys : List α), xs.length ≠ ys.length → eqBy f xs ys = false
  | [], [], h => absurd rfl h
  | [], _ :: _, _ => by simp [eqBy]
  | _ :: _, [], _ => by simp [eqBy]
  | x :: xs, y :: ys, h => by
    rw [eqBy, eqBy_len f xs ys (fun e => h (by simp [e]))]; simp
theorem drop_get {α : Type} (z : α) (xs : List α) (k : Nat) (h : k < xs.length) : xs.drop k = xs.getD k z :: xs.drop (k + 1) := by
  rw [List.drop_eq_getElem_cons h]; simp [h]
theorem mem_get {α : Type} (z : α) (xs : List α) (k : Nat) (h : k < xs.length) : xs.getD k z ∈ xs := List.mem_of_mem_drop (by rw [drop_get z xs k h]; exact List.mem_cons_self)
theorem eqBy_step {α : Type} (f : α → α → Bool) (z : α) (xs ys : List α) (k : Nat) (h : k < xs.length) (h' : k < ys.length) : eqBy f (xs.drop k) (ys.drop k) = (f (xs.getD k z) (ys.getD k z) && eqBy f (xs.drop (k + 1)) (ys.drop (k + 1))) := by
  rw [drop_get z xs k h, drop_get z ys k h', eqBy]
def eqSort (a b : S42) : Bool := a.f0.toList == b.f0.toList && (a.f1 == b.f1)
def eqParam (a b : S47) : Bool := a.f0.toList == b.f0.toList && (a.f1 == b.f1)
def eqInt (a b : Int) : Bool := a == b
def eqFld (a b : S45) : Bool := a.f0.toList == b.f0.toList && (a.f2 == b.f2) && eqBy eqInt a.f1 b.f1
def eqPred (a b : S50) : Bool := a.f0.toList == b.f0.toList && eqBy eqParam a.f1 b.f1 && eqN a.f2 b.f2
def eqFact (a b : S52) : Bool := a.f0.toList == b.f0.toList && eqN a.f1 b.f1
theorem int_at {w : World} {A : Option Addr} {n : Nat} {xs : List Int} (h : (Kd.int .i64).C w A n xs) (k : Nat) (hk : k < n) : ∃ ad, A = some ad ∧ w.cell? (ad.add k) = some (.int .i64 (xs.getD k 0)) := by
  obtain ⟨ad, c, e, _, hK, hc0⟩ := Kd.C_get h 0 k (by omega) (by omega)
  refine ⟨ad, e, ?_⟩
  have hc : ∀ j u, c[j]? = some u → w.cell? (ad.add ((k : Int).toNat * 1 + j)) = some u := hc0
  have hcs : c = [.int .i64 (xs.getD (k : Int).toNat 0)] := hK
  have := hc 0 _ (by rw [hcs]; rfl)
  simpa using this
set_option maxHeartbeats 1000000 in
set_option maxRecDepth 100000 in
theorem eqInts_walk (xs ys : List Int) (A B : Option Addr) (c d : Nat) (w : World) (hx : (Kd.int .i64).C w A xs.length xs) (hy : (Kd.int .i64).C w B ys.length ys) : Calls Tryd.prog 25 #[.slice A xs.length c, .slice B ys.length d] w (SaysB w (eqBy eqInt xs ys)) := by
  have hlx := row_len hx
  have hly := row_len hy
  have HX := Aside0.mk hx
  have HY := Aside0.mk hy
  have hu42 := Tryd.underlying42
  have hu47 := Tryd.underlying47
  clear hx hy
  by_cases hl : xs.length = ys.length
  · have hlb : ((xs.length : Int) != (ys.length : Int)) = false := by simp [hl]
    have HL := Aside0.mk hl
    clear hl
    go_enter Tryd.func25, Tryd.ntmps25
    go_wp2_with fail
    go_loopw [13] (fun v wr => ∃ k : Nat, k ≤ xs.length ∧ v = .int .i64 k ∧ Aside0 (eqBy eqInt (xs.drop k) (ys.drop k) = eqBy eqInt xs ys) ∧ Aside0 (Below w.heap.size w wr)) (fun v _ => xs.length - (intOf v).toNat)
    case atStart => exact ⟨0, Nat.zero_le _, rfl, ⟨by simp⟩, ⟨Below.refl _ _⟩⟩
    case round =>
      obtain ⟨k, hk, rfl, HE, HB⟩ := hrel
      by_cases hlt : k < xs.length
      · have hlt2 : (k : Int) < (ys.length : Int) := by have := HL.out; omega
        have hlt3 : k < ys.length := by have := HL.out; omega
        have HST := Aside0.mk (eqBy_step eqInt 0 xs ys k hlt (by have := HL.out; omega))
        obtain ⟨ad, e1, g0⟩ := int_at (Kd.C_below HX.out HB.out) k (by omega)
        cases e1
        obtain ⟨bd, e2, f0⟩ := int_at (Kd.C_below HY.out HB.out) k (by omega)
        cases e2
        obtain ⟨r, HR⟩ : ∃ r, Aside0 (eqInt (xs.getD k 0) (ys.getD k 0) = r) := ⟨_, ⟨rfl⟩⟩
        generalize xs.getD k 0 = u at *
        generalize ys.getD k 0 = v at *
        cases r
        · have hq : (u != v) = true := by have := HR.out; unfold eqInt at this; rw [bne, this]; rfl
          go_wp2_with fail
          go_quiet (fail)
          go_wp2_with fail
          go_ret
          exact ⟨by rw [← HE.out, HST.out, HR.out]; rfl, pw_below_drewN HB.out _⟩
        · have hq : (u != v) = false := by have := HR.out; unfold eqInt at this; rw [bne, this]; rfl
          go_wp2_with fail
          go_quiet (fail)
          go_wp2_with fail
          go_roundw
          case rel => exact ⟨k + 1, by omega, by go_num, ⟨by rw [← HE.out, HST.out, HR.out]; rfl⟩, ⟨pw_below_drewN HB.out _⟩⟩
          case measure => simp [intOf]; omega
      · have HF : Aside0 (eqBy eqInt xs ys = true) := ⟨by rw [← HE.out, List.drop_of_length_le (by omega), List.drop_of_length_le (by have := HL.out; omega)]; rfl⟩
        go_wp2_with fail
        go_ret
        exact ⟨by rw [HF.out]; rfl, HB.out⟩
  · have hlb : ((xs.length : Int) != (ys.length : Int)) = true := by rw [bne_iff_ne]; omega
    rw [eqBy_len _ _ _ hl]
    clear hl
    go_enter Tryd.func25, Tryd.ntmps25
    go_wp2_with fail
    go_ret
    exact ⟨rfl, Below.refl _ _⟩
set_option maxHeartbeats 1000000 in
set_option maxRecDepth 100000 in
theorem eqSorts_walk (xs ys : List S42) (A B : Option Addr) (c d : Nat) (w : World) (hx : k42.C w A xs.length xs) (hy : k42.C w B ys.length ys) : Calls Tryd.prog 29 #[.slice A xs.length c, .slice B ys.length d] w (SaysB w (eqBy eqSort xs ys)) := by
  have hlx := row_len hx
  have hly := row_len hy
  have HX := Aside0.mk hx
  have HY := Aside0.mk hy
  have hu42 := Tryd.underlying42
  have hu47 := Tryd.underlying47
  clear hx hy
  by_cases hl : xs.length = ys.length
  · have hlb : ((xs.length : Int) != (ys.length : Int)) = false := by simp [hl]
    have HL := Aside0.mk hl
    clear hl
    go_enter Tryd.func29, Tryd.ntmps29
    go_wp2_with fail
    go_loopw [13] (fun v wr => ∃ k : Nat, k ≤ xs.length ∧ v = .int .i64 k ∧ Aside0 (eqBy eqSort (xs.drop k) (ys.drop k) = eqBy eqSort xs ys) ∧ Aside0 (Below w.heap.size w wr)) (fun v _ => xs.length - (intOf v).toNat)
    case atStart => exact ⟨0, Nat.zero_le _, rfl, ⟨by simp⟩, ⟨Below.refl _ _⟩⟩
    case round =>
      obtain ⟨k, hk, rfl, HE, HB⟩ := hrel
      by_cases hlt : k < xs.length
      · have hlt2 : (k : Int) < (ys.length : Int) := by have := HL.out; omega
        have hlt3 : k < ys.length := by have := HL.out; omega
        have HST := Aside0.mk (eqBy_step eqSort z42 xs ys k hlt (by have := HL.out; omega))
        obtain ⟨ad, eg, g0, g1⟩ := at_T42 (Kd.C_below HX.out HB.out) k (by omega) (by omega)
        cases eg
        simp only [Int.toNat_natCast] at g0 g1
        change _ = some (Value.string (xs.getD k z42).f0) at g0
        change _ = some (Value.bool (xs.getD k z42).f1) at g1
        obtain ⟨bd, ef, f0, f1⟩ := at_T42 (Kd.C_below HY.out HB.out) k (by omega) (by omega)
        cases ef
        simp only [Int.toNat_natCast] at f0 f1
        change _ = some (Value.string (ys.getD k z42).f0) at f0
        change _ = some (Value.bool (ys.getD k z42).f1) at f1
        obtain ⟨r, HR⟩ : ∃ r, Aside0 (eqSort (xs.getD k z42) (ys.getD k z42) = r) := ⟨_, ⟨rfl⟩⟩
        generalize xs.getD k z42 = u at *
        generalize ys.getD k z42 = v at *
        cases r
        · have hq : (!(u.f0.toList == v.f0.toList && (u.f1 == v.f1))) = true := by have := HR.out; unfold eqSort at this; rw [this]; rfl
          go_wp2_with fail
          go_quiet (fail)
          go_wp2_with fail
          go_ret
          exact ⟨by rw [← HE.out, HST.out, HR.out]; rfl, pw_below_drewN HB.out _⟩
        · have hq : (!(u.f0.toList == v.f0.toList && (u.f1 == v.f1))) = false := by have := HR.out; unfold eqSort at this; rw [this]; rfl
          go_wp2_with fail
          go_quiet (fail)
          go_wp2_with fail
          go_roundw
          case rel => exact ⟨k + 1, by omega, by go_num, ⟨by rw [← HE.out, HST.out, HR.out]; rfl⟩, ⟨pw_below_drewN HB.out _⟩⟩
          case measure => simp [intOf]; omega
      · have HF : Aside0 (eqBy eqSort xs ys = true) := ⟨by rw [← HE.out, List.drop_of_length_le (by omega), List.drop_of_length_le (by have := HL.out; omega)]; rfl⟩
        go_wp2_with fail
        go_ret
        exact ⟨by rw [HF.out]; rfl, HB.out⟩
  · have hlb : ((xs.length : Int) != (ys.length : Int)) = true := by rw [bne_iff_ne]; omega
    rw [eqBy_len _ _ _ hl]
    clear hl
    go_enter Tryd.func29, Tryd.ntmps29
    go_wp2_with fail
    go_ret
    exact ⟨rfl, Below.refl _ _⟩
set_option maxHeartbeats 1000000 in
set_option maxRecDepth 100000 in
theorem eqParams_walk (xs ys : List S47) (A B : Option Addr) (c d : Nat) (w : World) (hx : k47.C w A xs.length xs) (hy : k47.C w B ys.length ys) : Calls Tryd.prog 27 #[.slice A xs.length c, .slice B ys.length d] w (SaysB w (eqBy eqParam xs ys)) := by
  have hlx := row_len hx
  have hly := row_len hy
  have HX := Aside0.mk hx
  have HY := Aside0.mk hy
  have hu42 := Tryd.underlying42
  have hu47 := Tryd.underlying47
  clear hx hy
  by_cases hl : xs.length = ys.length
  · have hlb : ((xs.length : Int) != (ys.length : Int)) = false := by simp [hl]
    have HL := Aside0.mk hl
    clear hl
    go_enter Tryd.func27, Tryd.ntmps27
    go_wp2_with fail
    go_loopw [13] (fun v wr => ∃ k : Nat, k ≤ xs.length ∧ v = .int .i64 k ∧ Aside0 (eqBy eqParam (xs.drop k) (ys.drop k) = eqBy eqParam xs ys) ∧ Aside0 (Below w.heap.size w wr)) (fun v _ => xs.length - (intOf v).toNat)
    case atStart => exact ⟨0, Nat.zero_le _, rfl, ⟨by simp⟩, ⟨Below.refl _ _⟩⟩
    case round =>
      obtain ⟨k, hk, rfl, HE, HB⟩ := hrel
      by_cases hlt : k < xs.length
      · have hlt2 : (k : Int) < (ys.length : Int) := by have := HL.out; omega
        have hlt3 : k < ys.length := by have := HL.out; omega
        have HST := Aside0.mk (eqBy_step eqParam z47 xs ys k hlt (by have := HL.out; omega))
        obtain ⟨ad, eg, g0, g1⟩ := at_T47 (Kd.C_below HX.out HB.out) k (by omega) (by omega)
        cases eg
        simp only [Int.toNat_natCast] at g0 g1
        change _ = some (Value.string (xs.getD k z47).f0) at g0
        change _ = some (Value.int .i64 (xs.getD k z47).f1) at g1
        obtain ⟨bd, ef, f0, f1⟩ := at_T47 (Kd.C_below HY.out HB.out) k (by omega) (by omega)
        cases ef
        simp only [Int.toNat_natCast] at f0 f1
        change _ = some (Value.string (ys.getD k z47).f0) at f0
        change _ = some (Value.int .i64 (ys.getD k z47).f1) at f1
        obtain ⟨r, HR⟩ : ∃ r, Aside0 (eqParam (xs.getD k z47) (ys.getD k z47) = r) := ⟨_, ⟨rfl⟩⟩
        generalize xs.getD k z47 = u at *
        generalize ys.getD k z47 = v at *
        cases r
        · have hq : (!(u.f0.toList == v.f0.toList && (u.f1 == v.f1))) = true := by have := HR.out; unfold eqParam at this; rw [this]; rfl
          go_wp2_with fail
          go_quiet (fail)
          go_wp2_with fail
          go_ret
          exact ⟨by rw [← HE.out, HST.out, HR.out]; rfl, pw_below_drewN HB.out _⟩
        · have hq : (!(u.f0.toList == v.f0.toList && (u.f1 == v.f1))) = false := by have := HR.out; unfold eqParam at this; rw [this]; rfl
          go_wp2_with fail
          go_quiet (fail)
          go_wp2_with fail
          go_roundw
          case rel => exact ⟨k + 1, by omega, by go_num, ⟨by rw [← HE.out, HST.out, HR.out]; rfl⟩, ⟨pw_below_drewN HB.out _⟩⟩
          case measure => simp [intOf]; omega
      · have HF : Aside0 (eqBy eqParam xs ys = true) := ⟨by rw [← HE.out, List.drop_of_length_le (by omega), List.drop_of_length_le (by have := HL.out; omega)]; rfl⟩
        go_wp2_with fail
        go_ret
        exact ⟨by rw [HF.out]; rfl, HB.out⟩
  · have hlb : ((xs.length : Int) != (ys.length : Int)) = true := by rw [bne_iff_ne]; omega
    rw [eqBy_len _ _ _ hl]
    clear hl
    go_enter Tryd.func27, Tryd.ntmps27
    go_wp2_with fail
    go_ret
    exact ⟨rfl, Below.refl _ _⟩
set_option maxHeartbeats 1000000 in
set_option maxRecDepth 100000 in
theorem eqFlds_walk (xs ys : List S45) (ih : ∀ (x y : S45) (w : World) (cx cy : List Value), k45.K w x cx → k45.K w y cy → Calls Tryd.prog 24 #[.agg cx.toArray, .agg cy.toArray] w (SaysB w (eqFld x y)))
    (A B : Option Addr) (c d : Nat) (w : World) (hx : k45.C w A xs.length xs) (hy : k45.C w B ys.length ys) :
   Calls Tryd.prog 30 #[.slice A xs.length c, .slice B ys.length d, .func (.func 24) #[] #[]] w (SaysB w (eqBy eqFld xs ys)) := by
  have hlx := row_len hx
  have hly := row_len hy
  have hu24 := Tryd.underlying24
  have hu45 := Tryd.underlying45
  have HX := Aside0.mk hx
  have HY := Aside0.mk hy
  have IH := Aside0.mk ih
  clear hx hy ih
  by_cases hl : xs.length = ys.length
  · have hlb : ((xs.length : Int) != (ys.length : Int)) = false := by simp [hl]
    have HL := Aside0.mk hl
    clear hl
    go_enter Tryd.func30, Tryd.ntmps30
    go_wp2_with fail
    go_loopw [17] (fun v wr => ∃ k : Nat, k ≤ xs.length ∧ v = .int .i64 k ∧ Aside0 (eqBy eqFld (xs.drop k) (ys.drop k) = eqBy eqFld xs ys) ∧ Aside0 (Below w.heap.size w wr)) (fun v _ => xs.length - (intOf v).toNat)
    case atStart => exact ⟨0, Nat.zero_le _, rfl, ⟨by simp⟩, ⟨Below.refl _ _⟩⟩
    case round =>
      obtain ⟨k, hk, rfl, HE, HB⟩ := hrel
      by_cases hlt : k < xs.length
      · have hlt2 : (k : Int) < (ys.length : Int) := by have := HL.out; omega
        have HST := Aside0.mk (eqBy_step eqFld z45 xs ys k hlt (by have := HL.out; omega))
        obtain ⟨ad, xA1, xc1, e1, g0, g1, g2, p0, p1⟩ := at_T45 (Kd.C_below HX.out HB.out) k (by omega) (by omega)
        cases e1
        simp only [Int.toNat_natCast] at g0 g1 g2
        obtain ⟨bd, yA1, yc1, e2, f0, f1, f2, q0, q1⟩ := at_T45 (Kd.C_below HY.out HB.out) k (by omega) (by omega)
        cases e2
        simp only [Int.toNat_natCast] at f0 f1 f2
        have KX : Aside0 (k45.K wr (rd_T45 xs k) [.string (rd_T45 xs k).f0, .slice xA1 (rd_T45 xs k).f1.length xc1, .bool (rd_T45 xs k).f2]) := ⟨k45_mk wr _ p0 p1⟩
        have KY : Aside0 (k45.K wr (rd_T45 ys k) [.string (rd_T45 ys k).f0, .slice yA1 (rd_T45 ys k).f1.length yc1, .bool (rd_T45 ys k).f2]) := ⟨k45_mk wr _ q0 q1⟩
        clear p0 p1 q0 q1
        replace f0 := cell_new f0
        replace f1 := cell_new f1
        replace f2 := cell_new f2
        obtain ⟨r, HR⟩ : ∃ r, Aside0 (eqFld (rd_T45 xs k) (rd_T45 ys k) = r) := ⟨_, ⟨rfl⟩⟩
        have HST2 : Aside0 (eqBy eqFld (xs.drop k) (ys.drop k) = (r && eqBy eqFld (xs.drop (k + 1)) (ys.drop (k + 1)))) := ⟨by rw [← HR.out]; exact HST.out⟩
        go_wp2_with fail
        refine (IH.out _ (rd_T45 ys k) _ _ _ (k45.K_below ?b1 KX.out) (k45.K_below ?b2 KY.out)).mono ?_
        case b1 => repeat (first | exact Below.refl _ _ | apply below_alloc)
        case b2 => repeat (first | exact Below.refl _ _ | apply below_alloc)
        rintro e w1 ⟨rfl, hb1⟩
        have HB1 : Aside0 (Below w.heap.size w w1) := ⟨below_step (by repeat (first | exact HB.out | apply below_alloc)) hb1⟩
        clear hb1
        rw [HR.out]
        cases r
        · go_wp2
          go_ret
          exact ⟨by rw [← HE.out, HST2.out]; rfl, HB1.out⟩
        · go_wp2
          go_roundw
          case rel => exact ⟨k + 1, by omega, by go_num, ⟨by rw [← HE.out, HST2.out]; rfl⟩, HB1⟩
          case measure => simp [intOf]; omega
      · have HE2 : Aside0 (eqBy eqFld xs ys = true) := ⟨by rw [← HE.out, List.drop_of_length_le (by omega), List.drop_of_length_le (by have := HL.out; omega)]; rfl⟩
        go_wp2
        go_ret
        exact ⟨by rw [HE2.out]; rfl, HB.out⟩
  · have hlb : ((xs.length : Int) != (ys.length : Int)) = true := by rw [bne_iff_ne]; omega
    rw [eqBy_len _ _ _ hl]
    clear hl
    go_enter Tryd.func30, Tryd.ntmps30
    go_wp2_with fail
    go_ret
    exact ⟨rfl, Below.refl _ _⟩
set_option maxHeartbeats 1000000 in
set_option maxRecDepth 100000 in
theorem eqPreds_walk (xs ys : List S50) (ih : ∀ (x y : S50) (w : World) (cx cy : List Value), k50.K w x cx → k50.K w y cy → Calls Tryd.prog 26 #[.agg cx.toArray, .agg cy.toArray] w (SaysB w (eqPred x y)))
    (A B : Option Addr) (c d : Nat) (w : World) (hx : k50.C w A xs.length xs) (hy : k50.C w B ys.length ys) :
   Calls Tryd.prog 31 #[.slice A xs.length c, .slice B ys.length d, .func (.func 26) #[] #[]] w (SaysB w (eqBy eqPred xs ys)) := by
  have hlx := row_len hx
  have hly := row_len hy
  have hu24 := Tryd.underlying24
  have hu50 := Tryd.underlying50
  have HX := Aside0.mk hx
  have HY := Aside0.mk hy
  have IH := Aside0.mk ih
  clear hx hy ih
  by_cases hl : xs.length = ys.length
  · have hlb : ((xs.length : Int) != (ys.length : Int)) = false := by simp [hl]
    have HL := Aside0.mk hl
    clear hl
    go_enter Tryd.func31, Tryd.ntmps31
    go_wp2_with fail
    go_loopw [17] (fun v wr => ∃ k : Nat, k ≤ xs.length ∧ v = .int .i64 k ∧ Aside0 (eqBy eqPred (xs.drop k) (ys.drop k) = eqBy eqPred xs ys) ∧ Aside0 (Below w.heap.size w wr)) (fun v _ => xs.length - (intOf v).toNat)
    case atStart => exact ⟨0, Nat.zero_le _, rfl, ⟨by simp⟩, ⟨Below.refl _ _⟩⟩
    case round =>
      obtain ⟨k, hk, rfl, HE, HB⟩ := hrel
      by_cases hlt : k < xs.length
      · have hlt2 : (k : Int) < (ys.length : Int) := by have := HL.out; omega
        have HST := Aside0.mk (eqBy_step eqPred z50 xs ys k hlt (by have := HL.out; omega))
        obtain ⟨ad, xA1, xc1, xA5, xc5, e1, g0, g1, g2, g3, g4, g5, g6, p0, p1, p2, p3⟩ := at_T50 (Kd.C_below HX.out HB.out) k (by omega) (by omega)
        cases e1
        simp only [Int.toNat_natCast] at g0 g1 g2 g3 g4 g5 g6
        obtain ⟨bd, yA1, yc1, yA5, yc5, e2, f0, f1, f2, f3, f4, f5, f6, q0, q1, q2, q3⟩ := at_T50 (Kd.C_below HY.out HB.out) k (by omega) (by omega)
        cases e2
        simp only [Int.toNat_natCast] at f0 f1 f2 f3 f4 f5 f6
        have KX : Aside0 (k50.K wr (rd_T50 xs k) [.string (rd_T50 xs k).f0, .slice xA1 (rd_T50 xs k).f1.length xc1, .int .i64 (rd_T50 xs k).f2.f0, .string (rd_T50 xs k).f2.f1, .int .i64 (rd_T50 xs k).f2.f2, .slice xA5 (rd_T50 xs k).f2.f3.length xc5, .int .i64 (rd_T50 xs k).f2.f4]) := ⟨k50_mk wr _ p0 p1 p2 p3⟩
        have KY : Aside0 (k50.K wr (rd_T50 ys k) [.string (rd_T50 ys k).f0, .slice yA1 (rd_T50 ys k).f1.length yc1, .int .i64 (rd_T50 ys k).f2.f0, .string (rd_T50 ys k).f2.f1, .int .i64 (rd_T50 ys k).f2.f2, .slice yA5 (rd_T50 ys k).f2.f3.length yc5, .int .i64 (rd_T50 ys k).f2.f4]) := ⟨k50_mk wr _ q0 q1 q2 q3⟩
        clear p0 p1 p2 p3 q0 q1 q2 q3
        replace f0 := cell_new f0
        replace f1 := cell_new f1
        replace f2 := cell_new f2
        replace f3 := cell_new f3
        replace f4 := cell_new f4
        replace f5 := cell_new f5
        replace f6 := cell_new f6
        obtain ⟨r, HR⟩ : ∃ r, Aside0 (eqPred (rd_T50 xs k) (rd_T50 ys k) = r) := ⟨_, ⟨rfl⟩⟩
        have HST2 : Aside0 (eqBy eqPred (xs.drop k) (ys.drop k) = (r && eqBy eqPred (xs.drop (k + 1)) (ys.drop (k + 1)))) := ⟨by rw [← HR.out]; exact HST.out⟩
        go_wp2_with fail
        refine (IH.out _ (rd_T50 ys k) _ _ _ (k50.K_below ?b1 KX.out) (k50.K_below ?b2 KY.out)).mono ?_
        case b1 => repeat (first | exact Below.refl _ _ | apply below_alloc)
        case b2 => repeat (first | exact Below.refl _ _ | apply below_alloc)
        rintro e w1 ⟨rfl, hb1⟩
        have HB1 : Aside0 (Below w.heap.size w w1) := ⟨below_step (by repeat (first | exact HB.out | apply below_alloc)) hb1⟩
        clear hb1
        rw [HR.out]
        cases r
        · go_wp2
          go_ret
          exact ⟨by rw [← HE.out, HST2.out]; rfl, HB1.out⟩
        · go_wp2
          go_roundw
          case rel => exact ⟨k + 1, by omega, by go_num, ⟨by rw [← HE.out, HST2.out]; rfl⟩, HB1⟩
          case measure => simp [intOf]; omega
      · have HE2 : Aside0 (eqBy eqPred xs ys = true) := ⟨by rw [← HE.out, List.drop_of_length_le (by omega), List.drop_of_length_le (by have := HL.out; omega)]; rfl⟩
        go_wp2
        go_ret
        exact ⟨by rw [HE2.out]; rfl, HB.out⟩
  · have hlb : ((xs.length : Int) != (ys.length : Int)) = true := by rw [bne_iff_ne]; omega
    rw [eqBy_len _ _ _ hl]
    clear hl
    go_enter Tryd.func31, Tryd.ntmps31
    go_wp2_with fail
    go_ret
    exact ⟨rfl, Below.refl _ _⟩
set_option maxHeartbeats 1000000 in
set_option maxRecDepth 100000 in
theorem eqFacts_walk (xs ys : List S52) (ih : ∀ (x y : S52) (w : World) (cx cy : List Value), k52.K w x cx → k52.K w y cy → Calls Tryd.prog 28 #[.agg cx.toArray, .agg cy.toArray] w (SaysB w (eqFact x y)))
    (A B : Option Addr) (c d : Nat) (w : World) (hx : k52.C w A xs.length xs) (hy : k52.C w B ys.length ys) :
   Calls Tryd.prog 32 #[.slice A xs.length c, .slice B ys.length d, .func (.func 28) #[] #[]] w (SaysB w (eqBy eqFact xs ys)) := by
  have hlx := row_len hx
  have hly := row_len hy
  have hu24 := Tryd.underlying24
  have hu52 := Tryd.underlying52
  have HX := Aside0.mk hx
  have HY := Aside0.mk hy
  have IH := Aside0.mk ih
  clear hx hy ih
  by_cases hl : xs.length = ys.length
  · have hlb : ((xs.length : Int) != (ys.length : Int)) = false := by simp [hl]
    have HL := Aside0.mk hl
    clear hl
    go_enter Tryd.func32, Tryd.ntmps32
    go_wp2_with fail
    go_loopw [17] (fun v wr => ∃ k : Nat, k ≤ xs.length ∧ v = .int .i64 k ∧ Aside0 (eqBy eqFact (xs.drop k) (ys.drop k) = eqBy eqFact xs ys) ∧ Aside0 (Below w.heap.size w wr)) (fun v _ => xs.length - (intOf v).toNat)
    case atStart => exact ⟨0, Nat.zero_le _, rfl, ⟨by simp⟩, ⟨Below.refl _ _⟩⟩
    case round =>
      obtain ⟨k, hk, rfl, HE, HB⟩ := hrel
      by_cases hlt : k < xs.length
      · have hlt2 : (k : Int) < (ys.length : Int) := by have := HL.out; omega
        have HST := Aside0.mk (eqBy_step eqFact z52 xs ys k hlt (by have := HL.out; omega))
        obtain ⟨ad, xA4, xc4, e1, g0, g1, g2, g3, g4, g5, p0, p1⟩ := at_T52 (Kd.C_below HX.out HB.out) k (by omega) (by omega)
        cases e1
        simp only [Int.toNat_natCast] at g0 g1 g2 g3 g4 g5
        obtain ⟨bd, yA4, yc4, e2, f0, f1, f2, f3, f4, f5, q0, q1⟩ := at_T52 (Kd.C_below HY.out HB.out) k (by omega) (by omega)
        cases e2
        simp only [Int.toNat_natCast] at f0 f1 f2 f3 f4 f5
        have KX : Aside0 (k52.K wr (rd_T52 xs k) [.string (rd_T52 xs k).f0, .int .i64 (rd_T52 xs k).f1.f0, .string (rd_T52 xs k).f1.f1, .int .i64 (rd_T52 xs k).f1.f2, .slice xA4 (rd_T52 xs k).f1.f3.length xc4, .int .i64 (rd_T52 xs k).f1.f4]) := ⟨k52_mk wr _ p0 p1⟩
        have KY : Aside0 (k52.K wr (rd_T52 ys k) [.string (rd_T52 ys k).f0, .int .i64 (rd_T52 ys k).f1.f0, .string (rd_T52 ys k).f1.f1, .int .i64 (rd_T52 ys k).f1.f2, .slice yA4 (rd_T52 ys k).f1.f3.length yc4, .int .i64 (rd_T52 ys k).f1.f4]) := ⟨k52_mk wr _ q0 q1⟩
        clear p0 p1 q0 q1
        replace f0 := cell_new f0
        replace f1 := cell_new f1
        replace f2 := cell_new f2
        replace f3 := cell_new f3
        replace f4 := cell_new f4
        replace f5 := cell_new f5
        obtain ⟨r, HR⟩ : ∃ r, Aside0 (eqFact (rd_T52 xs k) (rd_T52 ys k) = r) := ⟨_, ⟨rfl⟩⟩
        have HST2 : Aside0 (eqBy eqFact (xs.drop k) (ys.drop k) = (r && eqBy eqFact (xs.drop (k + 1)) (ys.drop (k + 1)))) := ⟨by rw [← HR.out]; exact HST.out⟩
        go_wp2_with fail
        refine (IH.out _ (rd_T52 ys k) _ _ _ (k52.K_below ?b1 KX.out) (k52.K_below ?b2 KY.out)).mono ?_
        case b1 => repeat (first | exact Below.refl _ _ | apply below_alloc)
        case b2 => repeat (first | exact Below.refl _ _ | apply below_alloc)
        rintro e w1 ⟨rfl, hb1⟩
        have HB1 : Aside0 (Below w.heap.size w w1) := ⟨below_step (by repeat (first | exact HB.out | apply below_alloc)) hb1⟩
        clear hb1
        rw [HR.out]
        cases r
        · go_wp2
          go_ret
          exact ⟨by rw [← HE.out, HST2.out]; rfl, HB1.out⟩
        · go_wp2
          go_roundw
          case rel => exact ⟨k + 1, by omega, by go_num, ⟨by rw [← HE.out, HST2.out]; rfl⟩, HB1⟩
          case measure => simp [intOf]; omega
      · have HE2 : Aside0 (eqBy eqFact xs ys = true) := ⟨by rw [← HE.out, List.drop_of_length_le (by omega), List.drop_of_length_le (by have := HL.out; omega)]; rfl⟩
        go_wp2
        go_ret
        exact ⟨by rw [HE2.out]; rfl, HB.out⟩
  · have hlb : ((xs.length : Int) != (ys.length : Int)) = true := by rw [bne_iff_ne]; omega
    rw [eqBy_len _ _ _ hl]
    clear hl
    go_enter Tryd.func32, Tryd.ntmps32
    go_wp2_with fail
    go_ret
    exact ⟨rfl, Below.refl _ _⟩
end Go.Proofs.YtgdiodhaihmnbaaDoor.Own
namespace Go.Proofs.YtgdiodhaihmnbaaDoor.Own
open Go.RowKit Go.Proofs.YtgdiodhaihmnbaaDoorW.PrintWords Go.Proofs.YtgdiodhaihmnbaaDoorW.PrintLast Go.Proofs.YtgdiodhaihmnbaaDoorW.PrintMore Go.Proofs.YtgdiodhaihmnbaaDoor.PPrinterMatchesReference
set_option maxHeartbeats 1000000 in
set_option maxRecDepth 100000 in
theorem eqFact_walk (x y : S52) (w : World) (cx cy : List Value) (hx : k52.K w x cx) (hy : k52.K w y cy) : Calls Tryd.prog 28 #[.agg cx.toArray, .agg cy.toArray] w (SaysB w (eqFact x y)) := by
  obtain ⟨xA4, xc4, rfl, xl4, xg4⟩ := k52_open hx
  obtain ⟨yA4, yc4, rfl, yl4, yg4⟩ := k52_open hy
  have hu24 := Tryd.underlying24
  have hu52 := Tryd.underlying52
  have Hxg4 := Aside0.mk xg4
  have Hyg4 := Aside0.mk yg4
  have HLX := Aside0.mk xl4
  have HLY := Aside0.mk yl4
  clear hx hy xl4 xg4 yl4 yg4
  obtain ⟨r, HR⟩ : ∃ r, Aside0 (eqN x.f1 y.f1 = r) := ⟨_, ⟨rfl⟩⟩
  by_cases h0 : x.f0.toList = y.f0.toList
  · have h0b : (x.f0.toList == y.f0.toList) = true := by simp [h0]
    have hd : eqFact x y = r := by unfold eqFact; rw [h0b, HR.out]; rfl
    rw [hd]
    clear hd
    go_enter Tryd.func28, Tryd.ntmps28
    go_wp2_with (first | ((with_reducible refine gate_dst (N := 2) rfl ?_); refine box_event rfl (N := 2) rfl (cs := #[.string x.f0, .int .i64 x.f1.f0, .string x.f1.f1, .int .i64 x.f1.f2, .slice xA4 x.f1.f3.length xc4, .int .i64 x.f1.f4]) (t := 52) (by first | (go_simp; done) | (go_simp; rfl)) ?_; intro gx hgx w1 hbx hb1; have HGX := Aside0.mk hgx; have HB1 := Aside0.mk hb1; clear hgx hb1) | ((with_reducible refine gate_dst (N := 3) rfl ?_); refine box_event rfl (N := 3) rfl (cs := #[.string y.f0, .int .i64 y.f1.f0, .string y.f1.f1, .int .i64 y.f1.f2, .slice yA4 y.f1.f3.length yc4, .int .i64 y.f1.f4]) (t := 52) (by first | (go_simp; done) | (go_simp; rfl)) ?_; intro gy hgy w2 hby hb2; have HBX := Aside0.mk (blk_below hbx hb2); have HBY := Aside0.mk hby; have HB2 := Aside0.mk (below_step HB1.out hb2); clear hgy hb2 hbx hby; have zx0 := blk_cell HBX.out 0; have zy0 := blk_cell HBY.out 0; have zx1 := blk_cell HBX.out 1; have zy1 := blk_cell HBY.out 1; have zx2 := blk_cell HBX.out 2; have zy2 := blk_cell HBY.out 2; have zx3 := blk_cell HBX.out 3; have zy3 := blk_cell HBY.out 3; have zx4 := blk_cell HBX.out 4; have zy4 := blk_cell HBY.out 4; have zx5 := blk_cell HBX.out 5; have zy5 := blk_cell HBY.out 5))
    refine (eqN_walk _ x.f1 y.f1 w2 _ _ (Nat.lt_succ_self _) (k24_mk w2 x.f1 ?l1 (Kd.C_below Hxg4.out HB2.out)) (k24_mk w2 y.f1 ?l2 (Kd.C_below Hyg4.out HB2.out))).mono ?_
    case l1 => exact HLX.out
    case l2 => exact HLY.out
    rintro e w3 ⟨rfl, hb3⟩
    rw [HR.out]
    have HB3 := Aside0.mk (below_step HB2.out hb3)
    clear hb3
    go_wp2_with fail
    go_ret
    exact ⟨rfl, HB3.out⟩
  · have h0b : (x.f0.toList == y.f0.toList) = false := by simp [h0]
    have hd : eqFact x y = false := by unfold eqFact; rw [h0b]; rfl
    rw [hd]
    clear hd h0
    go_enter Tryd.func28, Tryd.ntmps28
    go_wp2_with (first | ((with_reducible refine gate_dst (N := 2) rfl ?_); refine box_event rfl (N := 2) rfl (cs := #[.string x.f0, .int .i64 x.f1.f0, .string x.f1.f1, .int .i64 x.f1.f2, .slice xA4 x.f1.f3.length xc4, .int .i64 x.f1.f4]) (t := 52) (by first | (go_simp; done) | (go_simp; rfl)) ?_; intro gx hgx w1 hbx hb1; have HGX := Aside0.mk hgx; have HB1 := Aside0.mk hb1; clear hgx hb1) | ((with_reducible refine gate_dst (N := 3) rfl ?_); refine box_event rfl (N := 3) rfl (cs := #[.string y.f0, .int .i64 y.f1.f0, .string y.f1.f1, .int .i64 y.f1.f2, .slice yA4 y.f1.f3.length yc4, .int .i64 y.f1.f4]) (t := 52) (by first | (go_simp; done) | (go_simp; rfl)) ?_; intro gy hgy w2 hby hb2; have HBX := Aside0.mk (blk_below hbx hb2); have HBY := Aside0.mk hby; have HB2 := Aside0.mk (below_step HB1.out hb2); clear hgy hb2 hbx hby; have zx0 := blk_cell HBX.out 0; have zy0 := blk_cell HBY.out 0; have zx1 := blk_cell HBX.out 1; have zy1 := blk_cell HBY.out 1; have zx2 := blk_cell HBX.out 2; have zy2 := blk_cell HBY.out 2; have zx3 := blk_cell HBX.out 3; have zy3 := blk_cell HBY.out 3; have zx4 := blk_cell HBX.out 4; have zy4 := blk_cell HBY.out 4; have zx5 := blk_cell HBX.out 5; have zy5 := blk_cell HBY.out 5))
    go_ret
    exact ⟨rfl, HB2.out⟩
set_option maxHeartbeats 1000000 in
set_option maxRecDepth 100000 in
theorem eqFld_walk (x y : S45) (w : World) (cx cy : List Value) (hx : k45.K w x cx) (hy : k45.K w y cy) : Calls Tryd.prog 24 #[.agg cx.toArray, .agg cy.toArray] w (SaysB w (eqFld x y)) := by
  obtain ⟨xA1, xc1, rfl, xl1, xg1⟩ := k45_open hx
  obtain ⟨yA1, yc1, rfl, yl1, yg1⟩ := k45_open hy
  have hu24 := Tryd.underlying24
  have hu45 := Tryd.underlying45
  have Hxg1 := Aside0.mk xg1
  have Hyg1 := Aside0.mk yg1
  clear hx hy xl1 xg1 yl1 yg1
  obtain ⟨r, HR⟩ : ∃ r, Aside0 (eqBy eqInt x.f1 y.f1 = r) := ⟨_, ⟨rfl⟩⟩
  by_cases h0 : x.f0.toList = y.f0.toList
  · have h0b : (x.f0.toList == y.f0.toList) = true := by simp [h0]
    obtain ⟨q, HQ⟩ : ∃ q, (x.f2 == y.f2) = q := ⟨_, rfl⟩
    cases q
    · have hd : eqFld x y = false := by unfold eqFld; rw [h0b, HQ]; rfl
      rw [hd]
      clear hd
      go_enter Tryd.func24, Tryd.ntmps24
      go_wp2_with (first | ((with_reducible refine gate_dst (N := 2) rfl ?_); refine box_event rfl (N := 2) rfl (cs := #[.string x.f0, .slice xA1 x.f1.length xc1, .bool x.f2]) (t := 45) (by first | (go_simp; done) | (go_simp; rfl)) ?_; intro gx hgx w1 hbx hb1; have HGX := Aside0.mk hgx; have HB1 := Aside0.mk hb1; clear hgx hb1) | ((with_reducible refine gate_dst (N := 3) rfl ?_); refine box_event rfl (N := 3) rfl (cs := #[.string y.f0, .slice yA1 y.f1.length yc1, .bool y.f2]) (t := 45) (by first | (go_simp; done) | (go_simp; rfl)) ?_; intro gy hgy w2 hby hb2; have HBX := Aside0.mk (blk_below hbx hb2); have HBY := Aside0.mk hby; have HB2 := Aside0.mk (below_step HB1.out hb2); clear hgy hb2 hbx hby; have zx0 := blk_cell HBX.out 0; have zy0 := blk_cell HBY.out 0; have zx1 := blk_cell HBX.out 1; have zy1 := blk_cell HBY.out 1; have zx2 := blk_cell HBX.out 2; have zy2 := blk_cell HBY.out 2))
      go_ret
      exact ⟨rfl, HB2.out⟩
    · have hd : eqFld x y = r := by unfold eqFld; rw [h0b, HQ, HR.out]; rfl
      rw [hd]
      clear hd
      go_enter Tryd.func24, Tryd.ntmps24
      go_wp2_with (first | ((with_reducible refine gate_dst (N := 2) rfl ?_); refine box_event rfl (N := 2) rfl (cs := #[.string x.f0, .slice xA1 x.f1.length xc1, .bool x.f2]) (t := 45) (by first | (go_simp; done) | (go_simp; rfl)) ?_; intro gx hgx w1 hbx hb1; have HGX := Aside0.mk hgx; have HB1 := Aside0.mk hb1; clear hgx hb1) | ((with_reducible refine gate_dst (N := 3) rfl ?_); refine box_event rfl (N := 3) rfl (cs := #[.string y.f0, .slice yA1 y.f1.length yc1, .bool y.f2]) (t := 45) (by first | (go_simp; done) | (go_simp; rfl)) ?_; intro gy hgy w2 hby hb2; have HBX := Aside0.mk (blk_below hbx hb2); have HBY := Aside0.mk hby; have HB2 := Aside0.mk (below_step HB1.out hb2); clear hgy hb2 hbx hby; have zx0 := blk_cell HBX.out 0; have zy0 := blk_cell HBY.out 0; have zx1 := blk_cell HBX.out 1; have zy1 := blk_cell HBY.out 1; have zx2 := blk_cell HBX.out 2; have zy2 := blk_cell HBY.out 2))
      refine (eqInts_walk x.f1 y.f1 xA1 yA1 xc1 yc1 w2 (Kd.C_below Hxg1.out HB2.out) (Kd.C_below Hyg1.out HB2.out)).mono ?_
      rintro e w3 ⟨rfl, hb3⟩
      rw [HR.out]
      have HB3 := Aside0.mk (below_step HB2.out hb3)
      clear hb3
      go_wp2_with fail
      go_ret
      exact ⟨rfl, HB3.out⟩
  · have h0b : (x.f0.toList == y.f0.toList) = false := by simp [h0]
    have hd : eqFld x y = false := by unfold eqFld; rw [h0b]; rfl
    rw [hd]
    clear hd h0
    go_enter Tryd.func24, Tryd.ntmps24
    go_wp2_with (first | ((with_reducible refine gate_dst (N := 2) rfl ?_); refine box_event rfl (N := 2) rfl (cs := #[.string x.f0, .slice xA1 x.f1.length xc1, .bool x.f2]) (t := 45) (by first | (go_simp; done) | (go_simp; rfl)) ?_; intro gx hgx w1 hbx hb1; have HGX := Aside0.mk hgx; have HB1 := Aside0.mk hb1; clear hgx hb1) | ((with_reducible refine gate_dst (N := 3) rfl ?_); refine box_event rfl (N := 3) rfl (cs := #[.string y.f0, .slice yA1 y.f1.length yc1, .bool y.f2]) (t := 45) (by first | (go_simp; done) | (go_simp; rfl)) ?_; intro gy hgy w2 hby hb2; have HBX := Aside0.mk (blk_below hbx hb2); have HBY := Aside0.mk hby; have HB2 := Aside0.mk (below_step HB1.out hb2); clear hgy hb2 hbx hby; have zx0 := blk_cell HBX.out 0; have zy0 := blk_cell HBY.out 0; have zx1 := blk_cell HBX.out 1; have zy1 := blk_cell HBY.out 1; have zx2 := blk_cell HBX.out 2; have zy2 := blk_cell HBY.out 2))
    go_ret
    exact ⟨rfl, HB2.out⟩
set_option maxHeartbeats 1000000 in
set_option maxRecDepth 100000 in
theorem eqPred_walk (x y : S50) (w : World) (cx cy : List Value) (hx : k50.K w x cx) (hy : k50.K w y cy) : Calls Tryd.prog 26 #[.agg cx.toArray, .agg cy.toArray] w (SaysB w (eqPred x y)) := by
  obtain ⟨xA1, xc1, xA5, xc5, rfl, xl1, xg1, xl5, xg5⟩ := k50_open hx
  obtain ⟨yA1, yc1, yA5, yc5, rfl, yl1, yg1, yl5, yg5⟩ := k50_open hy
  have hu24 := Tryd.underlying24
  have hu50 := Tryd.underlying50
  have Hxg1 := Aside0.mk xg1
  have Hxg5 := Aside0.mk xg5
  have Hyg1 := Aside0.mk yg1
  have Hyg5 := Aside0.mk yg5
  have HLX := Aside0.mk xl5
  have HLY := Aside0.mk yl5
  clear hx hy xl1 xg1 xl5 xg5 yl1 yg1 yl5 yg5
  obtain ⟨r, HR⟩ : ∃ r, Aside0 (eqN x.f2 y.f2 = r) := ⟨_, ⟨rfl⟩⟩
  obtain ⟨q, HQ⟩ : ∃ q, Aside0 (eqBy eqParam x.f1 y.f1 = q) := ⟨_, ⟨rfl⟩⟩
  by_cases h0 : x.f0.toList = y.f0.toList
  · have h0b : (x.f0.toList == y.f0.toList) = true := by simp [h0]
    cases q
    · have hd : eqPred x y = false := by unfold eqPred; rw [h0b, HQ.out]; rfl
      rw [hd]
      clear hd
      go_enter Tryd.func26, Tryd.ntmps26
      go_wp2_with (first | ((with_reducible refine gate_dst (N := 2) rfl ?_); refine box_event rfl (N := 2) rfl (cs := #[.string x.f0, .slice xA1 x.f1.length xc1, .int .i64 x.f2.f0, .string x.f2.f1, .int .i64 x.f2.f2, .slice xA5 x.f2.f3.length xc5, .int .i64 x.f2.f4]) (t := 50) (by first | (go_simp; done) | (go_simp; rfl)) ?_; intro gx hgx w1 hbx hb1; have HGX := Aside0.mk hgx; have HB1 := Aside0.mk hb1; clear hgx hb1) | ((with_reducible refine gate_dst (N := 3) rfl ?_); refine box_event rfl (N := 3) rfl (cs := #[.string y.f0, .slice yA1 y.f1.length yc1, .int .i64 y.f2.f0, .string y.f2.f1, .int .i64 y.f2.f2, .slice yA5 y.f2.f3.length yc5, .int .i64 y.f2.f4]) (t := 50) (by first | (go_simp; done) | (go_simp; rfl)) ?_; intro gy hgy w2 hby hb2; have HBX := Aside0.mk (blk_below hbx hb2); have HBY := Aside0.mk hby; have HB2 := Aside0.mk (below_step HB1.out hb2); clear hgy hb2 hbx hby; have zx0 := blk_cell HBX.out 0; have zy0 := blk_cell HBY.out 0; have zx1 := blk_cell HBX.out 1; have zy1 := blk_cell HBY.out 1; have zx2 := blk_cell HBX.out 2; have zy2 := blk_cell HBY.out 2; have zx3 := blk_cell HBX.out 3; have zy3 := blk_cell HBY.out 3; have zx4 := blk_cell HBX.out 4; have zy4 := blk_cell HBY.out 4; have zx5 := blk_cell HBX.out 5; have zy5 := blk_cell HBY.out 5; have zx6 := blk_cell HBX.out 6; have zy6 := blk_cell HBY.out 6))
      refine (eqParams_walk x.f1 y.f1 xA1 yA1 xc1 yc1 w2 (Kd.C_below Hxg1.out HB2.out) (Kd.C_below Hyg1.out HB2.out)).mono ?_
      rintro e w3 ⟨rfl, hb3⟩
      rw [HQ.out]
      have hbx3 := blk_below HBX.out hb3
      have hby3 := blk_below HBY.out hb3
      have HB3 := Aside0.mk (below_step HB2.out hb3)
      clear hb3
      clear zx0 zy0 zx1 zy1 zx2 zy2 zx3 zy3 zx4 zy4 zx5 zy5 zx6 zy6
      have zx0 := blk_cell hbx3 0
      have zy0 := blk_cell hby3 0
      have zx1 := blk_cell hbx3 1
      have zy1 := blk_cell hby3 1
      have zx2 := blk_cell hbx3 2
      have zy2 := blk_cell hby3 2
      have zx3 := blk_cell hbx3 3
      have zy3 := blk_cell hby3 3
      have zx4 := blk_cell hbx3 4
      have zy4 := blk_cell hby3 4
      have zx5 := blk_cell hbx3 5
      have zy5 := blk_cell hby3 5
      have zx6 := blk_cell hbx3 6
      have zy6 := blk_cell hby3 6
      clear hbx3 hby3
      go_wp2_with fail
      go_ret
      exact ⟨rfl, HB3.out⟩
    · have hd : eqPred x y = r := by unfold eqPred; rw [h0b, HQ.out, HR.out]; rfl
      rw [hd]
      clear hd
      go_enter Tryd.func26, Tryd.ntmps26
      go_wp2_with (first | ((with_reducible refine gate_dst (N := 2) rfl ?_); refine box_event rfl (N := 2) rfl (cs := #[.string x.f0, .slice xA1 x.f1.length xc1, .int .i64 x.f2.f0, .string x.f2.f1, .int .i64 x.f2.f2, .slice xA5 x.f2.f3.length xc5, .int .i64 x.f2.f4]) (t := 50) (by first | (go_simp; done) | (go_simp; rfl)) ?_; intro gx hgx w1 hbx hb1; have HGX := Aside0.mk hgx; have HB1 := Aside0.mk hb1; clear hgx hb1) | ((with_reducible refine gate_dst (N := 3) rfl ?_); refine box_event rfl (N := 3) rfl (cs := #[.string y.f0, .slice yA1 y.f1.length yc1, .int .i64 y.f2.f0, .string y.f2.f1, .int .i64 y.f2.f2, .slice yA5 y.f2.f3.length yc5, .int .i64 y.f2.f4]) (t := 50) (by first | (go_simp; done) | (go_simp; rfl)) ?_; intro gy hgy w2 hby hb2; have HBX := Aside0.mk (blk_below hbx hb2); have HBY := Aside0.mk hby; have HB2 := Aside0.mk (below_step HB1.out hb2); clear hgy hb2 hbx hby; have zx0 := blk_cell HBX.out 0; have zy0 := blk_cell HBY.out 0; have zx1 := blk_cell HBX.out 1; have zy1 := blk_cell HBY.out 1; have zx2 := blk_cell HBX.out 2; have zy2 := blk_cell HBY.out 2; have zx3 := blk_cell HBX.out 3; have zy3 := blk_cell HBY.out 3; have zx4 := blk_cell HBX.out 4; have zy4 := blk_cell HBY.out 4; have zx5 := blk_cell HBX.out 5; have zy5 := blk_cell HBY.out 5; have zx6 := blk_cell HBX.out 6; have zy6 := blk_cell HBY.out 6))
      refine (eqParams_walk x.f1 y.f1 xA1 yA1 xc1 yc1 w2 (Kd.C_below Hxg1.out HB2.out) (Kd.C_below Hyg1.out HB2.out)).mono ?_
      rintro e w3 ⟨rfl, hb3⟩
      rw [HQ.out]
      have hbx3 := blk_below HBX.out hb3
      have hby3 := blk_below HBY.out hb3
      have HB3 := Aside0.mk (below_step HB2.out hb3)
      clear hb3
      clear zx0 zy0 zx1 zy1 zx2 zy2 zx3 zy3 zx4 zy4 zx5 zy5 zx6 zy6
      have zx0 := blk_cell hbx3 0
      have zy0 := blk_cell hby3 0
      have zx1 := blk_cell hbx3 1
      have zy1 := blk_cell hby3 1
      have zx2 := blk_cell hbx3 2
      have zy2 := blk_cell hby3 2
      have zx3 := blk_cell hbx3 3
      have zy3 := blk_cell hby3 3
      have zx4 := blk_cell hbx3 4
      have zy4 := blk_cell hby3 4
      have zx5 := blk_cell hbx3 5
      have zy5 := blk_cell hby3 5
      have zx6 := blk_cell hbx3 6
      have zy6 := blk_cell hby3 6
      clear hbx3 hby3
      go_wp2_with fail
      refine (eqN_walk _ x.f2 y.f2 w3 _ _ (Nat.lt_succ_self _) (k24_mk w3 x.f2 ?l1 (Kd.C_below Hxg5.out HB3.out)) (k24_mk w3 y.f2 ?l2 (Kd.C_below Hyg5.out HB3.out))).mono ?_
      case l1 => exact HLX.out
      case l2 => exact HLY.out
      rintro e w4 ⟨rfl, hb4⟩
      rw [HR.out]
      have HB4 := Aside0.mk (below_step HB3.out hb4)
      clear hb4
      go_wp2_with fail
      go_ret
      exact ⟨rfl, HB4.out⟩
  · have h0b : (x.f0.toList == y.f0.toList) = false := by simp [h0]
    have hd : eqPred x y = false := by unfold eqPred; rw [h0b]; rfl
    rw [hd]
    clear hd h0
    go_enter Tryd.func26, Tryd.ntmps26
    go_wp2_with (first | ((with_reducible refine gate_dst (N := 2) rfl ?_); refine box_event rfl (N := 2) rfl (cs := #[.string x.f0, .slice xA1 x.f1.length xc1, .int .i64 x.f2.f0, .string x.f2.f1, .int .i64 x.f2.f2, .slice xA5 x.f2.f3.length xc5, .int .i64 x.f2.f4]) (t := 50) (by first | (go_simp; done) | (go_simp; rfl)) ?_; intro gx hgx w1 hbx hb1; have HGX := Aside0.mk hgx; have HB1 := Aside0.mk hb1; clear hgx hb1) | ((with_reducible refine gate_dst (N := 3) rfl ?_); refine box_event rfl (N := 3) rfl (cs := #[.string y.f0, .slice yA1 y.f1.length yc1, .int .i64 y.f2.f0, .string y.f2.f1, .int .i64 y.f2.f2, .slice yA5 y.f2.f3.length yc5, .int .i64 y.f2.f4]) (t := 50) (by first | (go_simp; done) | (go_simp; rfl)) ?_; intro gy hgy w2 hby hb2; have HBX := Aside0.mk (blk_below hbx hb2); have HBY := Aside0.mk hby; have HB2 := Aside0.mk (below_step HB1.out hb2); clear hgy hb2 hbx hby; have zx0 := blk_cell HBX.out 0; have zy0 := blk_cell HBY.out 0; have zx1 := blk_cell HBX.out 1; have zy1 := blk_cell HBY.out 1; have zx2 := blk_cell HBX.out 2; have zy2 := blk_cell HBY.out 2; have zx3 := blk_cell HBX.out 3; have zy3 := blk_cell HBY.out 3; have zx4 := blk_cell HBX.out 4; have zy4 := blk_cell HBY.out 4; have zx5 := blk_cell HBX.out 5; have zy5 := blk_cell HBY.out 5; have zx6 := blk_cell HBX.out 6; have zy6 := blk_cell HBY.out 6))
    go_ret
    exact ⟨rfl, HB2.out⟩
end Go.Proofs.YtgdiodhaihmnbaaDoor.Own
namespace Go.Proofs.YtgdiodhaihmnbaaDoor.Own
open Go.RowKit Go.Proofs.YtgdiodhaihmnbaaDoorW.PrintWords Go.Proofs.YtgdiodhaihmnbaaDoorW.PrintLast Go.Proofs.YtgdiodhaihmnbaaDoorW.PrintMore Go.Proofs.YtgdiodhaihmnbaaDoor.PPrinterMatchesReference
/-- A specification. -/
structure SpD where
  so : List S42
  fi : List S45
  pr : List S50
  fa : List S52
/-- It reads so in the world. -/
def SpK (w : World) (x : SpD) (cs : List Value) : Prop := ∃ (A0 A1 A2 A3 : Option Addr) (c0 c1 c2 c3 : Nat), cs = [.slice A0 x.so.length c0, .slice A1 x.fi.length c1, .slice A2 x.pr.length c2, .slice A3 x.fa.length c3] ∧
  k42.C w A0 x.so.length x.so ∧ k45.C w A1 x.fi.length x.fi ∧ k50.C w A2 x.pr.length x.pr ∧ k52.C w A3 x.fa.length x.fa
theorem SpK.below {w w1 : World} {x : SpD} {cs : List Value} (h : SpK w x cs) (hb : Below w.heap.size w w1) : SpK w1 x cs := by
  obtain ⟨A0, A1, A2, A3, c0, c1, c2, c3, e, h0, h1, h2, h3⟩ := h
  exact ⟨A0, A1, A2, A3, c0, c1, c2, c3, e, Kd.C_below h0 hb, Kd.C_below h1 hb, Kd.C_below h2 hb, Kd.C_below h3 hb⟩
def eqSpec (x y : SpD) : Bool := eqBy eqSort x.so y.so && eqBy eqFld x.fi y.fi && eqBy eqPred x.pr y.pr && eqBy eqFact x.fa y.fa
set_option maxHeartbeats 1000000 in
set_option maxRecDepth 100000 in
theorem eqSpec_walk (x y : SpD) (w : World) (cx cy : List Value) (hx : SpK w x cx) (hy : SpK w y cy) : Calls Tryd.prog 10 #[.agg cx.toArray, .agg cy.toArray] w (SaysB w (eqSpec x y)) := by
  obtain ⟨A0, A1, A2, A3, c0, c1, c2, c3, rfl, x0, x1, x2, x3⟩ := hx
  obtain ⟨B0, B1, B2, B3, d0, d1, d2, d3, rfl, y0, y1, y2, y3⟩ := hy
  have X0 := Aside0.mk x0
  have X1 := Aside0.mk x1
  have X2 := Aside0.mk x2
  have X3 := Aside0.mk x3
  have Y0 := Aside0.mk y0
  have Y1 := Aside0.mk y1
  have Y2 := Aside0.mk y2
  have Y3 := Aside0.mk y3
  have hu30 := Tryd.underlying30
  clear x0 x1 x2 x3 y0 y1 y2 y3
  obtain ⟨q0, Q0⟩ : ∃ q, Aside0 (eqBy eqSort x.so y.so = q) := ⟨_, ⟨rfl⟩⟩
  obtain ⟨q1, Q1⟩ : ∃ q, Aside0 (eqBy eqFld x.fi y.fi = q) := ⟨_, ⟨rfl⟩⟩
  obtain ⟨q2, Q2⟩ : ∃ q, Aside0 (eqBy eqPred x.pr y.pr = q) := ⟨_, ⟨rfl⟩⟩
  obtain ⟨q3, Q3⟩ : ∃ q, Aside0 (eqBy eqFact x.fa y.fa = q) := ⟨_, ⟨rfl⟩⟩
  have HE : Aside0 (eqSpec x y = (q0 && q1 && q2 && q3)) := ⟨by rw [eqSpec, Q0.out, Q1.out, Q2.out, Q3.out]⟩
  go_enter Tryd.func10, Tryd.ntmps10
  go_wp2_with (first | ((with_reducible refine gate_dst (N := 2) rfl ?_); refine box_event rfl (N := 2) rfl (cs := #[.slice A0 x.so.length c0, .slice A1 x.fi.length c1, .slice A2 x.pr.length c2, .slice A3 x.fa.length c3]) (t := 30) (by first | (go_simp; done) | (go_simp; rfl)) ?_; intro gx hgx w1 hbx hb1; have HGX := Aside0.mk hgx; have HB1 := Aside0.mk hb1; clear hgx hb1) | ((with_reducible refine gate_dst (N := 3) rfl ?_); refine box_event rfl (N := 3) rfl (cs := #[.slice B0 y.so.length d0, .slice B1 y.fi.length d1, .slice B2 y.pr.length d2, .slice B3 y.fa.length d3]) (t := 30) (by first | (go_simp; done) | (go_simp; rfl)) ?_; intro gy hgy w2 hby hb2; have HBX := Aside0.mk (blk_below hbx hb2); have HBY := Aside0.mk hby; have HB2 := Aside0.mk (below_step HB1.out hb2); clear hgy hb2 hbx hby; have zx0 := blk_cell HBX.out 0; have zx1 := blk_cell HBX.out 1; have zx2 := blk_cell HBX.out 2; have zx3 := blk_cell HBX.out 3; have zy0 := blk_cell HBY.out 0; have zy1 := blk_cell HBY.out 1; have zy2 := blk_cell HBY.out 2; have zy3 := blk_cell HBY.out 3))
  refine (eqSorts_walk x.so y.so A0 B0 c0 d0 w2 (Kd.C_below X0.out HB2.out) (Kd.C_below Y0.out HB2.out)).mono ?_
  rintro e w3 ⟨rfl, hb3⟩
  rw [Q0.out]
  have HBX3 := Aside0.mk (blk_below HBX.out hb3)
  have HBY3 := Aside0.mk (blk_below HBY.out hb3)
  have HB3 := Aside0.mk (below_step HB2.out hb3)
  clear hb3 zx0 zx1 zx2 zx3 zy0 zy1 zy2 zy3
  have zx1 := blk_cell HBX3.out 1
  have zy1 := blk_cell HBY3.out 1
  cases q0
  · go_wp2_with fail
    go_ret
    exact ⟨by rw [HE.out]; rfl, HB3.out⟩
  go_wp2_with fail
  refine (eqFlds_walk x.fi y.fi eqFld_walk A1 B1 c1 d1 w3 (Kd.C_below X1.out HB3.out) (Kd.C_below Y1.out HB3.out)).mono ?_
  rintro e w4 ⟨rfl, hb4⟩
  rw [Q1.out]
  have HBX4 := Aside0.mk (blk_below HBX3.out hb4)
  have HBY4 := Aside0.mk (blk_below HBY3.out hb4)
  have HB4 := Aside0.mk (below_step HB3.out hb4)
  clear hb4 zx1 zy1
  have zx2 := blk_cell HBX4.out 2
  have zy2 := blk_cell HBY4.out 2
  cases q1
  · go_wp2_with fail
    go_ret
    exact ⟨by rw [HE.out]; rfl, HB4.out⟩
  go_wp2_with fail
  refine (eqPreds_walk x.pr y.pr eqPred_walk A2 B2 c2 d2 w4 (Kd.C_below X2.out HB4.out) (Kd.C_below Y2.out HB4.out)).mono ?_
  rintro e w5 ⟨rfl, hb5⟩
  rw [Q2.out]
  have HBX5 := Aside0.mk (blk_below HBX4.out hb5)
  have HBY5 := Aside0.mk (blk_below HBY4.out hb5)
  have HB5 := Aside0.mk (below_step HB4.out hb5)
  clear hb5 zx2 zy2
  have zx3 := blk_cell HBX5.out 3
  have zy3 := blk_cell HBY5.out 3
  cases q2
  · go_wp2_with fail
    go_ret
    exact ⟨by rw [HE.out]; rfl, HB5.out⟩
  go_wp2_with fail
  refine (eqFacts_walk x.fa y.fa eqFact_walk A3 B3 c3 d3 w5 (Kd.C_below X3.out HB5.out) (Kd.C_below Y3.out HB5.out)).mono ?_
  rintro e w6 ⟨rfl, hb6⟩
  rw [Q3.out]
  have HB6 := Aside0.mk (below_step HB5.out hb6)
  clear hb6 zx3 zy3
  go_wp2_with fail
  go_ret
  exact ⟨by rw [HE.out]; rfl, HB6.out⟩
end Go.Proofs.YtgdiodhaihmnbaaDoor.Own
namespace Go.Proofs.YtgdiodhaihmnbaaDoor.Own
open Go.RowKit Go.Proofs.YtgdiodhaihmnbaaDoorW.PrintWords Go.Proofs.YtgdiodhaihmnbaaDoorW.PrintLast Go.Proofs.YtgdiodhaihmnbaaDoorW.PrintMore Go.Proofs.YtgdiodhaihmnbaaDoor.PPrinterMatchesReference
/-- The name of a sort, empty where there is none. -/
def sortName (so : List S42) (i : Int) : ByteArray := if i < 0 ∨ (so.length : Int) ≤ i then ⟨#[]⟩ else (so.getD i.toNat z42).f0
/-- The memory that Spec's closures look at: the specification, the printer's pointer, the closure sort. -/
structure Env (b g gp gs : Nat) (so : List S42) (w0 w : World) : Prop where
  spec : ∃ (A0 : Option Addr) (c0 : Nat) (v1 v2 v3 : Value), w.heap[g]? = some (.cells #[.slice A0 so.length c0, v1, v2, v3] 30 (0, 0)) ∧ k42.C w0 A0 so.length so
  ptr : w.heap[gp]? = some (.cells #[.pointer (some ⟨b, 0, none⟩)] 65 (0, 0))
  fn : w.heap[gs]? = some (.cells #[.func (.func 46) #[] #[.pointer (some ⟨g, 0, none⟩)]] 80 (0, 0))
  gb : g ≠ b ∧ gp ≠ b ∧ gs ≠ b
theorem Env.wrote {b g gp gs : Nat} {so : List S42} {w0 w w1 : World} {B m2 m1 : Nat} {bs : List UInt8} (h : Env b g gp gs so w0 w) (k : Wrote B b m2 m1 bs w w1) : Env b g gp gs so w0 w1 := by
  obtain ⟨⟨A0, c0, v1, v2, v3, h1, h2⟩, h3, h4, h5⟩ := h
  exact ⟨⟨A0, c0, v1, v2, v3, k.blk h1 h5.1 (by decide), h2⟩, k.blk h3 h5.2.1 (by decide), k.blk h4 h5.2.2 (by decide), h5⟩
theorem Env.below {b g gp gs : Nat} {so : List S42} {w0 w w1 : World} (h : Env b g gp gs so w0 w) (k : Below w.heap.size w w1) : Env b g gp gs so w0 w1 := by
  obtain ⟨⟨A0, c0, v1, v2, v3, h1, h2⟩, h3, h4, h5⟩ := h
  exact ⟨⟨A0, c0, v1, v2, v3, blk_below h1 k, h2⟩, blk_below h3 k, blk_below h4 k, h5⟩
set_option maxHeartbeats 1000000 in
set_option maxRecDepth 100000 in
theorem sort_walk (b g gp gs : Nat) (so : List S42) (w0 w : World) (i : Int) (h : Env b g gp gs so w0 w) (hb : Below w0.heap.size w0 w) (hi1 : -9223372036854775808 ≤ i) (hi2 : i ≤ 9223372036854775807) :
    Calls Tryd.prog 46 #[.int .i64 i, .pointer (some ⟨g, 0, none⟩)] w fun e w' => e = .returned (.string (sortName so i)) ∧ w = w' := by
  obtain ⟨⟨A0, c0, v1, v2, v3, h1, h2⟩, _, _, _⟩ := h
  have z0 := blk_cell h1 0
  have hlen := row_len h2
  by_cases hlo : i < 0
  · have hr : sortName so i = ⟨#[]⟩ := by unfold sortName; rw [if_pos (.inl hlo)]
    have hb1 : decide (i < 0) = true := decide_eq_true hlo
    rw [hr]
    clear hr h1 h2
    go_enter Tryd.func46, Tryd.ntmps46
    go_wp2_with fail
    go_ret
    exact ⟨rfl, rfl⟩
  · by_cases hhi : (so.length : Int) ≤ i
    · have hr : sortName so i = ⟨#[]⟩ := by unfold sortName; rw [if_pos (.inr hhi)]
      have hb1 : decide (i < 0) = false := decide_eq_false hlo
      have hb2 : decide ((so.length : Int) ≤ i) = true := decide_eq_true hhi
      rw [hr]
      clear hr h1 h2
      go_enter Tryd.func46, Tryd.ntmps46
      go_wp2_with fail
      go_ret
      exact ⟨rfl, rfl⟩
    · obtain ⟨k, rfl⟩ : ∃ k : Nat, i = k := ⟨i.toNat, by omega⟩
      have hr : sortName so k = (so.getD k z42).f0 := by unfold sortName; rw [if_neg (by omega)]; simp
      have hb1 : decide ((k : Int) < 0) = false := decide_eq_false hlo
      have hlt : k < so.length := by omega
      obtain ⟨ad, e1, g0, g1⟩ := at_T42 h2 k (by omega) (by omega)
      cases e1
      simp only [Int.toNat_natCast] at g0
      replace g0 := pw_cell_below hb g0
      change _ = some (Value.string (so.getD k z42).f0) at g0
      rw [hr]
      have hlt2 : (k : Int) < (so.length : Int) := by omega
      clear hr h1 h2 g1 hb hlo hhi
      generalize so.getD k z42 = u at *
      go_enter Tryd.func46, Tryd.ntmps46
      go_wp2_with fail
      go_ret
      exact ⟨rfl, rfl⟩
set_option maxHeartbeats 1000000 in
set_option maxRecDepth 100000 in
/-- The closure that writes the name of a sort. -/
theorem fsort_walk (b g gp gs : Nat) (so : List S42) (w0 w : World) (i : Int) (B m2 m1 : Nat) (bs : List UInt8) (h : Env b g gp gs so w0 w) (hb : Below w0.heap.size w0 w) (hi1 : -9223372036854775808 ≤ i) (hi2 : i ≤ 9223372036854775807)
    (hP : IsP B b m2 m1 bs w) (hlen : bs.length + (sortName so i).size ≤ most) :
    Calls Tryd.prog 49 #[.int .i64 i, .pointer (some ⟨gp, 0, none⟩), .pointer (some ⟨gs, 0, none⟩)] w fun e w' => e = .returned (.tuple #[]) ∧ Wrote B b m2 m1 (bs ++ (sortName so i).data.toList) w w' := by
  have hlt := hP.lt
  have hlow := hP.low
  have HP := Aside0.mk hP
  have HE := Aside0.mk h
  have HB := Aside0.mk hb
  clear h hb hP
  go_enter Tryd.func49, Tryd.ntmps49
  go_wp2_with fail
  obtain ⟨C, hCe⟩ : ∃ C : World → Prop, C = fun W => Below w.heap.size w W := ⟨_, rfl⟩
  have q0 : ∀ W, C W → W.cell? ⟨gp, 0, none⟩ = some (.pointer (some ⟨b, 0, none⟩)) := fun W hW => by rw [hCe] at hW; exact blk_cell (HE.out.below hW).ptr 0
  have q1 : ∀ W, C W → W.cell? ⟨gs, 0, none⟩ = some (.func (.func 46) #[] #[.pointer (some ⟨g, 0, none⟩)]) := fun W hW => by rw [hCe] at hW; exact blk_cell (HE.out.below hW).fn 0
  have hc : ∀ W, C W → Calls Tryd.prog 46 #[.int .i64 i, .pointer (some ⟨g, 0, none⟩)] W fun e w' => e = .returned (.string (sortName so i)) ∧ C w' := fun W hW => by
    have hW2 := hW
    rw [hCe] at hW2
    exact (sort_walk b g gp gs so w0 W i (HE.out.below hW2) (below_step HB.out hW2) hi1 hi2).mono fun e w' h => ⟨h.1, h.2 ▸ hW⟩
  refine wp_quiet_tail C 6 (by kernel_rfl) (by kernel_rfl) (by rw [hCe]; exact below_drew1 (Below.refl _ _)) ?_
  simp only [List.take_succ_cons, List.take_zero, List.drop_succ_cons, List.drop_zero]
  iterate 5
    refine q_ex rfl ?_
    apply Exists.intro
    refine ⟨fun W hW => ?_, ?_⟩
    · have p0 := q0 W hW
      have p1 := q1 W hW
      go_simp
      try rfl
    simp only [Act.put, List.setIfInBounds_toArray, List.set_cons_zero, List.set_cons_succ]
  refine q_call rfl (fun W hW => by go_simp) hc ?_
  simp only [Act.put, List.setIfInBounds_toArray, List.set_cons_zero, List.set_cons_succ]
  intro W hW
  rw [hCe] at hW
  clear q0 q1 hc hCe
  have HW := Aside0.mk hW
  clear hW
  go_wp2_with fail
  refine (writeString_walk B b m2 m1 bs _ W (HP.out.below HW.out) (by unfold most at hlen; exact hlen) (by have := HW.out.size; omega)).mono ?_
  rintro e w1 ⟨rfl, hw1⟩
  have HW1 := Aside0.mk (Wrote.after HW.out (by omega) hw1)
  clear hw1
  go_wp2_with fail
  go_end0
  exact ⟨rfl, HW1.out⟩
end Go.Proofs.YtgdiodhaihmnbaaDoor.Own
namespace Go.Proofs.YtgdiodhaihmnbaaDoor.Own
open Go.RowKit Go.Proofs.YtgdiodhaihmnbaaDoorW.PrintWords Go.Proofs.YtgdiodhaihmnbaaDoorW.PrintLast Go.Proofs.YtgdiodhaihmnbaaDoorW.PrintMore Go.Proofs.YtgdiodhaihmnbaaDoor.PPrinterMatchesReference
/-- A parameter's text. -/
def parT (so : List S42) (x : S47) : List UInt8 := x.f0.data.toList ++ [58, 32] ++ (sortName so x.f1).data.toList
set_option maxHeartbeats 1000000 in
set_option maxRecDepth 100000 in
/-- The closure that writes a parameter. -/
theorem fpar_walk (b g gp gs : Nat) (so : List S42) (w0 w : World) (x : S47) (B m2 m1 : Nat) (bs : List UInt8) (h : Env b g gp gs so w0 w) (hb : Below w0.heap.size w0 w) (hi1 : -9223372036854775808 ≤ x.f1) (hi2 : x.f1 ≤ 9223372036854775807)
    (hP : IsP B b m2 m1 bs w) (hlen : bs.length + (parT so x).length ≤ most) :
    Calls Tryd.prog 51 #[.agg #[.string x.f0, .int .i64 x.f1], .pointer (some ⟨gp, 0, none⟩), .pointer (some ⟨gs, 0, none⟩)] w fun e w' => e = .returned (.tuple #[]) ∧ Wrote B b m2 m1 (bs ++ parT so x) w w' := by
  have hlt := hP.lt
  have hlow := hP.low
  have HP := Aside0.mk hP
  have HE := Aside0.mk h
  have HB := Aside0.mk hb
  have hu47 := Tryd.underlying47
  have hl2 : bs.length + (x.f0.size + 2 + (sortName so x.f1).size) ≤ most := by
    unfold parT at hlen
    simp only [List.length_append, data_length, List.length_cons, List.length_nil] at hlen; omega
  have hs1 : ¬ 9223372036854775807 < x.f0.size + 2 := by unfold most at hl2; omega
  have HS1 := Aside0.mk (show (x.f0 ++ (⟨#[58, 32]⟩ : ByteArray)).size = x.f0.size + 2 by rw [ByteArray.size_append]; rfl)
  have hs2 : ¬ 9223372036854775807 < x.f0.size + 2 + (sortName so x.f1).size := by unfold most at hl2; omega
  have HL := Aside0.mk hl2
  have hass : bs ++ parT so x = bs ++ ((x.f0 ++ ⟨#[58, 32]⟩) ++ sortName so x.f1).data.toList := by unfold parT; simp [ByteArray.data_append]
  rw [hass]
  obtain ⟨sn, hsn⟩ : ∃ sn, sn = sortName so x.f1 := ⟨_, rfl⟩
  have HSN := Aside0.mk hsn
  rw [← hsn] at hs2 HL ⊢
  clear h hb hP hl2 hlen hass hsn
  go_enter Tryd.func51, Tryd.ntmps51
  go_wp2_with fail
  obtain ⟨C, hCe⟩ : ∃ C : World → Prop, C = fun W => Below (w.alloc (.cells #[.string x.f0, .int .i64 x.f1] 47)).heap.size (w.alloc (.cells #[.string x.f0, .int .i64 x.f1] 47)) W := ⟨_, rfl⟩
  have HC := Aside0.mk hCe
  clear hCe
  have hwB : ∀ W, C W → Below w.heap.size w W := fun W hW => by rw [HC.out] at hW; exact below_step (below_alloc (Below.refl _ _) _) hW
  have q0 : ∀ W, C W → W.cell? ⟨gp, 0, none⟩ = some (.pointer (some ⟨b, 0, none⟩)) := fun W hW => blk_cell (HE.out.below (hwB W hW)).ptr 0
  have q1 : ∀ W, C W → W.cell? ⟨gs, 0, none⟩ = some (.func (.func 46) #[] #[.pointer (some ⟨g, 0, none⟩)]) := fun W hW => blk_cell (HE.out.below (hwB W hW)).fn 0
  have q2 : ∀ W, C W → W.cell? ⟨w.heap.size, 0, none⟩ = some (.string x.f0) := fun W hW => by rw [HC.out] at hW; exact blk_cell (blk_below (blk_new w _) hW) 0
  have q3 : ∀ W, C W → W.cell? ⟨w.heap.size, 1, none⟩ = some (.int .i64 x.f1) := fun W hW => by rw [HC.out] at hW; exact blk_cell (blk_below (blk_new w _) hW) 1
  have hc : ∀ W, C W → Calls Tryd.prog 46 #[.int .i64 x.f1, .pointer (some ⟨g, 0, none⟩)] W fun e w' => e = .returned (.string sn) ∧ C w' := fun W hW => by
    have hW2 := hwB W hW
    rw [HSN.out]
    exact (sort_walk b g gp gs so w0 W x.f1 (HE.out.below hW2) (below_step HB.out hW2) hi1 hi2).mono fun e w' h => ⟨h.1, h.2 ▸ hW⟩
  refine wp_quiet_tail C 11 (by kernel_rfl) (by kernel_rfl) (by rw [HC.out]; exact below_drew1 (Below.refl _ _)) ?_
  simp only [List.take_succ_cons, List.take_zero, List.drop_succ_cons, List.drop_zero]
  iterate 9
    refine q_ex rfl ?_
    apply Exists.intro
    refine ⟨fun W hW => ?_, ?_⟩
    · have p0 := q0 W hW
      have p1 := q1 W hW
      have p2 := q2 W hW
      have p3 := q3 W hW
      go_simp
      try rfl
    simp only [Act.put, List.setIfInBounds_toArray, List.set_cons_zero, List.set_cons_succ]
  refine q_call rfl (fun W hW => by go_simp) hc ?_
  simp only [Act.put, List.setIfInBounds_toArray, List.set_cons_zero, List.set_cons_succ]
  refine q_ex rfl ?_
  apply Exists.intro
  refine ⟨fun W hW => ?_, ?_⟩
  · have hh := HS1.out
    have hs2' : ¬ 9223372036854775807 < (x.f0 ++ (⟨#[58, 32]⟩ : ByteArray)).size + sn.size := by rw [hh]; exact hs2
    go_simp
    try rfl
  simp only [Act.put, List.setIfInBounds_toArray, List.set_cons_zero, List.set_cons_succ]
  intro W hW
  have HW := Aside0.mk (hwB W hW)
  clear hW q0 q1 q2 q3 hc hwB HC
  go_wp2_with fail
  refine (writeString_walk B b m2 m1 bs _ W (HP.out.below HW.out) ?l1 (by have := HW.out.size; omega)).mono ?_
  case l1 => have := HL.out; have h2 := HS1.out; rw [ByteArray.size_append, h2]; unfold most at this; omega
  rintro e w1 ⟨rfl, hw1⟩
  have HW1 := Aside0.mk (Wrote.after HW.out (by omega) hw1)
  clear hw1
  go_wp2_with fail
  go_end0
  exact ⟨rfl, HW1.out⟩
/-- Texts with a separator between them. -/
def sepT {α : Type} (f : α → List UInt8) (s : List UInt8) : List α → Bool → List UInt8
  | [], _ => []
  | x :: r, first => (if first then [] else s) ++ f x ++ sepT f s r false
theorem sepT_step {α : Type} (f : α → List UInt8) (s : List UInt8) (z : α) (xs : List α) (k : Nat) (pre : List UInt8) (h : sepT f s xs true = pre ++ sepT f s (xs.drop k) (decide (k = 0))) (hk : k < xs.length) :
    sepT f s xs true = ((pre ++ (if k = 0 then [] else s)) ++ f (xs.getD k z)) ++ sepT f s (xs.drop (k + 1)) (decide (k + 1 = 0)) := by
  rw [h, drop_get z xs k hk, sepT]
  by_cases hk0 : k = 0 <;> simp [hk0]
set_option maxHeartbeats 2000000 in
set_option maxRecDepth 100000 in
theorem listS_walk (xs : List Int) (hI : ∀ x ∈ xs, -9223372036854775808 ≤ x ∧ x ≤ 9223372036854775807) (b g gp gs : Nat) (so : List S42) (w0 w : World) (B m2 m1 : Nat) (bs : List UInt8) (A : Option Addr) (c : Nat) (hx : (Kd.int .i64).C w A xs.length xs) (hxw : w.heap.size ≤ w.heap.size) (h : Env b g gp gs so w0 w) (hb : Below w0.heap.size w0 w) (hB0 : w0.heap.size ≤ B)
    (hx0 : (Kd.int .i64).C w0 A xs.length xs) (hP : IsP B b m2 m1 bs w) (hlen : bs.length + (sepT (fun i => (sortName so i).data.toList) [32, 45, 62, 32] xs true).length ≤ most) :
    Calls Tryd.prog 48 #[.pointer (some ⟨b, 0, none⟩), .slice A xs.length c, .string ⟨#[32, 45, 62, 32]⟩, .func (.func 49) #[] #[.pointer (some ⟨gp, 0, none⟩), .pointer (some ⟨gs, 0, none⟩)]] w fun e w' => e = .returned (.tuple #[]) ∧ Wrote B b m2 m1 (bs ++ sepT (fun i => (sortName so i).data.toList) [32, 45, 62, 32] xs true) w w' := by
  have HI := Aside0.mk hI
  have HX := Aside0.mk hx0
  have HP := Aside0.mk hP
  have HB := Aside0.mk hb
  have HE := Aside0.mk h
  have HL := Aside0.mk hlen
  have hlt := hP.lt
  have hlow := hP.low
  have hmx := row_len hx
  clear hI hx hP hb h hlen hx0 hxw
  go_enter Tryd.func48, Tryd.ntmps48
  go_wp2_with fail
  go_loopw [12] (fun v wr => ∃ k : Nat, k ≤ xs.length ∧ v = .int .i64 k ∧ Aside0 (∃ pre, sepT (fun i => (sortName so i).data.toList) [32, 45, 62, 32] xs true = pre ++ sepT (fun i => (sortName so i).data.toList) [32, 45, 62, 32] (xs.drop k) (decide (k = 0)) ∧ Wrote B b m2 m1 (bs ++ pre) w wr)) (fun v _ => xs.length - (intOf v).toNat)
  case atStart => exact ⟨0, Nat.zero_le _, rfl, ⟨[], by simp, by simpa using ⟨HP.out, Below.refl _ _, Lib.OthersKept.refl _ _ _⟩⟩⟩
  case round =>
    obtain ⟨k, hk, rfl, ⟨pre, hpre, hwr⟩⟩ := hrel
    have HPRE := Aside0.mk hpre
    have HWR := Aside0.mk hwr
    clear hpre hwr
    by_cases hlt2 : k < xs.length
    · have hbw := HWR.out.from_ HB.out hB0
      obtain ⟨ad, e1, g0⟩ := int_at HX.out k hlt2
      cases e1
      replace g0 := pw_cell_below hbw g0
      have HBW := Aside0.mk hbw
      have HM := Aside0.mk (HI.out _ (mem_get 0 xs k hlt2))
      have hs1 := sepT_step _ _ 0 xs k pre HPRE.out hlt2
      have hl3 : bs.length + (pre.length + (if k = 0 then ([] : List UInt8) else [32, 45, 62, 32]).length + (sortName so (xs.getD k 0)).size) ≤ most := by
        have := HL.out
        rw [hs1] at this
        simp only [List.length_append, data_length] at this ⊢
        omega
      have HS1 := Aside0.mk hs1
      have HL3 := Aside0.mk hl3
      have HENV := Aside0.mk (HE.out.wrote HWR.out)
      clear hs1 hl3 hbw
      generalize xs.getD k 0 = u at *
      have hbsz : b < wr.heap.size := by have := HWR.out.size; omega
      by_cases hk0 : k = 0
      · have hs : (if k = 0 then ([] : List UInt8) else [32, 45, 62, 32]) = [] := by simp [hk0]
        rw [hs] at HS1 HL3
        have hkb : decide (0 < k) = false := by simp [hk0]
        clear hk0 hs
        go_wp2_with fail
        refine (fsort_walk b g gp gs so w0 wr u B m2 m1 (bs ++ pre) HENV.out HBW.out HM.out.1 HM.out.2 HWR.out.1 ?s3).mono ?_
        case s3 => have := HL3.out; rw [List.length_append]; simp at this; omega
        rintro e w2 ⟨rfl, hw2⟩
        have HW2 := Aside0.mk (HWR.out.trans hw2)
        clear hw2 g0
        go_wp2
        go_roundw
        case rel => exact ⟨k + 1, by omega, by go_num, ⟨⟨_, HS1.out, by simpa using HW2.out⟩⟩⟩
        case measure => simp [intOf]; omega
      · have hs : (if k = 0 then ([] : List UInt8) else [32, 45, 62, 32]) = [32, 45, 62, 32] := by simp [hk0]
        rw [hs] at HS1 HL3
        have hkb : decide (0 < k) = true := by simp; omega
        clear hk0 hs
        go_wp2_with fail
        refine (writeString_walk B b m2 m1 (bs ++ pre) _ _ HWR.out.1 ?l1 ?l2).mono ?_
        case l1 => have := HL3.out; rw [List.length_append]; unfold most at this; simp only [List.length_cons, List.length_nil] at this; show _ + 4 ≤ _; omega
        case l2 => have := HWR.out.1.low; omega
        rintro e w1 ⟨rfl, hw1⟩
        have HW1 := Aside0.mk (HWR.out.trans hw1)
        have HBW1 := Aside0.mk (HW1.out.from_ HB.out hB0)
        have HENV1 := Aside0.mk (HE.out.wrote HW1.out)
        clear hw1 g0
        go_wp2_with fail
        refine (fsort_walk b g gp gs so w0 w1 u B m2 m1 _ HENV1.out HBW1.out HM.out.1 HM.out.2 HW1.out.1 ?u3).mono ?_
        case u3 => have := HL3.out; simp only [List.length_append, List.length_cons, List.length_nil] at this ⊢; simp; omega
        rintro e w2 ⟨rfl, hw2⟩
        have HW2 := Aside0.mk (HW1.out.trans hw2)
        clear hw2
        go_wp2
        go_roundw
        case rel => exact ⟨k + 1, by omega, by go_num, ⟨⟨_, HS1.out, by simpa using HW2.out⟩⟩⟩
        case measure => simp [intOf]; omega
    · have hke : k = xs.length := by omega
      have HEE : Aside0 (sepT (fun i => (sortName so i).data.toList) [32, 45, 62, 32] xs true = pre) := ⟨by have := HPRE.out; rw [this, List.drop_of_length_le (by omega)]; simp [sepT]⟩
      clear hke
      go_wp2
      go_end0
      exact ⟨rfl, by rw [HEE.out]; exact HWR.out⟩
set_option maxHeartbeats 2000000 in
set_option maxRecDepth 100000 in
theorem listP_walk (xs : List S47) (hI : ∀ x ∈ xs, -9223372036854775808 ≤ x.f1 ∧ x.f1 ≤ 9223372036854775807) (b g gp gs : Nat) (so : List S42) (w0 w : World) (B m2 m1 : Nat) (bs : List UInt8) (A : Option Addr) (c : Nat) (hx : k47.C w A xs.length xs) (hxw : w.heap.size ≤ w.heap.size) (h : Env b g gp gs so w0 w) (hb : Below w0.heap.size w0 w) (hB0 : w0.heap.size ≤ B)
    (hx0 : k47.C w0 A xs.length xs) (hP : IsP B b m2 m1 bs w) (hlen : bs.length + (sepT (parT so) [44, 32] xs true).length ≤ most) :
    Calls Tryd.prog 50 #[.pointer (some ⟨b, 0, none⟩), .slice A xs.length c, .string ⟨#[44, 32]⟩, .func (.func 51) #[] #[.pointer (some ⟨gp, 0, none⟩), .pointer (some ⟨gs, 0, none⟩)]] w fun e w' => e = .returned (.tuple #[]) ∧ Wrote B b m2 m1 (bs ++ sepT (parT so) [44, 32] xs true) w w' := by
  have HI := Aside0.mk hI
  have HX := Aside0.mk hx0
  have HP := Aside0.mk hP
  have HB := Aside0.mk hb
  have HE := Aside0.mk h
  have HL := Aside0.mk hlen
  have hlt := hP.lt
  have hlow := hP.low
  have hmx := row_len hx
  have hu47 := Tryd.underlying47
  clear hI hx hP hb h hlen hx0 hxw
  go_enter Tryd.func50, Tryd.ntmps50
  go_wp2_with fail
  go_loopw [12] (fun v wr => ∃ k : Nat, k ≤ xs.length ∧ v = .int .i64 k ∧ Aside0 (∃ pre, sepT (parT so) [44, 32] xs true = pre ++ sepT (parT so) [44, 32] (xs.drop k) (decide (k = 0)) ∧ Wrote B b m2 m1 (bs ++ pre) w wr)) (fun v _ => xs.length - (intOf v).toNat)
  case atStart => exact ⟨0, Nat.zero_le _, rfl, ⟨[], by simp, by simpa using ⟨HP.out, Below.refl _ _, Lib.OthersKept.refl _ _ _⟩⟩⟩
  case round =>
    obtain ⟨k, hk, rfl, ⟨pre, hpre, hwr⟩⟩ := hrel
    have HPRE := Aside0.mk hpre
    have HWR := Aside0.mk hwr
    clear hpre hwr
    by_cases hlt2 : k < xs.length
    · have hbw := HWR.out.from_ HB.out hB0
      obtain ⟨ad, e1, g0, g1⟩ := at_T47 HX.out k (by omega) (by omega)
      cases e1
      simp only [Int.toNat_natCast] at g0 g1
      replace g0 := pw_cell_below hbw g0
      replace g1 := pw_cell_below hbw g1
      change _ = some (Value.string (xs.getD k z47).f0) at g0
      change _ = some (Value.int .i64 (xs.getD k z47).f1) at g1
      have HBW := Aside0.mk hbw
      have HM := Aside0.mk (HI.out _ (mem_get z47 xs k hlt2))
      have hs1 := sepT_step _ _ z47 xs k pre HPRE.out hlt2
      have hl3 : bs.length + (pre.length + (if k = 0 then ([] : List UInt8) else [44, 32]).length + (parT so (xs.getD k z47)).length) ≤ most := by
        have := HL.out
        rw [hs1] at this
        simp only [List.length_append, data_length] at this ⊢
        omega
      have HS1 := Aside0.mk hs1
      have HL3 := Aside0.mk hl3
      have HENV := Aside0.mk (HE.out.wrote HWR.out)
      clear hs1 hl3 hbw
      generalize xs.getD k z47 = u at *
      have hbsz : b < wr.heap.size := by have := HWR.out.size; omega
      by_cases hk0 : k = 0
      · have hs : (if k = 0 then ([] : List UInt8) else [44, 32]) = [] := by simp [hk0]
        rw [hs] at HS1 HL3
        have hkb : decide (0 < k) = false := by simp [hk0]
        clear hk0 hs
        go_wp2_with fail
        have hba : Below wr.heap.size wr (wr.alloc (.cells #[.string u.f0, .int .i64 u.f1] 47)) := below_alloc (Below.refl _ _) _
        have HBA := Aside0.mk hba
        refine (fpar_walk b g gp gs so w0 _ u B m2 m1 (bs ++ pre) (HENV.out.below hba) (below_step HBW.out hba) HM.out.1 HM.out.2 (HWR.out.1.below hba) ?s3).mono ?_
        case s3 => have := HL3.out; rw [List.length_append]; simp at this; omega
        rintro e w2 ⟨rfl, hw2⟩
        have HW2 := Aside0.mk (HWR.out.trans (Wrote.after HBA.out (by omega) hw2))
        clear hw2 g0 g1 hba
        go_wp2
        go_roundw
        case rel => exact ⟨k + 1, by omega, by go_num, ⟨⟨_, HS1.out, by simpa using HW2.out⟩⟩⟩
        case measure => simp [intOf]; omega
      · have hs : (if k = 0 then ([] : List UInt8) else [44, 32]) = [44, 32] := by simp [hk0]
        rw [hs] at HS1 HL3
        have hkb : decide (0 < k) = true := by simp; omega
        clear hk0 hs
        go_wp2_with fail
        have hbk := blk_new wr (.cells #[.string u.f0, .int .i64 u.f1] 47)
        have hba : Below wr.heap.size wr (wr.alloc (.cells #[.string u.f0, .int .i64 u.f1] 47)) := below_alloc (Below.refl _ _) _
        have HBA := Aside0.mk hba
        refine (writeString_walk B b m2 m1 (bs ++ pre) _ _ (HWR.out.1.below hba) ?l1 ?l2).mono ?_
        case l1 => have := HL3.out; rw [List.length_append]; unfold most at this; simp only [List.length_cons, List.length_nil] at this; show _ + 2 ≤ _; omega
        case l2 => have := HWR.out.1.low; have := HBA.out.size; omega
        rintro e w1 ⟨rfl, hw1⟩
        have hbk1 := hw1.blk hbk (by omega) (by decide)
        have HW1 := Aside0.mk (HWR.out.trans (Wrote.after HBA.out (by omega) hw1))
        have HBW1 := Aside0.mk (HW1.out.from_ HB.out hB0)
        have HENV1 := Aside0.mk (HE.out.wrote HW1.out)
        clear hw1 g0 g1 hba hbk
        have g0 := blk_cell hbk1 0
        have g1 := blk_cell hbk1 1
        go_wp2_with fail
        refine (fpar_walk b g gp gs so w0 w1 u B m2 m1 _ HENV1.out HBW1.out HM.out.1 HM.out.2 HW1.out.1 ?u3).mono ?_
        case u3 => have := HL3.out; simp only [List.length_append, List.length_cons, List.length_nil] at this ⊢; simp; omega
        rintro e w2 ⟨rfl, hw2⟩
        have HW2 := Aside0.mk (HW1.out.trans hw2)
        clear hw2
        go_wp2
        go_roundw
        case rel => exact ⟨k + 1, by omega, by go_num, ⟨⟨_, HS1.out, by simpa using HW2.out⟩⟩⟩
        case measure => simp [intOf]; omega
    · have hke : k = xs.length := by omega
      have HEE : Aside0 (sepT (parT so) [44, 32] xs true = pre) := ⟨by have := HPRE.out; rw [this, List.drop_of_length_le (by omega)]; simp [sepT]⟩
      clear hke
      go_wp2
      go_end0
      exact ⟨rfl, by rw [HEE.out]; exact HWR.out⟩
end Go.Proofs.YtgdiodhaihmnbaaDoor.Own
namespace Go.Proofs.YtgdiodhaihmnbaaDoor.Own
open Go.RowKit Go.Proofs.YtgdiodhaihmnbaaDoorW.PrintWords Go.Proofs.YtgdiodhaihmnbaaDoorW.PrintLast Go.Proofs.YtgdiodhaihmnbaaDoorW.PrintMore Go.Proofs.YtgdiodhaihmnbaaDoor.PPrinterMatchesReference
/-- The text of a sort. -/
def sortT (s : S42) : List UInt8 := [115, 111, 114, 116, 32] ++ s.f0.data.toList ++ (if s.f1 then [32, 111, 114, 100, 101, 114, 101, 100] else []) ++ [59, 10]
/-- The text of a field. -/
def fldT (so : List S42) (f : S45) : List UInt8 := (if f.f2 then [118, 97, 114, 32] else []) ++ ([102, 105, 101, 108, 100, 32] ++ f.f0.data.toList ++ [58, 32]) ++ sepT (fun i => (sortName so i).data.toList) [32, 45, 62, 32] f.f1 true ++ [59, 10]
/-- The text of a predicate. -/
def predT (so : List S42) (p : S50) : List UInt8 := ([112, 114, 101, 100, 32] ++ p.f0.data.toList ++ [91]) ++ sepT (parT so) [44, 32] p.f1 true ++ ([93, 32, 123, 32] ++ txt p.f2 true ++ [32, 125, 10])
/-- The text of a fact. -/
def factT (f : S52) : List UInt8 := [102, 97, 99, 116, 32] ++ f.f0.data.toList ++ [32, 123, 32] ++ txt f.f1 true ++ [32, 125, 10]
def catT {α : Type} (f : α → List UInt8) : List α → List UInt8
  | [] => []
  | x :: r => f x ++ catT f r
/-- The text of a specification. -/
def specT (x : SpD) : List UInt8 := catT sortT x.so ++ catT (fldT x.so) x.fi ++ catT (predT x.so) x.pr ++ catT factT x.fa
theorem catT_step {α : Type} (f : α → List UInt8) (z : α) (xs : List α) (k : Nat) (pre : List UInt8) (h : catT f xs = pre ++ catT f (xs.drop k)) (hk : k < xs.length) :
    catT f xs = (pre ++ f (xs.getD k z)) ++ catT f (xs.drop (k + 1)) := by
  rw [h, drop_get z xs k hk, catT]; simp
/-- The numbers of a specification are machine numbers, its bodies have a text. -/
structure SpOK (x : SpD) : Prop where
  fi : ∀ f ∈ x.fi, ∀ i ∈ f.f1, -9223372036854775808 ≤ i ∧ i ≤ 9223372036854775807
  pr : ∀ p ∈ x.pr, ∀ q ∈ p.f1, -9223372036854775808 ≤ q.f1 ∧ q.f1 ≤ 9223372036854775807
  pb : ∀ p ∈ x.pr, numOK p.f2 ∧ txt p.f2 true ≠ []
  fb : ∀ p ∈ x.fa, numOK p.f1 ∧ txt p.f1 true ≠ []
/-- What stands in memory while Spec writes. -/
structure Sp (x : SpD) (A0 A1 A2 A3 : Option Addr) (c0 c1 c2 c3 : Nat) (w0 : World) (B b m2 m1 g gp gs : Nat) (bs : List UInt8) (w : World) : Prop where
  blk : w.heap[g]? = some (.cells #[.slice A0 x.so.length c0, .slice A1 x.fi.length c1, .slice A2 x.pr.length c2, .slice A3 x.fa.length c3] 30 (0, 0))
  ptr : w.heap[gp]? = some (.cells #[.pointer (some ⟨b, 0, none⟩)] 65 (0, 0))
  fn : w.heap[gs]? = some (.cells #[.func (.func 46) #[] #[.pointer (some ⟨g, 0, none⟩)]] 80 (0, 0))
  gb : g ≠ b ∧ gp ≠ b ∧ gs ≠ b
  own : IsP B b m2 m1 bs w
  nil : bs = [] → ∃ p, IsPa B b m2 m1 p (.slice none 0 0) [] w
  low : Below w0.heap.size w0 w
  base : w0.heap.size ≤ B
theorem app_ne {a b : List UInt8} (h : 0 < b.length) : a ++ b ≠ [] := fun e => by have := congrArg List.length e; simp at this; rw [this.2] at h; cases h
section
variable {x : SpD} {A0 A1 A2 A3 : Option Addr} {c0 c1 c2 c3 : Nat} {w0 w w1 w2 : World} {B b m2 m1 g gp gs : Nat} {bs bs' : List UInt8}
theorem Sp.env (h : Sp x A0 A1 A2 A3 c0 c1 c2 c3 w0 B b m2 m1 g gp gs bs w) (hx : k42.C w0 A0 x.so.length x.so) : Env b g gp gs x.so w0 w := ⟨⟨_, _, _, _, _, h.blk, hx⟩, h.ptr, h.fn, h.gb⟩
theorem Sp.wrote (h : Sp x A0 A1 A2 A3 c0 c1 c2 c3 w0 B b m2 m1 g gp gs bs w) (k : Wrote B b m2 m1 bs' w w1) (hb : bs' ≠ []) : Sp x A0 A1 A2 A3 c0 c1 c2 c3 w0 B b m2 m1 g gp gs bs' w1 :=
  ⟨k.blk h.blk h.gb.1 (by decide), k.blk h.ptr h.gb.2.1 (by decide), k.blk h.fn h.gb.2.2 (by decide), h.gb, k.1, fun e => absurd e hb, k.from_ h.low h.base, h.base⟩
theorem Sp.sz (h : Sp x A0 A1 A2 A3 c0 c1 c2 c3 w0 B b m2 m1 g gp gs bs w) : B ≤ w.heap.size := by have := h.own.low; have := h.own.lt; omega
theorem Sp.below (h : Sp x A0 A1 A2 A3 c0 c1 c2 c3 w0 B b m2 m1 g gp gs bs w) (k : Below w.heap.size w w1) : Sp x A0 A1 A2 A3 c0 c1 c2 c3 w0 B b m2 m1 g gp gs bs w1 :=
  ⟨blk_below h.blk k, blk_below h.ptr k, blk_below h.fn k, h.gb, h.own.below k, fun e => let ⟨p, q⟩ := h.nil e; ⟨p, q.below k⟩, below_step h.low k, h.base⟩
end
set_option maxHeartbeats 4000000 in
set_option maxRecDepth 100000 in
theorem spec_walk (x : SpD) (hn : SpOK x) (w : World) (cs : List Value) (hx : SpK w x cs) (ht : Tab w) (hlen : (specT x).length ≤ most) :
    Calls Tryd.prog 16 #[.agg cs.toArray] w fun e w' => e = .returned (.string ⟨(specT x).toArray⟩) ∧ Below w.heap.size w w' := by
  obtain ⟨A0, A1, A2, A3, c0, c1, c2, c3, rfl, x0, x1, x2, x3⟩ := hx
  have X0 := Aside0.mk x0
  have X1 := Aside0.mk x1
  have X2 := Aside0.mk x2
  have X3 := Aside0.mk x3
  have HN := Aside0.mk hn
  have HT := Aside0.mk ht
  have HL := Aside0.mk hlen
  have hm0 := row_len x0
  have hm1 := row_len x1
  have hm2 := row_len x2
  have hm3 := row_len x3
  have hu30 := Tryd.underlying30
  have hu42 := Tryd.underlying42
  have hu45 := Tryd.underlying45
  have hu50 := Tryd.underlying50
  have hu52 := Tryd.underlying52
  have hu24 := Tryd.underlying24
  clear x0 x1 x2 x3 hn ht hlen
  go_enter Tryd.func16, Tryd.ntmps16
  go_wp2_with fail
  have hb0 : Below w.heap.size w (w.alloc (.cells #[.slice A0 x.so.length c0, .slice A1 x.fi.length c1, .slice A2 x.pr.length c2, .slice A3 x.fa.length c3] 30)) := below_alloc (Below.refl _ _) _
  have hbk0 := blk_new w (.cells #[.slice A0 x.so.length c0, .slice A1 x.fi.length c1, .slice A2 x.pr.length c2, .slice A3 x.fa.length c3] 30)
  refine (newp_walk _).mono ?_
  rintro e w1 ⟨b, m2, m1, rfl, hP, hb1⟩
  have hbk1 := blk_below hbk0 hb1
  have hlt := hP.lt
  have hlow := hP.low
  have HSP : Aside0 (Sp x A0 A1 A2 A3 c0 c1 c2 c3 w w.heap.size b m2 m1 w.heap.size w1.heap.size (w1.heap.size + 1) [] ((w1.alloc (.cells #[.pointer (some ⟨b, 0, none⟩)] 65)).alloc (.cells #[.func (.func 46) #[] #[.pointer (some ⟨w.heap.size, 0, none⟩)]] 80))) := ⟨by
    have hl : w.heap.size < b := by simp at hlow; omega
    have hba : Below w1.heap.size w1 ((w1.alloc (.cells #[.pointer (some ⟨b, 0, none⟩)] 65)).alloc (.cells #[.func (.func 46) #[] #[.pointer (some ⟨w.heap.size, 0, none⟩)]] 80)) := below_alloc (below_alloc (Below.refl _ _) _) _
    have hP2 : IsPa w.heap.size b m2 m1 none (.slice none 0 0) [] w1 := ⟨by omega, hP.blk, hP.self, World.ownsRow_nil _ _ _ _, hP.two, hP.one⟩
    exact ⟨blk_below hbk1 hba, blk_alloc (blk_new _ _) _, blk_two _ _ _, ⟨by omega, by omega, by omega⟩, ⟨_, _, hP2.below hba⟩, fun _ => ⟨_, hP2.below hba⟩, below_step (below_step hb0 hb1) hba, Nat.le_refl _⟩⟩
  clear hb1 hbk0 hb0 hP hbk1 hlow hlt
  have z0 := blk_cell HSP.out.blk 0
  go_wp2_with fail
  clear z0
  go_loopw [18] (fun v wr => ∃ k : Nat, k ≤ x.so.length ∧ v = .int .i64 k ∧ Aside0 (∃ pre, catT sortT x.so = pre ++ catT sortT (x.so.drop k) ∧ Sp x A0 A1 A2 A3 c0 c1 c2 c3 w w.heap.size b m2 m1 w.heap.size w1.heap.size (w1.heap.size + 1) pre wr)) (fun v _ => x.so.length - (intOf v).toNat)
  case atStart => exact ⟨0, Nat.zero_le _, rfl, ⟨[], by simp, HSP.out⟩⟩
  case round =>
    clear HSP
    obtain ⟨k, hk, rfl, ⟨pre, hpre, hwr⟩⟩ := hrel
    have HPRE := Aside0.mk hpre
    have HSP := Aside0.mk hwr
    clear hpre hwr
    by_cases hlt2 : k < x.so.length
    · obtain ⟨ad, e1, g0, g1⟩ := at_T42 X0.out k (by omega) (by omega)
      cases e1
      simp only [Int.toNat_natCast] at g0 g1
      replace g0 := pw_cell_below HSP.out.low g0
      replace g1 := pw_cell_below HSP.out.low g1
      change _ = some (Value.string (x.so.getD k z42).f0) at g0
      change _ = some (Value.bool (x.so.getD k z42).f1) at g1
      have hs1 := catT_step _ z42 x.so k pre HPRE.out hlt2
      have hl3 : pre.length + (sortT (x.so.getD k z42)).length ≤ most := by
        have := HL.out
        unfold specT at this
        rw [hs1] at this
        simp only [List.length_append] at this ⊢
        omega
      generalize x.so.getD k z42 = u at *
      have hl4 : pre.length + (5 + u.f0.size + (if u.f1 then [32, 111, 114, 100, 101, 114, 101, 100] else ([] : List UInt8)).length + 2) ≤ most := by
        unfold sortT at hl3
        simp only [List.length_append, data_length, List.length_cons, List.length_nil] at hl3 ⊢; omega
      have HS1 := Aside0.mk hs1
      have HL3 := Aside0.mk hl4
      have hz1 : ¬ 9223372036854775807 < 5 + u.f0.size := by unfold most at hl4; omega
      clear hs1 hl3 hl4
      go_wp2_with fail
      have hbsz := HSP.out.own.lt
      have HSPa := Aside0.mk (HSP.out.below (below_alloc (Below.refl _ _) (.cells #[.string u.f0, .bool u.f1] 42)))
      have hbk := blk_new wr (.cells #[.string u.f0, .bool u.f1] 42)
      clear g0 g1 HSP
      obtain ⟨C, hCe⟩ : ∃ C : World → Prop, C = fun W => Below (wr.alloc (.cells #[.string u.f0, .bool u.f1] 42)).heap.size (wr.alloc (.cells #[.string u.f0, .bool u.f1] 42)) W := ⟨_, rfl⟩
      have HC := Aside0.mk hCe
      clear hCe
      have q0 : ∀ W, C W → W.cell? ⟨w1.heap.size, 0, none⟩ = some (.pointer (some ⟨b, 0, none⟩)) := fun W hW => by rw [HC.out] at hW; exact blk_cell (HSPa.out.below hW).ptr 0
      have r0 : ∀ W, C W → W.cell? ⟨wr.heap.size, 0, none⟩ = some (.string u.f0) := fun W hW => by rw [HC.out] at hW; exact blk_cell (blk_below hbk hW) 0
      refine wp_quiet_tail C 6 (by kernel_rfl) (by kernel_rfl) (by rw [HC.out]; exact below_drew1 (Below.refl _ _)) ?_
      simp only [List.take_succ_cons, List.take_zero, List.drop_succ_cons, List.drop_zero]
      iterate 6
        refine q_ex rfl ?_
        apply Exists.intro
        refine ⟨fun W hW => ?_, ?_⟩
        · have p0 := q0 W hW
          have s0 := r0 W hW
          go_simp
          try rfl
        simp only [Act.put, List.setIfInBounds_toArray, List.set_cons_zero, List.set_cons_succ]
      intro W hW
      have HW := Aside0.mk (show Below (wr.alloc (.cells #[.string u.f0, .bool u.f1] 42)).heap.size (wr.alloc (.cells #[.string u.f0, .bool u.f1] 42)) W by rw [HC.out] at hW; exact hW)
      have hbkW := blk_below hbk HW.out
      have HSPW := Aside0.mk (HSPa.out.below HW.out)
      clear q0 r0 hW HC hbk
      go_wp2_with fail
      refine (writeString_walk _ b m2 m1 _ _ W HSPW.out.own ?l1 HSPW.out.sz).mono ?_
      case l1 => have hl := HL3.out; rw [ByteArray.size_append]; unfold most at hl; show _ + (5 + _) ≤ _; omega
      rintro e w2 ⟨rfl, hw⟩
      have hbkw2 := hw.blk hbkW (by omega) (by decide)
      have HSPw2 := Aside0.mk (HSPW.out.wrote hw (app_ne (by rw [data_length, ByteArray.size_append]; show 0 < 5 + _; omega)))
      clear hw hbkW HSPW
      have zp := blk_cell HSPw2.out.ptr 0
      have ze := blk_cell hbkw2 1
      cases hf : u.f1
      · rw [hf] at ze HL3 hbkw2
        go_wp2_with fail
        refine (writeString_walk _ b m2 m1 _ _ w2 HSPw2.out.own ?l2 HSPw2.out.sz).mono ?_
        case l2 => have hl := HL3.out; rw [List.length_append, data_length, ByteArray.size_append]; unfold most at hl; show _ + (5 + _) + 2 ≤ _; omega
        rintro e w4 ⟨rfl, hw⟩
        have hbkw4 := hw.blk hbkw2 (by omega) (by decide)
        have HSPw4 := Aside0.mk (HSPw2.out.wrote hw (app_ne (by decide)))
        clear hw hbkw2 HSPw2
        clear zp ze hbkw4
        go_wp2
        go_roundw
        case rel => exact ⟨k + 1, by omega, by go_num, ⟨⟨_, HS1.out, by have := HSPw4.out; simp [ByteArray.data_append, sortT, hf] at this ⊢; exact this⟩⟩⟩
        case measure => simp [intOf]; omega
      · rw [hf] at ze HL3 hbkw2
        go_wp2_with fail
        refine (writeString_walk _ b m2 m1 _ _ w2 HSPw2.out.own ?l3 HSPw2.out.sz).mono ?_
        case l3 => have hl := HL3.out; rw [List.length_append, data_length, ByteArray.size_append]; unfold most at hl; simp only [if_true, List.length_cons, List.length_nil] at hl; show _ + (5 + _) + 8 ≤ _; omega
        rintro e w3 ⟨rfl, hw⟩
        have hbkw3 := hw.blk hbkw2 (by omega) (by decide)
        have HSPw3 := Aside0.mk (HSPw2.out.wrote hw (app_ne (by decide)))
        clear hw hbkw2 HSPw2
        clear zp ze
        have zp := blk_cell HSPw3.out.ptr 0
        go_wp2_with fail
        refine (writeString_walk _ b m2 m1 _ _ w3 HSPw3.out.own ?l4 HSPw3.out.sz).mono ?_
        case l4 => have hl := HL3.out; rw [List.length_append, List.length_append, data_length, ByteArray.size_append]; unfold most at hl; simp only [if_true, List.length_cons, List.length_nil] at hl; show _ + (5 + _) + 8 + 2 ≤ _; omega
        rintro e w4 ⟨rfl, hw⟩
        have hbkw4 := hw.blk hbkw3 (by omega) (by decide)
        have HSPw4 := Aside0.mk (HSPw3.out.wrote hw (app_ne (by decide)))
        clear hw hbkw3 HSPw3
        clear zp hbkw4
        go_wp2
        go_roundw
        case rel => exact ⟨k + 1, by omega, by go_num, ⟨⟨_, HS1.out, by have := HSPw4.out; simp [ByteArray.data_append, sortT, hf] at this ⊢; exact this⟩⟩⟩
        case measure => simp [intOf]; omega
    · have hke : k = x.so.length := by omega
      have HE : Aside0 (catT sortT x.so = pre) := ⟨by have := HPRE.out; rw [this, List.drop_of_length_le (by omega)]; simp [catT]⟩
      clear HPRE hke
      have z0 := blk_cell HSP.out.blk 1
      go_wp2_with fail
      clear z0
      have HSQ := HSP
      have HPE := HE
      clear HSP HE
      go_loopw [43] (fun v wr => ∃ k : Nat, k ≤ x.fi.length ∧ v = .int .i64 k ∧ Aside0 (∃ pre, catT (fldT x.so) x.fi = pre ++ catT (fldT x.so) (x.fi.drop k) ∧ Sp x A0 A1 A2 A3 c0 c1 c2 c3 w w.heap.size b m2 m1 w.heap.size w1.heap.size (w1.heap.size + 1) (catT sortT x.so ++ pre) wr)) (fun v _ => x.fi.length - (intOf v).toNat)
      case atStart => exact ⟨0, Nat.zero_le _, rfl, ⟨[], by simp, by rw [HPE.out]; simpa using HSQ.out⟩⟩
      case round =>
        clear HSQ HPE hlt2
        obtain ⟨k, hk, rfl, ⟨pre, hpre, hwr⟩⟩ := hrel
        have HPRE := Aside0.mk hpre
        have HSP := Aside0.mk hwr
        clear hpre hwr
        by_cases hlt2 : k < x.fi.length
        · obtain ⟨ad, A5, c5, e1, g0, g1, g2, _, gs⟩ := at_T45 X1.out k (by omega) (by omega)
          cases e1
          simp only [Int.toNat_natCast] at g0 g1 g2
          replace g0 := pw_cell_below HSP.out.low g0
          replace g1 := pw_cell_below HSP.out.low g1
          replace g2 := pw_cell_below HSP.out.low g2
          change _ = some (Value.string (x.fi.getD k z45).f0) at g0
          change _ = some (Value.slice A5 (x.fi.getD k z45).f1.length c5) at g1
          change _ = some (Value.bool (x.fi.getD k z45).f2) at g2
          change (Kd.int .i64).C w A5 (x.fi.getD k z45).f1.length (x.fi.getD k z45).f1 at gs
          have GS := Aside0.mk gs
          have HU := Aside0.mk (HN.out.fi _ (mem_get z45 x.fi k hlt2))
          have hs1 := catT_step _ z45 x.fi k pre HPRE.out hlt2
          have hl3 : (catT sortT x.so).length + (pre.length + (fldT x.so (x.fi.getD k z45)).length) ≤ most := by
            have := HL.out
            unfold specT at this
            rw [hs1] at this
            simp only [List.length_append] at this ⊢
            omega
          clear gs
          generalize x.fi.getD k z45 = u at *
          have hl4 : (catT sortT x.so ++ pre).length + ((if u.f2 then [118, 97, 114, 32] else ([] : List UInt8)).length + (6 + u.f0.size + 2) + (sepT (fun i => (sortName x.so i).data.toList) [32, 45, 62, 32] u.f1 true).length + 2) ≤ most := by
            unfold fldT at hl3
            simp only [List.length_append, data_length, List.length_cons, List.length_nil] at hl3 ⊢; omega
          have HS1 := Aside0.mk hs1
          have HL3 := Aside0.mk hl4
          have hz1 : ¬ 9223372036854775807 < 6 + u.f0.size := by unfold most at hl4; omega
          have hz2 : ¬ 9223372036854775807 < ((⟨#[102, 105, 101, 108, 100, 32]⟩ : ByteArray) ++ u.f0).size + 2 := by rw [ByteArray.size_append]; show ¬ _ < 6 + _ + 2; unfold most at hl4; omega
          have hz3 : ¬ 9223372036854775807 < 6 + u.f0.size + 2 := by unfold most at hl4; omega
          have HZ := Aside0.mk (show ((⟨#[102, 105, 101, 108, 100, 32]⟩ : ByteArray) ++ u.f0 ++ (⟨#[58, 32]⟩ : ByteArray)).size = 6 + u.f0.size + 2 by rw [ByteArray.size_append, ByteArray.size_append]; rfl)
          obtain ⟨bs, hbs⟩ : ∃ bs, bs = catT sortT x.so ++ pre := ⟨_, rfl⟩
          have HBS := Aside0.mk hbs
          rw [← hbs] at HSP HL3
          clear hs1 hl3 hl4 hbs
          have hbsz := HSP.out.own.lt
          cases hf : u.f2
          · rw [hf] at g2 HL3
            have HSPa := Aside0.mk (HSP.out.below (below_alloc (Below.refl _ _) (.cells #[.string u.f0, .slice A5 u.f1.length c5, .bool false] 45)))
            have hbk := blk_new wr (.cells #[.string u.f0, .slice A5 u.f1.length c5, .bool false] 45)
            clear HSP
            have zp := blk_cell HSPa.out.ptr 0
            go_wp2_with fail
            clear g0 g1 g2 zp
            obtain ⟨C, hCe⟩ : ∃ C : World → Prop, C = fun W => Below (wr.alloc (.cells #[.string u.f0, .slice A5 u.f1.length c5, .bool false] 45)).heap.size (wr.alloc (.cells #[.string u.f0, .slice A5 u.f1.length c5, .bool false] 45)) W := ⟨_, rfl⟩
            have HC := Aside0.mk hCe
            clear hCe
            have q0 : ∀ W, C W → W.cell? ⟨w1.heap.size, 0, none⟩ = some (.pointer (some ⟨b, 0, none⟩)) := fun W hW => by rw [HC.out] at hW; exact blk_cell (HSPa.out.below hW).ptr 0
            have r0 : ∀ W, C W → W.cell? ⟨wr.heap.size, 0, none⟩ = some (.string u.f0) := fun W hW => by rw [HC.out] at hW; exact blk_cell (blk_below hbk hW) 0
            refine wp_quiet_tail C 7 (by kernel_rfl) (by kernel_rfl) (by rw [HC.out]; exact below_drew1 (Below.refl _ _)) ?_
            simp only [List.take_succ_cons, List.take_zero, List.drop_succ_cons, List.drop_zero]
            iterate 7
              refine q_ex rfl ?_
              apply Exists.intro
              refine ⟨fun W hW => ?_, ?_⟩
              · have p0 := q0 W hW
                have s0 := r0 W hW
                go_simp
                try rfl
              simp only [Act.put, List.setIfInBounds_toArray, List.set_cons_zero, List.set_cons_succ]
            intro W hW
            have HW := Aside0.mk (show Below (wr.alloc (.cells #[.string u.f0, .slice A5 u.f1.length c5, .bool false] 45)).heap.size (wr.alloc (.cells #[.string u.f0, .slice A5 u.f1.length c5, .bool false] 45)) W by rw [HC.out] at hW; exact hW)
            have hbkW := blk_below hbk HW.out
            have HSPW := Aside0.mk (HSPa.out.below HW.out)
            clear q0 r0 hW HC hbk
            go_wp2_with fail
            refine (writeString_walk _ b m2 m1 _ _ W HSPW.out.own ?l104 HSPW.out.sz).mono ?_
            case l104 => have hl := HL3.out; have hz := HZ.out; rw [hz]; unfold most at hl; simp only [Bool.false_eq_true, if_false, if_true, List.length_cons, List.length_nil] at hl; omega
            rintro e w2 ⟨rfl, hw⟩
            have hbkw2 := hw.blk hbkW (by omega) (by decide)
            have HSPw2 := Aside0.mk (HSPW.out.wrote hw (app_ne (by have hz := HZ.out; rw [data_length, hz]; omega)))
            clear hw hbkW HSPW
            have zp := blk_cell HSPw2.out.ptr 0
            have ze := blk_cell hbkw2 1
            go_wp2_with fail
            refine (listS_walk u.f1 HU.out b w.heap.size w1.heap.size (w1.heap.size + 1) x.so w w2 w.heap.size m2 m1 _ A5 c5 (Kd.C_below GS.out HSPw2.out.low) (Nat.le_refl _) (HSPw2.out.env X0.out) HSPw2.out.low HSPw2.out.base GS.out HSPw2.out.own ?jfalse).mono ?_
            case jfalse => have hl := HL3.out; have hz := HZ.out; rw [List.length_append, data_length, hz]; simp only [Bool.false_eq_true, if_false, if_true, List.length_cons, List.length_nil] at hl; show _ + _ + _ ≤ _; omega
            rintro e w3 ⟨rfl, hw⟩
            have hbkw3 := hw.blk hbkw2 (by omega) (by decide)
            have HSPw3 := Aside0.mk (HSPw2.out.wrote hw (fun e => by have hz := HZ.out; have := congrArg List.length e; simp only [List.length_append, data_length, hz, List.length_nil] at this; omega))
            clear hw hbkw2 HSPw2 zp ze
            have zp := blk_cell HSPw3.out.ptr 0
            go_wp2_with fail
            refine (writeString_walk _ b m2 m1 _ _ w3 HSPw3.out.own ?l105 HSPw3.out.sz).mono ?_
            case l105 => have hl := HL3.out; have hz := HZ.out; rw [List.length_append, List.length_append, data_length, hz]; unfold most at hl; simp only [Bool.false_eq_true, if_false, if_true, List.length_cons, List.length_nil] at hl; show _ + _ + _ + 2 ≤ _; omega
            rintro e w4 ⟨rfl, hw⟩
            have hbkw4 := hw.blk hbkw3 (by omega) (by decide)
            have HSPw4 := Aside0.mk (HSPw3.out.wrote hw (app_ne (by decide)))
            clear hw hbkw3 HSPw3
            clear zp hbkw4
            go_wp2
            go_roundw
            case rel => exact ⟨k + 1, by omega, by go_num, ⟨⟨_, HS1.out, by have := HSPw4.out; rw [HBS.out] at this; simp [ByteArray.data_append, fldT, hf] at this ⊢; exact this⟩⟩⟩
            case measure => simp [intOf]; omega
          · rw [hf] at g2 HL3
            have HSPa := Aside0.mk (HSP.out.below (below_alloc (Below.refl _ _) (.cells #[.string u.f0, .slice A5 u.f1.length c5, .bool true] 45)))
            have hbk := blk_new wr (.cells #[.string u.f0, .slice A5 u.f1.length c5, .bool true] 45)
            clear HSP
            have zp := blk_cell HSPa.out.ptr 0
            go_wp2_with fail
            clear g0 g1 g2 zp
            have HSPv := HSPa
            have hbkv := hbk
            clear HSPa hbk
            refine (writeString_walk _ b m2 m1 bs _ _ HSPv.out.own ?l106 HSPv.out.sz).mono ?_
            case l106 => have hl := HL3.out; unfold most at hl; simp only [Bool.false_eq_true, if_false, if_true, List.length_cons, List.length_nil] at hl; show _ + 4 ≤ _; omega
            rintro e v1 ⟨rfl, hw⟩
            have hbkv1 := hw.blk hbkv (by omega) (by decide)
            have HSPv1 := Aside0.mk (HSPv.out.wrote hw (app_ne (by decide)))
            clear hw hbkv HSPv
            go_wp2_with fail
            obtain ⟨C, hCe⟩ : ∃ C : World → Prop, C = fun W => Below (v1).heap.size (v1) W := ⟨_, rfl⟩
            have HC := Aside0.mk hCe
            clear hCe
            have q0 : ∀ W, C W → W.cell? ⟨w1.heap.size, 0, none⟩ = some (.pointer (some ⟨b, 0, none⟩)) := fun W hW => by rw [HC.out] at hW; exact blk_cell (HSPv1.out.below hW).ptr 0
            have r0 : ∀ W, C W → W.cell? ⟨wr.heap.size, 0, none⟩ = some (.string u.f0) := fun W hW => by rw [HC.out] at hW; exact blk_cell (blk_below hbkv1 hW) 0
            refine wp_quiet_tail C 7 (by kernel_rfl) (by kernel_rfl) (by rw [HC.out]; exact below_drew1 (Below.refl _ _)) ?_
            simp only [List.take_succ_cons, List.take_zero, List.drop_succ_cons, List.drop_zero]
            iterate 7
              refine q_ex rfl ?_
              apply Exists.intro
              refine ⟨fun W hW => ?_, ?_⟩
              · have p0 := q0 W hW
                have s0 := r0 W hW
                go_simp
                try rfl
              simp only [Act.put, List.setIfInBounds_toArray, List.set_cons_zero, List.set_cons_succ]
            intro W hW
            have HW := Aside0.mk (show Below (v1).heap.size (v1) W by rw [HC.out] at hW; exact hW)
            have hbkW := blk_below hbkv1 HW.out
            have HSPW := Aside0.mk (HSPv1.out.below HW.out)
            clear q0 r0 hW HC hbkv1
            go_wp2_with fail
            refine (writeString_walk _ b m2 m1 _ _ W HSPW.out.own ?l107 HSPW.out.sz).mono ?_
            case l107 => have hl := HL3.out; have hz := HZ.out; rw [hz]; rw [List.length_append]; unfold most at hl; simp only [Bool.false_eq_true, if_false, if_true, List.length_cons, List.length_nil] at hl; show _ + 4 + _ ≤ _; omega
            rintro e w2 ⟨rfl, hw⟩
            have hbkw2 := hw.blk hbkW (by omega) (by decide)
            have HSPw2 := Aside0.mk (HSPW.out.wrote hw (app_ne (by have hz := HZ.out; rw [data_length, hz]; omega)))
            clear hw hbkW HSPW
            have zp := blk_cell HSPw2.out.ptr 0
            have ze := blk_cell hbkw2 1
            go_wp2_with fail
            refine (listS_walk u.f1 HU.out b w.heap.size w1.heap.size (w1.heap.size + 1) x.so w w2 w.heap.size m2 m1 _ A5 c5 (Kd.C_below GS.out HSPw2.out.low) (Nat.le_refl _) (HSPw2.out.env X0.out) HSPw2.out.low HSPw2.out.base GS.out HSPw2.out.own ?jtrue).mono ?_
            case jtrue => have hl := HL3.out; have hz := HZ.out; rw [List.length_append, List.length_append, data_length, hz]; simp only [Bool.false_eq_true, if_false, if_true, List.length_cons, List.length_nil] at hl; show _ + 4 + _ + _ ≤ _; omega
            rintro e w3 ⟨rfl, hw⟩
            have hbkw3 := hw.blk hbkw2 (by omega) (by decide)
            have HSPw3 := Aside0.mk (HSPw2.out.wrote hw (fun e => by have hz := HZ.out; have := congrArg List.length e; simp only [List.length_append, data_length, hz, List.length_nil] at this; omega))
            clear hw hbkw2 HSPw2 zp ze
            have zp := blk_cell HSPw3.out.ptr 0
            go_wp2_with fail
            refine (writeString_walk _ b m2 m1 _ _ w3 HSPw3.out.own ?l108 HSPw3.out.sz).mono ?_
            case l108 => have hl := HL3.out; have hz := HZ.out; rw [List.length_append, List.length_append, List.length_append, data_length, hz]; unfold most at hl; simp only [Bool.false_eq_true, if_false, if_true, List.length_cons, List.length_nil] at hl; show _ + 4 + _ + _ + 2 ≤ _; omega
            rintro e w4 ⟨rfl, hw⟩
            have hbkw4 := hw.blk hbkw3 (by omega) (by decide)
            have HSPw4 := Aside0.mk (HSPw3.out.wrote hw (app_ne (by decide)))
            clear hw hbkw3 HSPw3
            clear zp hbkw4
            go_wp2
            go_roundw
            case rel => exact ⟨k + 1, by omega, by go_num, ⟨⟨_, HS1.out, by have := HSPw4.out; rw [HBS.out] at this; simp [ByteArray.data_append, fldT, hf] at this ⊢; exact this⟩⟩⟩
            case measure => simp [intOf]; omega
        · have hke : k = x.fi.length := by omega
          have HE : Aside0 (catT (fldT x.so) x.fi = pre) := ⟨by have := HPRE.out; rw [this, List.drop_of_length_le (by omega)]; simp [catT]⟩
          clear HPRE hke
          have z0 := blk_cell HSP.out.blk 2
          go_wp2_with fail
          clear z0
          have HSQ := HSP
          have HPE := HE
          clear HSP HE
          go_loopw [74] (fun v wr => ∃ k : Nat, k ≤ x.pr.length ∧ v = .int .i64 k ∧ Aside0 (∃ pre, catT (predT x.so) x.pr = pre ++ catT (predT x.so) (x.pr.drop k) ∧ Sp x A0 A1 A2 A3 c0 c1 c2 c3 w w.heap.size b m2 m1 w.heap.size w1.heap.size (w1.heap.size + 1) (catT sortT x.so ++ catT (fldT x.so) x.fi ++ pre) wr)) (fun v _ => x.pr.length - (intOf v).toNat)
          case atStart => exact ⟨0, Nat.zero_le _, rfl, ⟨[], by simp, by rw [HPE.out]; simpa using HSQ.out⟩⟩
          case round =>
            clear HSQ HPE hlt2
            obtain ⟨k, hk, rfl, ⟨pre, hpre, hwr⟩⟩ := hrel
            have HPRE := Aside0.mk hpre
            have HSP := Aside0.mk hwr
            clear hpre hwr
            by_cases hlt2 : k < x.pr.length
            · obtain ⟨ad, A4, c4, A5, c5, e1, g0, g1, g2, g3, g4, g5, g6, _, gs, gl, gc⟩ := at_T50 X2.out k (by omega) (by omega)
              cases e1
              simp only [Int.toNat_natCast] at g0 g1 g2 g3 g4 g5 g6
              replace g0 := pw_cell_below HSP.out.low g0
              replace g1 := pw_cell_below HSP.out.low g1
              replace g2 := pw_cell_below HSP.out.low g2
              replace g3 := pw_cell_below HSP.out.low g3
              replace g4 := pw_cell_below HSP.out.low g4
              replace g5 := pw_cell_below HSP.out.low g5
              replace g6 := pw_cell_below HSP.out.low g6
              change _ = some (Value.string (x.pr.getD k z50).f0) at g0
              change _ = some (Value.slice A4 (x.pr.getD k z50).f1.length c4) at g1
              change _ = some (Value.int .i64 (x.pr.getD k z50).f2.f0) at g2
              change _ = some (Value.string (x.pr.getD k z50).f2.f1) at g3
              change _ = some (Value.int .i64 (x.pr.getD k z50).f2.f2) at g4
              change _ = some (Value.slice A5 (x.pr.getD k z50).f2.f3.length c5) at g5
              change _ = some (Value.int .i64 (x.pr.getD k z50).f2.f4) at g6
              change k47.C w A4 (x.pr.getD k z50).f1.length (x.pr.getD k z50).f1 at gs
              change (x.pr.getD k z50).f2.f3.length ≤ c5 at gl
              change k24.C w A5 (x.pr.getD k z50).f2.f3.length (x.pr.getD k z50).f2.f3 at gc
              have GS := Aside0.mk gs
              have GC := Aside0.mk gc
              have HP := Aside0.mk (HN.out.pr _ (mem_get z50 x.pr k hlt2))
              have HU := Aside0.mk (HN.out.pb _ (mem_get z50 x.pr k hlt2))
              have hs1 := catT_step _ z50 x.pr k pre HPRE.out hlt2
              have hl3 : (catT sortT x.so ++ catT (fldT x.so) x.fi).length + (pre.length + (predT x.so (x.pr.getD k z50)).length) ≤ most := by
                have := HL.out
                unfold specT at this
                rw [hs1] at this
                simp only [List.length_append] at this ⊢
                omega
              clear gs gc
              generalize x.pr.getD k z50 = u at *
              obtain ⟨tb, htb⟩ : ∃ tb : ByteArray, tb = ⟨(txt u.f2 true).toArray⟩ := ⟨_, rfl⟩
              have htz : tb.size = (txt u.f2 true).length := by rw [htb, toL_size]
              have HTB := Aside0.mk htb
              have hl4 : (catT sortT x.so ++ catT (fldT x.so) x.fi ++ pre).length + ((5 + u.f0.size + 1) + (sepT (parT x.so) [44, 32] u.f1 true).length + (4 + tb.size + 3)) ≤ most := by
                unfold predT at hl3
                simp only [List.length_append, data_length, List.length_cons, List.length_nil] at hl3 ⊢; omega
              have HLT := Aside0.mk (show (txt u.f2 true).length ≤ most by omega)
              have HS1 := Aside0.mk hs1
              have HL3 := Aside0.mk hl4
              have hz1 : ¬ 9223372036854775807 < 5 + u.f0.size := by unfold most at hl4; omega
              have hz2 : ¬ 9223372036854775807 < ((⟨#[112, 114, 101, 100, 32]⟩ : ByteArray) ++ u.f0).size + 1 := by rw [ByteArray.size_append]; show ¬ _ < 5 + _ + 1; unfold most at hl4; omega
              have hz3 : ¬ 9223372036854775807 < 5 + u.f0.size + 1 := by unfold most at hl4; omega
              have hz4 : ¬ 9223372036854775807 < 4 + tb.size := by unfold most at hl4; omega
              have hz5 : ¬ 9223372036854775807 < ((⟨#[93, 32, 123, 32]⟩ : ByteArray) ++ tb).size + 3 := by rw [ByteArray.size_append]; show ¬ _ < 4 + _ + 3; unfold most at hl4; omega
              have hz6 : ¬ 9223372036854775807 < 4 + tb.size + 3 := by unfold most at hl4; omega
              have HZ := Aside0.mk (show ((⟨#[112, 114, 101, 100, 32]⟩ : ByteArray) ++ u.f0 ++ (⟨#[91]⟩ : ByteArray)).size = 5 + u.f0.size + 1 by rw [ByteArray.size_append, ByteArray.size_append]; rfl)
              have HY := Aside0.mk (show ((⟨#[93, 32, 123, 32]⟩ : ByteArray) ++ tb ++ (⟨#[32, 125, 10]⟩ : ByteArray)).size = 4 + tb.size + 3 by rw [ByteArray.size_append, ByteArray.size_append]; rfl)
              obtain ⟨bs, hbs⟩ : ∃ bs, bs = catT sortT x.so ++ catT (fldT x.so) x.fi ++ pre := ⟨_, rfl⟩
              have HBS := Aside0.mk hbs
              rw [← hbs] at HSP HL3
              clear hs1 hl3 hl4 hbs htb htz
              have hbsz := HSP.out.own.lt
              go_wp2_with fail
              have HSPa := Aside0.mk (HSP.out.below (below_alloc (Below.refl _ _) (.cells #[.string u.f0, .slice A4 u.f1.length c4, .int .i64 u.f2.f0, .string u.f2.f1, .int .i64 u.f2.f2, .slice A5 u.f2.f3.length c5, .int .i64 u.f2.f4] 50)))
              have hbk := blk_new wr (.cells #[.string u.f0, .slice A4 u.f1.length c4, .int .i64 u.f2.f0, .string u.f2.f1, .int .i64 u.f2.f2, .slice A5 u.f2.f3.length c5, .int .i64 u.f2.f4] 50)
              clear HSP g0 g1 g2 g3 g4 g5 g6
              obtain ⟨C, hCe⟩ : ∃ C : World → Prop, C = fun W => Below (wr.alloc (.cells #[.string u.f0, .slice A4 u.f1.length c4, .int .i64 u.f2.f0, .string u.f2.f1, .int .i64 u.f2.f2, .slice A5 u.f2.f3.length c5, .int .i64 u.f2.f4] 50)).heap.size (wr.alloc (.cells #[.string u.f0, .slice A4 u.f1.length c4, .int .i64 u.f2.f0, .string u.f2.f1, .int .i64 u.f2.f2, .slice A5 u.f2.f3.length c5, .int .i64 u.f2.f4] 50)) W := ⟨_, rfl⟩
              have HC := Aside0.mk hCe
              clear hCe
              have q0 : ∀ W, C W → W.cell? ⟨w1.heap.size, 0, none⟩ = some (.pointer (some ⟨b, 0, none⟩)) := fun W hW => by rw [HC.out] at hW; exact blk_cell (HSPa.out.below hW).ptr 0
              have r0 : ∀ W, C W → W.cell? ⟨wr.heap.size, 0, none⟩ = some (.string u.f0) := fun W hW => by rw [HC.out] at hW; exact blk_cell (blk_below hbk hW) 0
              refine wp_quiet_tail C 7 (by kernel_rfl) (by kernel_rfl) (by rw [HC.out]; exact below_drew1 (Below.refl _ _)) ?_
              simp only [List.take_succ_cons, List.take_zero, List.drop_succ_cons, List.drop_zero]
              iterate 7
                refine q_ex rfl ?_
                apply Exists.intro
                refine ⟨fun W hW => ?_, ?_⟩
                · have p0 := q0 W hW
                  have s0 := r0 W hW
                  go_simp
                  try rfl
                simp only [Act.put, List.setIfInBounds_toArray, List.set_cons_zero, List.set_cons_succ]
              intro W hW
              have HW := Aside0.mk (show Below (wr.alloc (.cells #[.string u.f0, .slice A4 u.f1.length c4, .int .i64 u.f2.f0, .string u.f2.f1, .int .i64 u.f2.f2, .slice A5 u.f2.f3.length c5, .int .i64 u.f2.f4] 50)).heap.size (wr.alloc (.cells #[.string u.f0, .slice A4 u.f1.length c4, .int .i64 u.f2.f0, .string u.f2.f1, .int .i64 u.f2.f2, .slice A5 u.f2.f3.length c5, .int .i64 u.f2.f4] 50)) W by rw [HC.out] at hW; exact hW)
              have hbkW := blk_below hbk HW.out
              have HSPW := Aside0.mk (HSPa.out.below HW.out)
              clear q0 r0 hW HC hbk
              go_wp2_with fail
              refine (writeString_walk _ b m2 m1 _ _ W HSPW.out.own ?l102 HSPW.out.sz).mono ?_
              case l102 => have hl := HL3.out; have hz := HZ.out; rw [hz]; unfold most at hl; omega
              rintro e w2 ⟨rfl, hw⟩
              have hbkw2 := hw.blk hbkW (by omega) (by decide)
              have HSPw2 := Aside0.mk (HSPW.out.wrote hw (app_ne (by have hz := HZ.out; rw [data_length, hz]; omega)))
              clear hw hbkW HSPW
              have zp := blk_cell HSPw2.out.ptr 0
              have ze := blk_cell hbkw2 1
              go_wp2_with fail
              refine (listP_walk u.f1 HP.out b w.heap.size w1.heap.size (w1.heap.size + 1) x.so w w2 w.heap.size m2 m1 _ A4 c4 (Kd.C_below GS.out HSPw2.out.low) (Nat.le_refl _) (HSPw2.out.env X0.out) HSPw2.out.low HSPw2.out.base GS.out HSPw2.out.own ?jp).mono ?_
              case jp => have hl := HL3.out; have hz := HZ.out; rw [List.length_append, data_length, hz]; omega
              rintro e w3 ⟨rfl, hw⟩
              have hbkw3 := hw.blk hbkw2 (by omega) (by decide)
              have HSPw3 := Aside0.mk (HSPw2.out.wrote hw (fun e => by have hz := HZ.out; have := congrArg List.length e; simp only [List.length_append, data_length, hz, List.length_nil] at this; omega))
              clear hw hbkw2 HSPw2 zp ze
              go_wp2_with fail
              obtain ⟨C, hCe⟩ : ∃ C : World → Prop, C = fun W => Below (w3).heap.size (w3) W := ⟨_, rfl⟩
              have HC := Aside0.mk hCe
              clear hCe
              have q0 : ∀ W, C W → W.cell? ⟨w1.heap.size, 0, none⟩ = some (.pointer (some ⟨b, 0, none⟩)) := fun W hW => by rw [HC.out] at hW; exact blk_cell (HSPw3.out.below hW).ptr 0
              have r0 : ∀ W, C W → W.cell? ⟨wr.heap.size, 2, none⟩ = some (.int .i64 u.f2.f0) := fun W hW => by rw [HC.out] at hW; exact blk_cell (blk_below hbkw3 hW) 2
              have r1 : ∀ W, C W → W.cell? ⟨wr.heap.size, 3, none⟩ = some (.string u.f2.f1) := fun W hW => by rw [HC.out] at hW; exact blk_cell (blk_below hbkw3 hW) 3
              have r2 : ∀ W, C W → W.cell? ⟨wr.heap.size, 4, none⟩ = some (.int .i64 u.f2.f2) := fun W hW => by rw [HC.out] at hW; exact blk_cell (blk_below hbkw3 hW) 4
              have r3 : ∀ W, C W → W.cell? ⟨wr.heap.size, 5, none⟩ = some (.slice A5 u.f2.f3.length c5) := fun W hW => by rw [HC.out] at hW; exact blk_cell (blk_below hbkw3 hW) 5
              have r4 : ∀ W, C W → W.cell? ⟨wr.heap.size, 6, none⟩ = some (.int .i64 u.f2.f4) := fun W hW => by rw [HC.out] at hW; exact blk_cell (blk_below hbkw3 hW) 6
              have hc : ∀ W, C W → Calls Tryd.prog 13 #[.agg #[.int .i64 u.f2.f0, .string u.f2.f1, .int .i64 u.f2.f2, .slice A5 u.f2.f3.length c5, .int .i64 u.f2.f4]] W fun e w' => e = .returned (.string tb) ∧ C w' := fun W hW => by
                rw [HC.out] at hW ⊢
                rw [HTB.out]
                have hlw := below_step HSPw3.out.low hW
                exact (formula_walk u.f2 HU.out.1 W _ (k24_mk W u.f2 gl (Kd.C_below GC.out hlw)) (HT.out.below hlw) HU.out.2 HLT.out).mono fun e w' h => ⟨h.1, below_step hW h.2⟩
              refine wp_quiet_tail C 8 (by kernel_rfl) (by kernel_rfl) (by rw [HC.out]; exact below_drew1 (Below.refl _ _)) ?_
              simp only [List.take_succ_cons, List.take_zero, List.drop_succ_cons, List.drop_zero]
              iterate 5
                refine q_ex rfl ?_
                apply Exists.intro
                refine ⟨fun W hW => ?_, ?_⟩
                · have p0 := q0 W hW
                  have s0 := r0 W hW
                  have s1 := r1 W hW
                  have s2 := r2 W hW
                  have s3 := r3 W hW
                  have s4 := r4 W hW
                  go_simp
                  try rfl
                simp only [Act.put, List.setIfInBounds_toArray, List.set_cons_zero, List.set_cons_succ]
              refine q_call rfl (fun W hW => by go_simp) hc ?_
              simp only [Act.put, List.setIfInBounds_toArray, List.set_cons_zero, List.set_cons_succ]
              iterate 2
                refine q_ex rfl ?_
                apply Exists.intro
                refine ⟨fun W hW => ?_, ?_⟩
                · have p0 := q0 W hW
                  have s0 := r0 W hW
                  have s1 := r1 W hW
                  have s2 := r2 W hW
                  have s3 := r3 W hW
                  have s4 := r4 W hW
                  go_simp
                  try rfl
                simp only [Act.put, List.setIfInBounds_toArray, List.set_cons_zero, List.set_cons_succ]
              intro V hW
              have HW := Aside0.mk (show Below (w3).heap.size (w3) V by rw [HC.out] at hW; exact hW)
              have hbkV := blk_below hbkw3 HW.out
              have HSPV := Aside0.mk (HSPw3.out.below HW.out)
              clear q0 r0 r1 r2 r3 r4 hc hW HC hbkw3
              go_wp2_with fail
              refine (writeString_walk _ b m2 m1 _ _ V HSPV.out.own ?l103 HSPV.out.sz).mono ?_
              case l103 => have hl := HL3.out; have hz := HZ.out; have hy := HY.out; rw [List.length_append, List.length_append, data_length, hz, hy]; unfold most at hl; omega
              rintro e w4 ⟨rfl, hw⟩
              have hbkw4 := hw.blk hbkV (by omega) (by decide)
              have HSPw4 := Aside0.mk (HSPV.out.wrote hw (app_ne (by have hy := HY.out; rw [data_length, hy]; omega)))
              clear hw hbkV HSPV
              clear hbkw4
              go_wp2
              go_roundw
              case rel => exact ⟨k + 1, by omega, by go_num, ⟨⟨_, HS1.out, by have := HSPw4.out; rw [HBS.out, HTB.out] at this; simp [ByteArray.data_append, predT] at this ⊢; exact this⟩⟩⟩
              case measure => simp [intOf]; omega
            · have hke : k = x.pr.length := by omega
              have HE : Aside0 (catT (predT x.so) x.pr = pre) := ⟨by have := HPRE.out; rw [this, List.drop_of_length_le (by omega)]; simp [catT]⟩
              clear HPRE hke
              have z0 := blk_cell HSP.out.blk 3
              go_wp2_with fail
              clear z0
              have HSQ := HSP
              have HPE := HE
              clear HSP HE
              go_loopw [104] (fun v wr => ∃ k : Nat, k ≤ x.fa.length ∧ v = .int .i64 k ∧ Aside0 (∃ pre, catT factT x.fa = pre ++ catT factT (x.fa.drop k) ∧ Sp x A0 A1 A2 A3 c0 c1 c2 c3 w w.heap.size b m2 m1 w.heap.size w1.heap.size (w1.heap.size + 1) (catT sortT x.so ++ catT (fldT x.so) x.fi ++ catT (predT x.so) x.pr ++ pre) wr)) (fun v _ => x.fa.length - (intOf v).toNat)
              case atStart => exact ⟨0, Nat.zero_le _, rfl, ⟨[], by simp, by rw [HPE.out]; simpa using HSQ.out⟩⟩
              case round =>
                clear HSQ HPE hlt2
                obtain ⟨k, hk, rfl, ⟨pre, hpre, hwr⟩⟩ := hrel
                have HPRE := Aside0.mk hpre
                have HSP := Aside0.mk hwr
                clear hpre hwr
                by_cases hlt2 : k < x.fa.length
                · obtain ⟨ad, A5, c5, e1, g0, g1, g2, g3, g4, g5, gl, gc⟩ := at_T52 X3.out k (by omega) (by omega)
                  cases e1
                  simp only [Int.toNat_natCast] at g0 g1 g2 g3 g4 g5
                  replace g0 := pw_cell_below HSP.out.low g0
                  replace g1 := pw_cell_below HSP.out.low g1
                  replace g2 := pw_cell_below HSP.out.low g2
                  replace g3 := pw_cell_below HSP.out.low g3
                  replace g4 := pw_cell_below HSP.out.low g4
                  replace g5 := pw_cell_below HSP.out.low g5
                  change _ = some (Value.string (x.fa.getD k z52).f0) at g0
                  change _ = some (Value.int .i64 (x.fa.getD k z52).f1.f0) at g1
                  change _ = some (Value.string (x.fa.getD k z52).f1.f1) at g2
                  change _ = some (Value.int .i64 (x.fa.getD k z52).f1.f2) at g3
                  change _ = some (Value.slice A5 (x.fa.getD k z52).f1.f3.length c5) at g4
                  change _ = some (Value.int .i64 (x.fa.getD k z52).f1.f4) at g5
                  change (x.fa.getD k z52).f1.f3.length ≤ c5 at gl
                  change k24.C w A5 (x.fa.getD k z52).f1.f3.length (x.fa.getD k z52).f1.f3 at gc
                  have GC := Aside0.mk gc
                  have HU := Aside0.mk (HN.out.fb _ (mem_get z52 x.fa k hlt2))
                  have hs1 := catT_step _ z52 x.fa k pre HPRE.out hlt2
                  have hl3 : (catT sortT x.so ++ catT (fldT x.so) x.fi ++ catT (predT x.so) x.pr).length + (pre.length + (factT (x.fa.getD k z52)).length) ≤ most := by
                    have := HL.out
                    unfold specT at this
                    rw [hs1] at this
                    simp only [List.length_append] at this ⊢
                    omega
                  clear gc
                  generalize x.fa.getD k z52 = u at *
                  obtain ⟨tb, htb⟩ : ∃ tb : ByteArray, tb = ⟨(txt u.f1 true).toArray⟩ := ⟨_, rfl⟩
                  have htz : tb.size = (txt u.f1 true).length := by rw [htb, toL_size]
                  have HTB := Aside0.mk htb
                  have hl4 : (catT sortT x.so ++ catT (fldT x.so) x.fi ++ catT (predT x.so) x.pr ++ pre).length + (5 + u.f0.size + 3 + tb.size + 3) ≤ most := by
                    unfold factT at hl3
                    simp only [List.length_append, data_length, List.length_cons, List.length_nil] at hl3 ⊢; omega
                  have HLT := Aside0.mk (show (txt u.f1 true).length ≤ most by omega)
                  have HS1 := Aside0.mk hs1
                  have HL3 := Aside0.mk hl4
                  have e1 : ((⟨#[102, 97, 99, 116, 32]⟩ : ByteArray) ++ u.f0).size = 5 + u.f0.size := by rw [ByteArray.size_append]; rfl
                  have e2 : ((⟨#[102, 97, 99, 116, 32]⟩ : ByteArray) ++ u.f0 ++ (⟨#[32, 123, 32]⟩ : ByteArray)).size = 5 + u.f0.size + 3 := by rw [ByteArray.size_append, e1]; rfl
                  have e3 : ((⟨#[102, 97, 99, 116, 32]⟩ : ByteArray) ++ u.f0 ++ (⟨#[32, 123, 32]⟩ : ByteArray) ++ tb).size = 5 + u.f0.size + 3 + tb.size := by rw [ByteArray.size_append, e2]
                  have e4 : ((⟨#[102, 97, 99, 116, 32]⟩ : ByteArray) ++ u.f0 ++ (⟨#[32, 123, 32]⟩ : ByteArray) ++ tb ++ (⟨#[32, 125, 10]⟩ : ByteArray)).size = 5 + u.f0.size + 3 + tb.size + 3 := by rw [ByteArray.size_append, e3]; rfl
                  have hz1 : ¬ 9223372036854775807 < 5 + u.f0.size := by unfold most at hl4; omega
                  have hz2 : ¬ 9223372036854775807 < ((⟨#[102, 97, 99, 116, 32]⟩ : ByteArray) ++ u.f0).size + 3 := by rw [e1]; unfold most at hl4; omega
                  have hz3 : ¬ 9223372036854775807 < 5 + u.f0.size + 3 := by unfold most at hl4; omega
                  have hz4 : ¬ 9223372036854775807 < ((⟨#[102, 97, 99, 116, 32]⟩ : ByteArray) ++ u.f0 ++ (⟨#[32, 123, 32]⟩ : ByteArray)).size + tb.size := by rw [e2]; unfold most at hl4; omega
                  have hz5 : ¬ 9223372036854775807 < 5 + u.f0.size + 3 + tb.size := by unfold most at hl4; omega
                  have hz6 : ¬ 9223372036854775807 < ((⟨#[102, 97, 99, 116, 32]⟩ : ByteArray) ++ u.f0 ++ (⟨#[32, 123, 32]⟩ : ByteArray) ++ tb).size + 3 := by rw [e3]; unfold most at hl4; omega
                  have hz7 : ¬ 9223372036854775807 < 5 + u.f0.size + 3 + tb.size + 3 := by unfold most at hl4; omega
                  have HZ := Aside0.mk e4
                  obtain ⟨bs, hbs⟩ : ∃ bs, bs = catT sortT x.so ++ catT (fldT x.so) x.fi ++ catT (predT x.so) x.pr ++ pre := ⟨_, rfl⟩
                  have HBS := Aside0.mk hbs
                  rw [← hbs] at HSP HL3
                  clear hs1 hl3 hl4 hbs htb htz e1 e2 e3 e4
                  have hbsz := HSP.out.own.lt
                  go_wp2_with fail
                  have HSPa := Aside0.mk (HSP.out.below (below_alloc (Below.refl _ _) (.cells #[.string u.f0, .int .i64 u.f1.f0, .string u.f1.f1, .int .i64 u.f1.f2, .slice A5 u.f1.f3.length c5, .int .i64 u.f1.f4] 52)))
                  have hbk := blk_new wr (.cells #[.string u.f0, .int .i64 u.f1.f0, .string u.f1.f1, .int .i64 u.f1.f2, .slice A5 u.f1.f3.length c5, .int .i64 u.f1.f4] 52)
                  clear HSP g0 g1 g2 g3 g4 g5
                  obtain ⟨C, hCe⟩ : ∃ C : World → Prop, C = fun W => Below (wr.alloc (.cells #[.string u.f0, .int .i64 u.f1.f0, .string u.f1.f1, .int .i64 u.f1.f2, .slice A5 u.f1.f3.length c5, .int .i64 u.f1.f4] 52)).heap.size (wr.alloc (.cells #[.string u.f0, .int .i64 u.f1.f0, .string u.f1.f1, .int .i64 u.f1.f2, .slice A5 u.f1.f3.length c5, .int .i64 u.f1.f4] 52)) W := ⟨_, rfl⟩
                  have HC := Aside0.mk hCe
                  clear hCe
                  have q0 : ∀ W, C W → W.cell? ⟨w1.heap.size, 0, none⟩ = some (.pointer (some ⟨b, 0, none⟩)) := fun W hW => by rw [HC.out] at hW; exact blk_cell (HSPa.out.below hW).ptr 0
                  have r0 : ∀ W, C W → W.cell? ⟨wr.heap.size, 0, none⟩ = some (.string u.f0) := fun W hW => by rw [HC.out] at hW; exact blk_cell (blk_below hbk hW) 0
                  have r1 : ∀ W, C W → W.cell? ⟨wr.heap.size, 1, none⟩ = some (.int .i64 u.f1.f0) := fun W hW => by rw [HC.out] at hW; exact blk_cell (blk_below hbk hW) 1
                  have r2 : ∀ W, C W → W.cell? ⟨wr.heap.size, 2, none⟩ = some (.string u.f1.f1) := fun W hW => by rw [HC.out] at hW; exact blk_cell (blk_below hbk hW) 2
                  have r3 : ∀ W, C W → W.cell? ⟨wr.heap.size, 3, none⟩ = some (.int .i64 u.f1.f2) := fun W hW => by rw [HC.out] at hW; exact blk_cell (blk_below hbk hW) 3
                  have r4 : ∀ W, C W → W.cell? ⟨wr.heap.size, 4, none⟩ = some (.slice A5 u.f1.f3.length c5) := fun W hW => by rw [HC.out] at hW; exact blk_cell (blk_below hbk hW) 4
                  have r5 : ∀ W, C W → W.cell? ⟨wr.heap.size, 5, none⟩ = some (.int .i64 u.f1.f4) := fun W hW => by rw [HC.out] at hW; exact blk_cell (blk_below hbk hW) 5
                  have hc : ∀ W, C W → Calls Tryd.prog 13 #[.agg #[.int .i64 u.f1.f0, .string u.f1.f1, .int .i64 u.f1.f2, .slice A5 u.f1.f3.length c5, .int .i64 u.f1.f4]] W fun e w' => e = .returned (.string tb) ∧ C w' := fun W hW => by
                    rw [HC.out] at hW ⊢
                    rw [HTB.out]
                    have hlw := below_step HSPa.out.low hW
                    exact (formula_walk u.f1 HU.out.1 W _ (k24_mk W u.f1 gl (Kd.C_below GC.out hlw)) (HT.out.below hlw) HU.out.2 HLT.out).mono fun e w' h => ⟨h.1, below_step hW h.2⟩
                  refine wp_quiet_tail C 12 (by kernel_rfl) (by kernel_rfl) (by rw [HC.out]; exact below_drew1 (Below.refl _ _)) ?_
                  simp only [List.take_succ_cons, List.take_zero, List.drop_succ_cons, List.drop_zero]
                  iterate 9
                    refine q_ex rfl ?_
                    apply Exists.intro
                    refine ⟨fun W hW => ?_, ?_⟩
                    · have p0 := q0 W hW
                      have s0 := r0 W hW
                      have s1 := r1 W hW
                      have s2 := r2 W hW
                      have s3 := r3 W hW
                      have s4 := r4 W hW
                      have s5 := r5 W hW
                      go_simp
                      try rfl
                    simp only [Act.put, List.setIfInBounds_toArray, List.set_cons_zero, List.set_cons_succ]
                  refine q_call rfl (fun W hW => by go_simp) hc ?_
                  simp only [Act.put, List.setIfInBounds_toArray, List.set_cons_zero, List.set_cons_succ]
                  iterate 2
                    refine q_ex rfl ?_
                    apply Exists.intro
                    refine ⟨fun W hW => ?_, ?_⟩
                    · have p0 := q0 W hW
                      have s0 := r0 W hW
                      have s1 := r1 W hW
                      have s2 := r2 W hW
                      have s3 := r3 W hW
                      have s4 := r4 W hW
                      have s5 := r5 W hW
                      go_simp
                      try rfl
                    simp only [Act.put, List.setIfInBounds_toArray, List.set_cons_zero, List.set_cons_succ]
                  intro V hW
                  have HW := Aside0.mk (show Below (wr.alloc (.cells #[.string u.f0, .int .i64 u.f1.f0, .string u.f1.f1, .int .i64 u.f1.f2, .slice A5 u.f1.f3.length c5, .int .i64 u.f1.f4] 52)).heap.size (wr.alloc (.cells #[.string u.f0, .int .i64 u.f1.f0, .string u.f1.f1, .int .i64 u.f1.f2, .slice A5 u.f1.f3.length c5, .int .i64 u.f1.f4] 52)) V by rw [HC.out] at hW; exact hW)
                  have hbkV := blk_below hbk HW.out
                  have HSPV := Aside0.mk (HSPa.out.below HW.out)
                  clear q0 r0 r1 r2 r3 r4 r5 hc hW HC hbk
                  go_wp2_with fail
                  refine (writeString_walk _ b m2 m1 _ _ V HSPV.out.own ?l101 HSPV.out.sz).mono ?_
                  case l101 => have hl := HL3.out; have hz := HZ.out; rw [hz]; unfold most at hl; omega
                  rintro e w4 ⟨rfl, hw⟩
                  have hbkw4 := hw.blk hbkV (by omega) (by decide)
                  have HSPw4 := Aside0.mk (HSPV.out.wrote hw (app_ne (by have hz := HZ.out; rw [data_length, hz]; omega)))
                  clear hw hbkV HSPV
                  clear hbkw4
                  go_wp2
                  go_roundw
                  case rel => exact ⟨k + 1, by omega, by go_num, ⟨⟨_, HS1.out, by have := HSPw4.out; rw [HBS.out, HTB.out] at this; simp [ByteArray.data_append, factT] at this ⊢; exact this⟩⟩⟩
                  case measure => simp [intOf]; omega
                · have hke : k = x.fa.length := by omega
                  have HE : Aside0 (catT factT x.fa = pre) := ⟨by have := HPRE.out; rw [this, List.drop_of_length_le (by omega)]; simp [catT]⟩
                  clear HPRE hke
                  have HS : Aside0 (specT x = catT sortT x.so ++ catT (fldT x.so) x.fi ++ catT (predT x.so) x.pr ++ pre) := ⟨by rw [specT, HE.out]⟩
                  have zp := blk_cell HSP.out.ptr 0
                  have hbsz := HSP.out.own.lt
                  go_wp2_with fail
                  by_cases hnil : catT sortT x.so ++ catT (fldT x.so) x.fi ++ catT (predT x.so) x.pr ++ pre = []
                  · obtain ⟨p, hp⟩ := HSP.out.nil hnil
                    refine (string_nil_walk _ b m2 m1 p wr hp).mono ?_
                    rintro e w9 ⟨rfl, hb9⟩
                    have HB9 := Aside0.mk (show Below w.heap.size w w9 from HSP.out.low.trans hb9)
                    have HR : Aside0 ((⟨#[]⟩ : ByteArray) = ⟨(specT x).toArray⟩) := ⟨by rw [HS.out, hnil]⟩
                    clear hb9 hp hnil zp
                    go_wp2
                    go_ret
                    exact ⟨by rw [HR.out]; rfl, HB9.out⟩
                  · refine (string_walk _ b m2 m1 _ wr HSP.out.own hnil HSP.out.sz).mono ?_
                    rintro e w9 ⟨rfl, hb9⟩
                    have HB9 := Aside0.mk (show Below w.heap.size w w9 from HSP.out.low.trans hb9)
                    clear hb9 hnil zp
                    go_wp2
                    go_ret
                    exact ⟨by rw [HS.out]; simp only [List.append_assoc]; rfl, HB9.out⟩
end Go.Proofs.YtgdiodhaihmnbaaDoor.Own
namespace Go.Proofs.YtgdiodhaihmnbaaDoor.Own
open Go.RowKit Go.Proofs.YtgdiodhaihmnbaaDoorW.PrintWords Go.Proofs.YtgdiodhaihmnbaaDoorW.PrintLast Go.Proofs.YtgdiodhaihmnbaaDoorW.PrintMore Go.Proofs.YtgdiodhaihmnbaaDoor.PPrinterMatchesReference
theorem add0 (g k : Nat) : (⟨g, 0, none⟩ : Addr).add k = ⟨g, k, none⟩ := by cases k <;> simp [Addr.add]
theorem C_one {α : Type} (d : Kd α) {w : World} {g : Nat} {t : TypeId} {x : α} {c : List Value} (h : w.heap[g]? = some (.cells c.toArray t (0, 0))) (hk : d.K w x c) (hs : c.length = d.sz) : d.C w (some ⟨g, 0, none⟩) 1 [x] := by
  refine ⟨rfl, by decide, fun _ => ⟨⟨g, 0, none⟩, rfl, fun j p hj => ?_⟩⟩
  cases j with
  | zero =>
    simp at hj; subst hj
    refine ⟨c, hs, hk, fun i u hu => ?_⟩
    have hi : i < c.length := (List.getElem?_eq_some_iff.1 hu).1
    have := blk_cell h i
    rw [List.getElem?_toArray, hu] at this
    rw [add0, Nat.zero_mul, Nat.zero_add]; exact this
  | succ j => simp at hj
theorem C_two {α : Type} (d : Kd α) {w : World} {g : Nat} {t : TypeId} {x y : α} {c e : List Value} (h : w.heap[g]? = some (.cells (c ++ e).toArray t (0, 0))) (hx : d.K w x c) (hy : d.K w y e) (hs : c.length = d.sz) (hs' : e.length = d.sz) : d.C w (some ⟨g, 0, none⟩) 2 [x, y] := by
  refine ⟨rfl, by decide, fun _ => ⟨⟨g, 0, none⟩, rfl, fun j p hj => ?_⟩⟩
  match j, hj with
  | 0, hj =>
    simp at hj; subst hj
    refine ⟨c, hs, hx, fun i u hu => ?_⟩
    have hi : i < c.length := (List.getElem?_eq_some_iff.1 hu).1
    have := blk_cell h i
    rw [List.getElem?_toArray, List.getElem?_append_left hi, hu] at this
    rw [add0, Nat.zero_mul, Nat.zero_add]; exact this
  | 1, hj =>
    simp at hj; subst hj
    refine ⟨e, hs', hy, fun i u hu => ?_⟩
    have := blk_cell h (d.sz + i)
    rw [List.getElem?_toArray, List.getElem?_append_right (by omega), hs, Nat.add_sub_cancel_left, hu] at this
    rw [add0, Nat.one_mul]; exact this
  | j + 2, hj => simp at hj
/-- Every box and row stands, but those that hold a specification. -/
def KeepT (w W : World) : Prop := ∀ (k : Nat) (cs : Array Value) (t : TypeId) (fr : Nat × Nat), t ≠ 30 → w.heap[k]? = some (.cells cs t fr) → W.heap[k]? = some (.cells cs t fr)
theorem KeepT.refl (w : World) : KeepT w w := fun _ _ _ _ _ h => h
theorem KeepT.trans {w w1 w2 : World} (h : KeepT w w1) (k : KeepT w1 w2) : KeepT w w2 := fun i cs t fr ht hi => k i cs t fr ht (h i cs t fr ht hi)
theorem KeepT.of_below {w w1 : World} (h : Below w.heap.size w w1) : KeepT w w1 := fun i _ _ _ _ hi => (h.block i (blk_lt hi)).trans hi
/-- A row reads so, and goes on doing so. -/
def SC {α : Type} (d : Kd α) (A : Option Addr) (xs : List α) (w : World) : Prop := ∀ W, KeepT w W → d.C W A xs.length xs
theorem SC.keep {α : Type} {d : Kd α} {A : Option Addr} {xs : List α} {w w1 : World} (h : SC d A xs w) (hb : KeepT w w1) : SC d A xs w1 := fun W hW => h W (hb.trans hW)
theorem SC.below {α : Type} {d : Kd α} {A : Option Addr} {xs : List α} {w w1 : World} (h : SC d A xs w) (hb : Below w.heap.size w w1) : SC d A xs w1 := h.keep (.of_below hb)
theorem SC.now {α : Type} {d : Kd α} {A : Option Addr} {xs : List α} {w : World} (h : SC d A xs w) : d.C w A xs.length xs := h w (.refl w)
theorem SC_one {α : Type} (d : Kd α) {w : World} {g : Nat} {t : TypeId} {x : α} {c : List Value} (h : w.heap[g]? = some (.cells c.toArray t (0, 0))) (ht : t ≠ 30) (hk : ∀ W, KeepT w W → d.K W x c) (hs : c.length = d.sz) : SC d (some ⟨g, 0, none⟩) [x] w :=
  fun W hW => C_one d (hW _ _ _ _ ht h) (hk W hW) hs
theorem SC_two {α : Type} (d : Kd α) {w : World} {g : Nat} {t : TypeId} {x y : α} {c e : List Value} (h : w.heap[g]? = some (.cells (c ++ e).toArray t (0, 0))) (ht : t ≠ 30) (hx : ∀ W, KeepT w W → d.K W x c) (hy : ∀ W, KeepT w W → d.K W y e) (hs : c.length = d.sz) (hs' : e.length = d.sz) : SC d (some ⟨g, 0, none⟩) [x, y] w :=
  fun W hW => C_two d (hW _ _ _ _ ht h) (hx W hW) (hy W hW) hs hs'
theorem SC_nil {α : Type} (d : Kd α) (w : World) : SC d none [] w := fun W _ => Kd.C_nil d W
/-- A node's cells. -/
def ndCs (x : S24) (A : Option Addr) (c : Nat) : List Value := [.int .i64 x.f0, .string x.f1, .int .i64 x.f2, .slice A x.f3.length c, .int .i64 x.f4]
/-- A value that is a node. -/
def Nd (x : S24) (v : Value) (w : World) : Prop := ∃ A c, v = .agg #[.int .i64 x.f0, .string x.f1, .int .i64 x.f2, .slice A x.f3.length c, .int .i64 x.f4] ∧ x.f3.length ≤ c ∧ SC k24 A x.f3 w
theorem Nd.below {x : S24} {v : Value} {w w1 : World} (h : Nd x v w) (hb : Below w.heap.size w w1) : Nd x v w1 := let ⟨A, c, e, l, k⟩ := h; ⟨A, c, e, l, k.below hb⟩
theorem Nd.K {x : S24} {v : Value} {w : World} (h : Nd x v w) : ∃ cs, v = .agg cs.toArray ∧ k24.K w x cs := let ⟨A, c, e, l, k⟩ := h; ⟨_, e, k24_mk w x l k.now⟩
theorem Nd.leaf (x : S24) (w : World) (h : x.f3 = []) : Nd x (.agg #[.int .i64 x.f0, .string x.f1, .int .i64 x.f2, .slice none 0 0, .int .i64 x.f4]) w := ⟨none, 0, by rw [h]; rfl, by rw [h]; exact Nat.le_refl _, by rw [h]; exact SC_nil _ _⟩
/-- A box that holds a node. -/
def Bx (x : S24) (g : Nat) (w : World) : Prop := ∃ A c, w.heap[g]? = some (.cells #[.int .i64 x.f0, .string x.f1, .int .i64 x.f2, .slice A x.f3.length c, .int .i64 x.f4] 24 (0, 0)) ∧ x.f3.length ≤ c ∧ SC k24 A x.f3 w
theorem Bx.keep {x : S24} {g : Nat} {w w1 : World} (h : Bx x g w) (hb : KeepT w w1) : Bx x g w1 := let ⟨A, c, e, l, k⟩ := h; ⟨A, c, hb _ _ _ _ (by decide) e, l, k.keep hb⟩
theorem Bx.below {x : S24} {g : Nat} {w w1 : World} (h : Bx x g w) (hb : Below w.heap.size w w1) : Bx x g w1 := h.keep (.of_below hb)
def nName (s : ByteArray) : S24 := ⟨1, s, 0, [], 0⟩
def nCall (s : ByteArray) : S24 := ⟨47, s, 0, [], 0⟩
def nBoth (op : Int) (x y : S24) : S24 := ⟨op, ⟨#[]⟩, 0, [x, y], 0⟩
set_option maxHeartbeats 1000000 in
set_option maxRecDepth 100000 in
theorem name19_walk (s : ByteArray) (w : World) : Calls Tryd.prog 19 #[.string s] w fun e w' => ∃ v, e = .returned v ∧ Nd (nName s) v w' ∧ Below w.heap.size w w' := by
  have hu24 := Tryd.underlying24
  go_enter Tryd.func19, Tryd.ntmps19
  go_wp2_with fail
  refine bodyPost_ret (results_cell_row rfl _ _ w.heap.size 24 #[.int .i64 1, .string s, .int .i64 0, .slice none 0 0, .int .i64 0] (0, 0) _ rfl (blk_new _ _) Tryd.underlying24 rfl (by kernel_rfl)) rfl ?_
  exact ⟨_, rfl, Nd.leaf (nName s) _ rfl, below_alloc (Below.refl _ _) _⟩
set_option maxHeartbeats 1000000 in
set_option maxRecDepth 100000 in
theorem call20_walk (s : ByteArray) (w : World) : Calls Tryd.prog 20 #[.string s] w fun e w' => ∃ v, e = .returned v ∧ Nd (nCall s) v w' ∧ Below w.heap.size w w' := by
  have hu24 := Tryd.underlying24
  go_enter Tryd.func20, Tryd.ntmps20
  go_wp2_with fail
  refine bodyPost_ret (results_cell_row rfl _ _ w.heap.size 24 #[.int .i64 47, .string s, .int .i64 0, .slice none 0 0, .int .i64 0] (0, 0) _ rfl (blk_new _ _) Tryd.underlying24 rfl (by kernel_rfl)) rfl ?_
  exact ⟨_, rfl, Nd.leaf (nCall s) _ rfl, below_alloc (Below.refl _ _) _⟩
set_option maxHeartbeats 1000000 in
set_option maxRecDepth 100000 in
theorem both_walk (op : Int) (x y : S24) (v1 v2 : Value) (w : World) (h1 : Nd x v1 w) (h2 : Nd y v2 w) : Calls Tryd.prog 21 #[.int .i64 op, v1, v2] w fun e w' => ∃ v, e = .returned v ∧ Nd (nBoth op x y) v w' ∧ Below w.heap.size w w' := by
  have hu24 := Tryd.underlying24
  obtain ⟨A, c, rfl, l1, k1⟩ := h1
  obtain ⟨B, d, rfl, l2, k2⟩ := h2
  have K1 := Aside0.mk k1
  have K2 := Aside0.mk k2
  clear k1 k2
  go_enter Tryd.func21, Tryd.ntmps21
  go_wp2_with fail
  refine bodyPost_ret (results_cell_row rfl _ _ (w.heap.size + 1 + 1) 24 #[.int .i64 op, .string ⟨#[]⟩, .int .i64 0, .slice (some ⟨w.heap.size + 1 + 1 + 1, 0, none⟩) 2 2, .int .i64 0] (0, 0) _ rfl (by refine blk_alloc ?_ _; simpa using blk_new ((w.alloc (.cells #[.int .i64 x.f0, .string x.f1, .int .i64 x.f2, .slice A x.f3.length c, .int .i64 x.f4] 24)).alloc (.cells #[.int .i64 y.f0, .string y.f1, .int .i64 y.f2, .slice B y.f3.length d, .int .i64 y.f4] 24)) _) Tryd.underlying24 rfl (by kernel_rfl)) rfl ?_
  refine ⟨_, rfl, ⟨some ⟨w.heap.size + 1 + 1 + 1, 0, none⟩, 2, rfl, Nat.le_refl _, ?_⟩, by repeat (first | exact Below.refl _ _ | apply below_alloc)⟩
  refine SC_two k24 (c := [.int .i64 x.f0, .string x.f1, .int .i64 x.f2, .slice A x.f3.length c, .int .i64 x.f4]) (e := [.int .i64 y.f0, .string y.f1, .int .i64 y.f2, .slice B y.f3.length d, .int .i64 y.f4]) (t := 24) (by simpa using blk_new (((w.alloc _).alloc _).alloc _) _) (by decide) (fun W hW => k24_mk _ x l1 (K1.out W (.trans (.of_below ?_) hW))) (fun W hW => k24_mk _ y l2 (K2.out W (.trans (.of_below ?_) hW))) rfl rfl
  · repeat (first | exact Below.refl _ _ | apply below_alloc)
  · repeat (first | exact Below.refl _ _ | apply below_alloc)
end Go.Proofs.YtgdiodhaihmnbaaDoor.Own
