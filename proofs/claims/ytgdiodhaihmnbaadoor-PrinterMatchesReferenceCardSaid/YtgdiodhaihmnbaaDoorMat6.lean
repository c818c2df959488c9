/- Steps towards the statement: the printer's texts and equalities are the reference's, and two valid formulas are equal exactly if their texts are; walks of the program's functions and the plain law behind them. This text: part 6 of 7. No condition of its own. -/
import Derived.Test.YtgdiodhaihmnbaaDoorMat2
import Derived.Test.YtgdiodhaihmnbaaDoorMat3
import Derived.Test.YtgdiodhaihmnbaaDoorMat5
set_option linter.unusedSimpArgs false
set_option linter.unusedVariables false
namespace Go.Proofs.YtgdiodhaihmnbaaDoor.Own
open Go.RowKit Go.Proofs.YtgdiodhaihmnbaaDoorW.PrintWords Go.Proofs.YtgdiodhaihmnbaaDoorW.PrintLast Go.Proofs.YtgdiodhaihmnbaaDoorW.PrintMore Go.Proofs.YtgdiodhaihmnbaaDoor.PPrinterMatchesReference
def xAll : S24 := ⟨45, ⟨#[120]⟩, 0, [nName ⟨#[65]⟩, nCall ⟨#[112]⟩], 0⟩
def xTrue : S24 := ⟨30, ⟨#[]⟩, 0, [], 0⟩
def xFalse : S24 := ⟨31, ⟨#[]⟩, 0, [], 0⟩
def xNot : S24 := ⟨40, ⟨#[]⟩, 0, [nBoth 41 xTrue xFalse], 0⟩
def xDiff : S24 := nBoth 8 (nName ⟨#[97]⟩) (nBoth 8 (nName ⟨#[98]⟩) (nName ⟨#[99]⟩))
def xJoin : S24 := ⟨5, ⟨#[]⟩, 0, [nBoth 9 (nName ⟨#[97]⟩) ⟨11, ⟨#[]⟩, 0, [nName ⟨#[98]⟩], 0⟩], 0⟩
def xLess : S24 := nBoth 39 ⟨20, ⟨#[]⟩, -3, [], 0⟩ ⟨21, ⟨#[]⟩, 0, [nBoth 6 (nName ⟨#[97]⟩) ⟨2, ⟨#[]⟩, 2, [], 0⟩], 0⟩
def xOne : S24 := nBoth 41 xAll (nCall ⟨#[113]⟩)
def xTwo : S24 := nBoth 41 (nCall ⟨#[113]⟩) xAll
def xSp : SpD := ⟨[⟨⟨#[65]⟩, true⟩, ⟨⟨#[66]⟩, false⟩], [⟨⟨#[102]⟩, [0, 1], true⟩], [⟨⟨#[112]⟩, [⟨⟨#[120]⟩, 1⟩], xLess⟩], [⟨⟨#[113]⟩, xOne⟩]⟩
/-- A node's cells. -/
theorem ndK (x : S24) {A : Option Addr} {c : Nat} {w : World} (l : x.f3.length ≤ c) (k : SC k24 A x.f3 w) : ∀ W, KeepT w W → k24.K W x (ndCs x A c) := fun W hW => k24_mk W x l (k W hW)
theorem below_2 (w : World) (o o' : Obj) : Below w.heap.size w ((w.alloc o).alloc o') := below_alloc (below_alloc (Below.refl _ _) _) _
/-- A node over two kids, laid into a box. -/
theorem Bx_two {x y z : S24} {A B : Option Addr} {c d : Nat} {w : World} (l1 : x.f3.length ≤ c) (l2 : y.f3.length ≤ d) (k1 : SC k24 A x.f3 w) (k2 : SC k24 B y.f3 w) (hz : z.f3 = [x, y]) :
    Bx z (w.heap.size + 1) ((w.alloc (.cells (ndCs x A c ++ ndCs y B d).toArray 24)).alloc (.cells #[.int .i64 z.f0, .string z.f1, .int .i64 z.f2, .slice (some ⟨w.heap.size, 0, none⟩) 2 2, .int .i64 z.f4] 24)) := by
  refine ⟨some ⟨w.heap.size, 0, none⟩, 2, by rw [hz]; exact blk_two _ _ _, by rw [hz]; exact Nat.le_refl _, ?_⟩
  rw [hz]
  exact SC_two k24 (blk_alloc (blk_new _ _) _) (by decide) (ndK x l1 (k1.below (below_2 _ _ _))) (ndK y l2 (k2.below (below_2 _ _ _))) rfl rfl
theorem Bx_one {x z : S24} {A : Option Addr} {c : Nat} {w : World} (l1 : x.f3.length ≤ c) (k1 : SC k24 A x.f3 w) (hz : z.f3 = [x]) :
    Bx z (w.heap.size + 1) ((w.alloc (.cells (ndCs x A c).toArray 24)).alloc (.cells #[.int .i64 z.f0, .string z.f1, .int .i64 z.f2, .slice (some ⟨w.heap.size, 0, none⟩) 1 1, .int .i64 z.f4] 24)) := by
  refine ⟨some ⟨w.heap.size, 0, none⟩, 1, by rw [hz]; exact blk_two _ _ _, by rw [hz]; exact Nat.le_refl _, ?_⟩
  rw [hz]
  exact SC_one k24 (blk_alloc (blk_new _ _) _) (by decide) (ndK x l1 (k1.below (below_2 _ _ _))) rfl
theorem Nd_one {x z : S24} {A : Option Addr} {c : Nat} {w : World} (l1 : x.f3.length ≤ c) (k1 : SC k24 A x.f3 w) (hz : z.f3 = [x]) :
    Nd z (.agg #[.int .i64 z.f0, .string z.f1, .int .i64 z.f2, .slice (some ⟨w.heap.size, 0, none⟩) 1 1, .int .i64 z.f4]) (w.alloc (.cells (ndCs x A c).toArray 24)) := by
  refine ⟨some ⟨w.heap.size, 0, none⟩, 1, by rw [hz]; rfl, by rw [hz]; exact Nat.le_refl _, ?_⟩
  rw [hz]
  exact SC_one k24 (blk_new _ _) (by decide) (ndK x l1 (k1.below (below_alloc (Below.refl _ _) _))) rfl
theorem endQ_nil {P : Program} {ops : Array Oper} {Q : Exit → Act → World → Prop} {l : List Oper} {R : Nat → Value → World → Prop} {a : Act} {w : World} {i : Nat} (h : wpList P ops Q l a w) : endQ R (fun a' w'' => wpList P ops Q l a' w'') w i [] a := h
/-- A store of a whole value into a box of its own. -/
theorem list_store {P : Program} {ops : Array Oper} {rest : List Oper} {o : Oper} {a : Act} {Q : Exit → Act → World → Prop} {W : World} {t : TypeId} {p x : Operand} {g : Nat} {u : Value} {seg : List Value} {cur : Array Value} {e : TypeId} (hN : o.dst = none) (hgd : o.guard = none) (ho : o.op = .store t p x)
    (haddr : a.eval p = .pointer (some ⟨g, 0, none⟩)) (hx : a.eval x = u) (hh : W.heap[g]? = some (.cells cur e (0, 0))) (hu : u.cells.toList = seg) (ht : (P.info? t).map (·.size) = some seg.length) (hlen : cur.size = seg.length) (h1 : ∀ q ∈ seg, q.oneCell' = true) {n0 : Nat} (hn : n0 ≤ g)
    (h : ∀ w1, w1.heap[g]? = some (.cells seg.toArray e (0, 0)) → Below n0 W w1 → (∀ k, k ≠ g → w1.heap[k]? = W.heap[k]?) → wpList P ops Q rest a w1) : wpList P ops Q (o :: rest) a W := by
  refine wpList_plain hgd fun K hK => ?_
  have hrun : (Instr.storeAt t (.pointer (some ⟨g, 0, none⟩)) u).run P W = .ok () (W.setCells g 0 seg) := run_store_run t u seg hh hu ht (by omega) h1
  unfold Oper.wp execOp
  simp only [ho, haddr, hx, Sem.run_bind, Sem.run_pure, Result.andThen_ok, hrun]
  show K (a.put o.dst undef) _
  rw [hN]
  obtain ⟨s1, s2, s3, s4⟩ := setCells_same g seg 0 W
  obtain ⟨cur', h3, h4, h5⟩ := setCells_row seg 0 W cur hh (by omega)
  refine hK a _ (h _ ?_ ⟨s1, s2, s3, by rw [s4]; exact Nat.le_refl _, fun k hk => setCells_far seg _ k (by omega)⟩ (fun k hk => setCells_far seg _ k hk))
  rw [h3]
  have : cur' = seg.toArray := by
    rw [← Array.toArray_toList (xs := cur'), h5]; simp [← hlen]
  rw [this]
/-- A box that holds the specification of head. -/
def Bs (g : Nat) (w : World) : Prop := ∃ g0 g1 g2 g3, w.heap[g]? = some (.cells #[.slice (some ⟨g0, 0, none⟩) 2 2, .slice (some ⟨g1, 0, none⟩) 1 1, .slice (some ⟨g2, 0, none⟩) 1 1, .slice (some ⟨g3, 0, none⟩) 1 1] 30 (0, 0)) ∧ SC k42 (some ⟨g0, 0, none⟩) xSp.so w ∧ SC k45 (some ⟨g1, 0, none⟩) xSp.fi w ∧ SC k50 (some ⟨g2, 0, none⟩) xSp.pr w ∧ SC k52 (some ⟨g3, 0, none⟩) xSp.fa w
theorem Bs.below {g : Nat} {w w1 : World} (h : Bs g w) (hb : Below w.heap.size w w1) : Bs g w1 := let ⟨g0, g1, g2, g3, e, k0, k1, k2, k3⟩ := h; ⟨g0, g1, g2, g3, blk_below e hb, k0.below hb, k1.below hb, k2.below hb, k3.below hb⟩
theorem op_callE {P : Program} {Q : Exit → Act → World → Prop} {a : Act} {w : World} {o : Oper} {K : Act → World → Prop} {f : FuncId} {args : Array Value} (hrun : (execOp a.eval o).run P w = .ok (.enter f args) w)
    (hc : Calls P f args w fun e w' => ∃ v, e = .returned v ∧ K (a.put o.dst v) w') : o.wp P a w K Q := by
  unfold Oper.wp; rw [hrun]; exact hc.mono fun e w' ⟨v, he, hr⟩ => by subst he; exact hr
/-- What the operations of the sixth statement of head yield. -/
def R6 (n0 : Nat) (i : Nat) (v : Value) (w : World) : Prop := match i with
  | 0 => v = .agg #[.string ⟨#[65]⟩, .bool true]
  | 1 => v = .agg #[.string ⟨#[66]⟩, .bool false]
  | 2 => ∃ g, v = .slice (some ⟨g, 0, none⟩) 2 2 ∧ SC k42 (some ⟨g, 0, none⟩) xSp.so w
  | 3 => ∃ g, v = .slice (some ⟨g, 0, none⟩) 2 2 ∧ SC (Kd.int .i64) (some ⟨g, 0, none⟩) [0, 1] w
  | 4 => ∃ g, v = .agg #[.string ⟨#[102]⟩, .slice (some ⟨g, 0, none⟩) 2 2, .bool true] ∧ SC (Kd.int .i64) (some ⟨g, 0, none⟩) [0, 1] w
  | 5 => ∃ g, v = .slice (some ⟨g, 0, none⟩) 1 1 ∧ SC k45 (some ⟨g, 0, none⟩) xSp.fi w
  | 6 => v = .agg #[.string ⟨#[120]⟩, .int .i64 1]
  | 7 => ∃ g, v = .slice (some ⟨g, 0, none⟩) 1 1 ∧ SC k47 (some ⟨g, 0, none⟩) [⟨⟨#[120]⟩, 1⟩] w
  | 8 => Nd xLess v w
  | 9 => ∃ g A c, v = .agg #[.string ⟨#[112]⟩, .slice (some ⟨g, 0, none⟩) 1 1, .int .i64 xLess.f0, .string xLess.f1, .int .i64 xLess.f2, .slice A xLess.f3.length c, .int .i64 xLess.f4] ∧ SC k47 (some ⟨g, 0, none⟩) [⟨⟨#[120]⟩, 1⟩] w ∧ xLess.f3.length ≤ c ∧ SC k24 A xLess.f3 w
  | 10 => ∃ g, v = .slice (some ⟨g, 0, none⟩) 1 1 ∧ SC k50 (some ⟨g, 0, none⟩) xSp.pr w
  | 11 => Nd xAll v w
  | 12 => Nd (nCall ⟨#[113]⟩) v w
  | 13 => Nd xOne v w
  | 14 => ∃ A c, v = .agg #[.string ⟨#[113]⟩, .int .i64 xOne.f0, .string xOne.f1, .int .i64 xOne.f2, .slice A xOne.f3.length c, .int .i64 xOne.f4] ∧ xOne.f3.length ≤ c ∧ SC k24 A xOne.f3 w
  | 15 => ∃ g, v = .slice (some ⟨g, 0, none⟩) 1 1 ∧ SC k52 (some ⟨g, 0, none⟩) xSp.fa w
  | 16 => ∃ g0 g1 g2 g3, v = .agg #[.slice (some ⟨g0, 0, none⟩) 2 2, .slice (some ⟨g1, 0, none⟩) 1 1, .slice (some ⟨g2, 0, none⟩) 1 1, .slice (some ⟨g3, 0, none⟩) 1 1] ∧ SC k42 (some ⟨g0, 0, none⟩) xSp.so w ∧ SC k45 (some ⟨g1, 0, none⟩) xSp.fi w ∧ SC k50 (some ⟨g2, 0, none⟩) xSp.pr w ∧ SC k52 (some ⟨g3, 0, none⟩) xSp.fa w
  | 17 => ∃ g, v = .pointer (some ⟨g, 0, none⟩) ∧ n0 ≤ g ∧ w.heap[g]? = some (.cells #[.slice none 0 0, .slice none 0 0, .slice none 0 0, .slice none 0 0] 30 (0, 0))
  | _ => True
theorem R6_below (n0 : Nat) : ∀ i v w w', R6 n0 i v w → Below w.heap.size w w' → R6 n0 i v w' := by
  intro i v w w' h hb
  unfold R6 at h ⊢
  split at h
  · exact h
  · exact h
  · obtain ⟨g, e, k⟩ := h; exact ⟨g, e, k.below hb⟩
  · obtain ⟨g, e, k⟩ := h; exact ⟨g, e, k.below hb⟩
  · obtain ⟨g, e, k⟩ := h; exact ⟨g, e, k.below hb⟩
  · obtain ⟨g, e, k⟩ := h; exact ⟨g, e, k.below hb⟩
  · exact h
  · obtain ⟨g, e, k⟩ := h; exact ⟨g, e, k.below hb⟩
  · exact h.below hb
  · obtain ⟨g, A, c, e, k, l, k2⟩ := h; exact ⟨g, A, c, e, k.below hb, l, k2.below hb⟩
  · obtain ⟨g, e, k⟩ := h; exact ⟨g, e, k.below hb⟩
  · exact h.below hb
  · exact h.below hb
  · exact h.below hb
  · obtain ⟨A, c, e, l, k⟩ := h; exact ⟨A, c, e, l, k.below hb⟩
  · obtain ⟨g, e, k⟩ := h; exact ⟨g, e, k.below hb⟩
  · obtain ⟨g0, g1, g2, g3, e, k0, k1, k2, k3⟩ := h; exact ⟨g0, g1, g2, g3, e, k0.below hb, k1.below hb, k2.below hb, k3.below hb⟩
  · obtain ⟨g, e, l, k⟩ := h; exact ⟨g, e, l, blk_below k hb⟩
  · trivial
def sOne : ByteArray := ⟨#[40, 97, 108, 108, 32, 120, 58, 32, 65, 32, 124, 32, 112, 91, 93, 41, 32, 38, 38, 32, 113, 91, 93]⟩
def sTwo : ByteArray := ⟨#[113, 91, 93, 32, 38, 38, 32, 97, 108, 108, 32, 120, 58, 32, 65, 32, 124, 32, 112, 91, 93]⟩
theorem fm_walk (x : S24) (s : ByteArray) (hs : txt x true = s.data.toList) (hn : numOK x) (hne : txt x true ≠ []) (hl : (txt x true).length ≤ most) (w : World) (v : Value) (h : Nd x v w) (ht : Tab w) : Calls Tryd.prog 13 #[v] w fun e w' => e = .returned (.string s) ∧ Below w.heap.size w w' := by
  obtain ⟨cs, rfl, hk⟩ := h.K
  refine (formula_walk x hn w cs hk ht hne hl).mono fun e w' ⟨he, hb⟩ => ⟨?_, hb⟩
  rw [he, hs]
theorem fm_one (w : World) (v : Value) (h : Nd xOne v w) (ht : Tab w) : Calls Tryd.prog 13 #[v] w fun e w' => e = .returned (.string sOne) ∧ Below w.heap.size w w' := fm_walk xOne sOne (by decide +kernel) (by simp [numOK, numsOK, xOne, xAll, nBoth, nCall, nName, ByteArray.size]) (by decide +kernel) (by decide +kernel) w v h ht
theorem fm_two (w : World) (v : Value) (h : Nd xTwo v w) (ht : Tab w) : Calls Tryd.prog 13 #[v] w fun e w' => e = .returned (.string sTwo) ∧ Below w.heap.size w w' := fm_walk xTwo sTwo (by decide +kernel) (by simp [numOK, numsOK, xTwo, xAll, nBoth, nCall, nName, ByteArray.size]) (by decide +kernel) (by decide +kernel) w v h ht
def sNot : ByteArray := ⟨#[110, 111, 116, 32, 40, 116, 114, 117, 101, 32, 38, 38, 32, 102, 97, 108, 115, 101, 41]⟩
theorem fm_sNot (w : World) (v : Value) (h : Nd xNot v w) (ht : Tab w) : Calls Tryd.prog 13 #[v] w fun e w' => e = .returned (.string sNot) ∧ Below w.heap.size w w' := fm_walk xNot sNot (by decide +kernel) (by simp [numOK, numsOK, xNot, xTrue, xFalse, nBoth, nCall, nName, ByteArray.size]) (by decide +kernel) (by decide +kernel) w v h ht
def sDiff : ByteArray := ⟨#[97, 32, 45, 32, 40, 98, 32, 45, 32, 99, 41]⟩
theorem fm_sDiff (w : World) (v : Value) (h : Nd xDiff v w) (ht : Tab w) : Calls Tryd.prog 13 #[v] w fun e w' => e = .returned (.string sDiff) ∧ Below w.heap.size w w' := fm_walk xDiff sDiff (by decide +kernel) (by simp [numOK, numsOK, xDiff, xTrue, xFalse, nBoth, nCall, nName, ByteArray.size]) (by decide +kernel) (by decide +kernel) w v h ht
def sJoin : ByteArray := ⟨#[40, 97, 46, 126, 98, 41, 39]⟩
theorem fm_sJoin (w : World) (v : Value) (h : Nd xJoin v w) (ht : Tab w) : Calls Tryd.prog 13 #[v] w fun e w' => e = .returned (.string sJoin) ∧ Below w.heap.size w w' := fm_walk xJoin sJoin (by decide +kernel) (by simp [numOK, numsOK, xJoin, xTrue, xFalse, nBoth, nCall, nName, ByteArray.size]) (by decide +kernel) (by decide +kernel) w v h ht
def sLess : ByteArray := ⟨#[45, 51, 32, 60, 32, 35, 40, 97, 32, 43, 32, 110, 111, 110, 101, 91, 50, 93, 41]⟩
theorem fm_sLess (w : World) (v : Value) (h : Nd xLess v w) (ht : Tab w) : Calls Tryd.prog 13 #[v] w fun e w' => e = .returned (.string sLess) ∧ Below w.heap.size w w' := fm_walk xLess sLess (by decide +kernel) (by simp [numOK, numsOK, xLess, xTrue, xFalse, nBoth, nCall, nName, ByteArray.size]) (by decide +kernel) (by decide +kernel) w v h ht
theorem sSpec_eq : specT xSp = [115, 111, 114, 116, 32, 65, 32, 111, 114, 100, 101, 114, 101, 100, 59, 10, 115, 111, 114, 116, 32, 66, 59, 10, 118, 97, 114, 32, 102, 105, 101, 108, 100, 32, 102, 58, 32, 65, 32, 45, 62, 32, 66, 59, 10, 112, 114, 101, 100, 32, 112, 91, 120, 58, 32, 66, 93, 32, 123, 32, 45, 51, 32, 60, 32, 35, 40, 97, 32, 43, 32, 110, 111, 110, 101, 91, 50, 93, 41, 32, 125, 10, 102, 97, 99, 116, 32, 113, 32, 123, 32, 40, 97, 108, 108, 32, 120, 58, 32, 65, 32, 124, 32, 112, 91, 93, 41, 32, 38, 38, 32, 113, 91, 93, 32, 125, 10] := by decide +kernel
theorem xSp_ok : SpOK xSp := by
  refine ⟨?_, ?_, ?_, ?_⟩
  · intro f hf i hi
    simp [xSp] at hf; subst hf; simp at hi; omega
  · intro f hf q hq
    simp [xSp] at hf; subst hf; simp at hq; subst hq; simp
  · intro p hp
    simp [xSp] at hp; subst hp
    exact ⟨by simp [numOK, numsOK, xLess, nBoth, nName, ByteArray.size], by decide +kernel⟩
  · intro p hp
    simp [xSp] at hp; subst hp
    exact ⟨by simp [numOK, numsOK, xOne, xAll, nBoth, nCall, nName, ByteArray.size], by decide +kernel⟩
def R7 (i : Nat) (v : Value) (w : World) : Prop := match i with
  | 0 => Nd xAll v w
  | 1 => Nd (nCall ⟨#[113]⟩) v w
  | 2 => Nd xOne v w
  | 3 => v = .string sOne
  | 4 => v = .bool true
  | 5 => v = .bool true
  | 6 => Nd (nCall ⟨#[113]⟩) v w
  | 7 => Nd xAll v w
  | 8 => Nd xTwo v w
  | 9 => v = .string sTwo
  | 10 => v = .bool true
  | 11 => v = .bool true
  | 12 => v = .bool true
  | _ => True
theorem R7_below : ∀ i v w w', R7 i v w → Below w.heap.size w w' → R7 i v w' := by
  intro i v w w' h hb
  unfold R7 at h ⊢
  split at h <;> first | exact h | exact Nd.below h hb
def xAll7 : S24 := ⟨45, ⟨#[120]⟩, 0, [nName ⟨#[65]⟩, nCall ⟨#[112]⟩], 7⟩
theorem xe1 : eqN xAll xAll7 = true := by decide +kernel
theorem xe2 : eqN xAll xNot = false := by decide +kernel
theorem xe3 : eqSpec xSp xSp = true := by decide +kernel
theorem xe4 : eqSpec xSp ⟨[], [], [], []⟩ = false := by decide +kernel
def Sv (v : Value) (w : World) : Prop := ∃ g0 g1 g2 g3, v = .agg #[.slice (some ⟨g0, 0, none⟩) 2 2, .slice (some ⟨g1, 0, none⟩) 1 1, .slice (some ⟨g2, 0, none⟩) 1 1, .slice (some ⟨g3, 0, none⟩) 1 1] ∧ SC k42 (some ⟨g0, 0, none⟩) xSp.so w ∧ SC k45 (some ⟨g1, 0, none⟩) xSp.fi w ∧ SC k50 (some ⟨g2, 0, none⟩) xSp.pr w ∧ SC k52 (some ⟨g3, 0, none⟩) xSp.fa w
theorem Sv.below {v : Value} {w w1 : World} (h : Sv v w) (hb : Below w.heap.size w w1) : Sv v w1 := let ⟨g0, g1, g2, g3, e, k0, k1, k2, k3⟩ := h; ⟨g0, g1, g2, g3, e, k0.below hb, k1.below hb, k2.below hb, k3.below hb⟩
def R10 (i : Nat) (v : Value) (w : World) : Prop := match i with
  | 0 => v = .bool true
  | 1 => v = .bool true
  | 2 => v = .bool true
  | 3 => v = .bool true
  | 4 => v = .bool true
  | 5 => v = .bool true
  | 6 => v = .bool true
  | 7 => v = .bool true
  | 8 => Nd xAll v w
  | 9 => Nd (nName ⟨#[65]⟩) v w
  | 10 => Nd (nCall ⟨#[112]⟩) v w
  | 11 => ∃ g, v = .slice (some ⟨g, 0, none⟩) 2 2 ∧ SC k24 (some ⟨g, 0, none⟩) [nName ⟨#[65]⟩, nCall ⟨#[112]⟩] w
  | 12 => Nd xAll7 v w
  | 13 => v = .bool true
  | 14 => v = .bool true
  | 15 => v = .bool true
  | 16 => Nd xAll v w
  | 17 => Nd xNot v w
  | 18 => v = .bool false
  | 19 => v = .bool true
  | 20 => v = .bool true
  | 21 => v = .bool true
  | 22 => Sv v w
  | 23 => Sv v w
  | 24 => v = .bool true
  | 25 => v = .bool true
  | 26 => v = .bool true
  | 27 => Sv v w
  | 28 => v = .agg #[.slice none 0 0, .slice none 0 0, .slice none 0 0, .slice none 0 0]
  | 29 => v = .bool false
  | 30 => v = .bool true
  | 31 => v = .bool true
  | 32 => v = .bool true
  | _ => True
theorem R10_below : ∀ i v w w', R10 i v w → Below w.heap.size w w' → R10 i v w' := by
  intro i v w w' h hb
  unfold R10 at h ⊢
  split at h <;> first | exact h | exact Nd.below h hb | exact Sv.below h hb | (obtain ⟨g, e, k⟩ := h; exact ⟨g, e, k.below hb⟩)
set_option maxHeartbeats 4000000 in
set_option maxRecDepth 100000 in
theorem head_walk (w : World) (ht : Tab w) : Calls Tryd.prog 5 #[] w fun e w' => e = .returned (.bool true) ∧ Below w.heap.size w w' := by
  have HT := Aside0.mk ht
  have hu24 := Tryd.underlying24
  clear ht
  go_enter Tryd.func5, Tryd.ntmps5
  go_wp2_with fail
  refine (name19_walk _ _).mono ?_
  rintro e w1 ⟨_, rfl, ⟨A1, c1, rfl, l1, k1⟩, hb1⟩
  have K1 := Aside0.mk k1
  have HB1 := Aside0.mk hb1
  clear k1 hb1
  go_wp2_with fail
  refine (call20_walk _ _).mono ?_
  rintro e w2 ⟨_, rfl, ⟨A2, c2, rfl, l2, k2⟩, hb2⟩
  have BX1 := Aside0.mk (Bx_two (z := xAll) l1 l2 (K1.out.below hb2) k2 rfl)
  have HB2 := Aside0.mk (below_step HB1.out hb2)
  clear k2 hb2 K1 HB1
  go_wp2_with fail
  refine (both_walk 41 xTrue xFalse _ _ _ (Nd.leaf xTrue _ rfl) (Nd.leaf xFalse _ rfl)).mono ?_
  rintro e w3 ⟨_, rfl, ⟨A3, c3, rfl, l3, k3⟩, hb3⟩
  have BX1 := Aside0.mk (BX1.out.below hb3)
  have BX2 := Aside0.mk (Bx_one (z := xNot) l3 k3 rfl)
  have HB3 := Aside0.mk (below_step (below_step HB2.out (below_2 _ _ _)) hb3)
  clear k3 hb3 HB2
  go_wp2_with fail
  refine (name19_walk _ _).mono ?_
  rintro e w4 ⟨_, rfl, ⟨A4, c4, rfl, l4, k4⟩, hb4⟩
  have BX1 := Aside0.mk ((BX1.out.below (below_2 _ _ _)).below hb4)
  have BX2 := Aside0.mk (BX2.out.below hb4)
  have HB4 := Aside0.mk (below_step (below_step HB3.out (below_2 _ _ _)) hb4)
  have K4 := Aside0.mk k4
  clear k4 hb4 HB3
  go_wp2_with fail
  refine (name19_walk _ _).mono ?_
  rintro e w5 ⟨_, rfl, ⟨A5, c5, rfl, l5, k5⟩, hb5⟩
  have BX1 := Aside0.mk (BX1.out.below hb5)
  have BX2 := Aside0.mk (BX2.out.below hb5)
  have HB5 := Aside0.mk (below_step HB4.out hb5)
  have K4 := Aside0.mk (K4.out.below hb5)
  have K5 := Aside0.mk k5
  clear k5 hb5 HB4
  go_wp2_with fail
  refine (name19_walk _ _).mono ?_
  rintro e w6 ⟨_, rfl, ⟨A6, c6, rfl, l6, k6⟩, hb6⟩
  have BX1 := Aside0.mk (BX1.out.below hb6)
  have BX2 := Aside0.mk (BX2.out.below hb6)
  have HB6 := Aside0.mk (below_step HB5.out hb6)
  have K4 := Aside0.mk (K4.out.below hb6)
  have K5 := Aside0.mk (K5.out.below hb6)
  have K6 := Aside0.mk k6
  clear k6 hb6 HB5
  go_wp2_with fail
  refine (both_walk 8 (nName ⟨#[98]⟩) (nName ⟨#[99]⟩) _ _ _ ⟨_, _, rfl, l5, K5.out⟩ ⟨_, _, rfl, l6, K6.out⟩).mono ?_
  rintro e w7 ⟨_, rfl, ⟨A7, c7, rfl, l7, k7⟩, hb7⟩
  have BX1 := Aside0.mk (BX1.out.below hb7)
  have BX2 := Aside0.mk (BX2.out.below hb7)
  have HB7 := Aside0.mk (below_step HB6.out hb7)
  have K4 := Aside0.mk (K4.out.below hb7)
  have K7 := Aside0.mk k7
  clear k7 hb7 HB6 K5 K6
  go_wp2_with fail
  refine (both_walk 8 (nName ⟨#[97]⟩) (nBoth 8 (nName ⟨#[98]⟩) (nName ⟨#[99]⟩)) _ _ _ ⟨_, _, rfl, l4, K4.out⟩ ⟨_, _, rfl, l7, K7.out⟩).mono ?_
  rintro e w8 ⟨_, rfl, ⟨A8, c8, rfl, l8, k8⟩, hb8⟩
  have BX1 := Aside0.mk (BX1.out.below hb8)
  have BX2 := Aside0.mk (BX2.out.below hb8)
  have BX3 : Aside0 (Bx xDiff w8.heap.size (w8.alloc (.cells #[.int .i64 xDiff.f0, .string xDiff.f1, .int .i64 xDiff.f2, .slice A8 xDiff.f3.length c8, .int .i64 xDiff.f4] 24))) := ⟨⟨A8, c8, blk_new _ _, l8, k8.below (below_alloc (Below.refl _ _) _)⟩⟩
  have HB8 := Aside0.mk (below_step HB7.out hb8)
  clear k8 hb8 HB7 K4 K7
  go_wp2_with fail
  refine (name19_walk _ _).mono ?_
  rintro e w9 ⟨_, rfl, ⟨A9, c9, rfl, l9, k9⟩, hb9⟩
  have BX1 := Aside0.mk ((BX1.out.below (below_alloc (Below.refl _ _) _)).below hb9)
  have BX2 := Aside0.mk ((BX2.out.below (below_alloc (Below.refl _ _) _)).below hb9)
  have BX3 := Aside0.mk (BX3.out.below hb9)
  have HB9 := Aside0.mk (below_step (below_step HB8.out (below_alloc (Below.refl _ _) _)) hb9)
  have K9 := Aside0.mk k9
  clear k9 hb9 HB8
  go_wp2_with fail
  refine (name19_walk _ _).mono ?_
  rintro e w10 ⟨_, rfl, ⟨A10, c10, rfl, l10, k10⟩, hb10⟩
  have BX1 := Aside0.mk (BX1.out.below hb10)
  have BX2 := Aside0.mk (BX2.out.below hb10)
  have BX3 := Aside0.mk (BX3.out.below hb10)
  have HB10 := Aside0.mk (below_step HB9.out hb10)
  have K9 := Aside0.mk (K9.out.below hb10)
  have N10 := Aside0.mk (Nd_one (z := ⟨11, ⟨#[]⟩, 0, [nName ⟨#[98]⟩], 0⟩) l10 k10 rfl)
  clear k10 hb10 HB9
  go_wp2_with fail
  refine (both_walk 9 (nName ⟨#[97]⟩) ⟨11, ⟨#[]⟩, 0, [nName ⟨#[98]⟩], 0⟩ _ _ _ ⟨_, _, rfl, l9, K9.out.below (below_alloc (Below.refl _ _) _)⟩ N10.out).mono ?_
  rintro e w11 ⟨_, rfl, ⟨A11, c11, rfl, l11, k11⟩, hb11⟩
  have BX1 := Aside0.mk ((BX1.out.below (below_alloc (Below.refl _ _) _)).below hb11)
  have BX2 := Aside0.mk ((BX2.out.below (below_alloc (Below.refl _ _) _)).below hb11)
  have BX3 := Aside0.mk ((BX3.out.below (below_alloc (Below.refl _ _) _)).below hb11)
  have BX4 := Aside0.mk (Bx_one (z := xJoin) l11 k11 rfl)
  have HB11 := Aside0.mk (below_step (below_step HB10.out (below_alloc (Below.refl _ _) _)) hb11)
  clear k11 hb11 HB10 K9 N10
  go_wp2_with fail
  refine (name19_walk _ _).mono ?_
  rintro e w12 ⟨_, rfl, ⟨A12, c12, rfl, l12, k12⟩, hb12⟩
  have BX1 := Aside0.mk ((BX1.out.below (below_2 _ _ _)).below hb12)
  have BX2 := Aside0.mk ((BX2.out.below (below_2 _ _ _)).below hb12)
  have BX3 := Aside0.mk ((BX3.out.below (below_2 _ _ _)).below hb12)
  have BX4 := Aside0.mk (BX4.out.below hb12)
  have HB12 := Aside0.mk (below_step (below_step HB11.out (below_2 _ _ _)) hb12)
  have K12 := Aside0.mk k12
  clear k12 hb12 HB11
  go_wp2_with fail
  refine (both_walk 6 (nName ⟨#[97]⟩) ⟨2, ⟨#[]⟩, 2, [], 0⟩ _ _ _ ⟨_, _, rfl, l12, K12.out⟩ (Nd.leaf ⟨2, ⟨#[]⟩, 2, [], 0⟩ _ rfl)).mono ?_
  rintro e w13 ⟨_, rfl, ⟨A13, c13, rfl, l13, k13⟩, hb13⟩
  have BX1 := Aside0.mk (BX1.out.below hb13)
  have BX2 := Aside0.mk (BX2.out.below hb13)
  have BX3 := Aside0.mk (BX3.out.below hb13)
  have BX4 := Aside0.mk (BX4.out.below hb13)
  have HB13 := Aside0.mk (below_step HB12.out hb13)
  have N13 := Aside0.mk (Nd_one (z := ⟨21, ⟨#[]⟩, 0, [nBoth 6 (nName ⟨#[97]⟩) ⟨2, ⟨#[]⟩, 2, [], 0⟩], 0⟩) l13 k13 rfl)
  clear k13 hb13 HB12 K12
  go_wp2_with fail
  refine (both_walk 39 ⟨20, ⟨#[]⟩, -3, [], 0⟩ ⟨21, ⟨#[]⟩, 0, [nBoth 6 (nName ⟨#[97]⟩) ⟨2, ⟨#[]⟩, 2, [], 0⟩], 0⟩ _ _ _ (Nd.leaf ⟨20, ⟨#[]⟩, -3, [], 0⟩ _ rfl) N13.out).mono ?_
  rintro e w14 ⟨_, rfl, ⟨A14, c14, rfl, l14, k14⟩, hb14⟩
  have BX1 := Aside0.mk ((BX1.out.below (below_alloc (Below.refl _ _) _)).below hb14)
  have BX2 := Aside0.mk ((BX2.out.below (below_alloc (Below.refl _ _) _)).below hb14)
  have BX3 := Aside0.mk ((BX3.out.below (below_alloc (Below.refl _ _) _)).below hb14)
  have BX4 := Aside0.mk ((BX4.out.below (below_alloc (Below.refl _ _) _)).below hb14)
  have BX5 : Aside0 (Bx xLess w14.heap.size (w14.alloc (.cells #[.int .i64 xLess.f0, .string xLess.f1, .int .i64 xLess.f2, .slice A14 xLess.f3.length c14, .int .i64 xLess.f4] 24))) := ⟨⟨A14, c14, blk_new _ _, l14, k14.below (below_alloc (Below.refl _ _) _)⟩⟩
  have HB14 := Aside0.mk (below_step (below_step HB13.out (below_alloc (Below.refl _ _) _)) hb14)
  clear k14 hb14 HB13 N13
  have BX1 := Aside0.mk (BX1.out.below (below_alloc (Below.refl _ _) (.cells #[.int .i64 xLess.f0, .string xLess.f1, .int .i64 xLess.f2, .slice A14 xLess.f3.length c14, .int .i64 xLess.f4] 24)))
  have BX2 := Aside0.mk (BX2.out.below (below_alloc (Below.refl _ _) (.cells #[.int .i64 xLess.f0, .string xLess.f1, .int .i64 xLess.f2, .slice A14 xLess.f3.length c14, .int .i64 xLess.f4] 24)))
  have BX3 := Aside0.mk (BX3.out.below (below_alloc (Below.refl _ _) (.cells #[.int .i64 xLess.f0, .string xLess.f1, .int .i64 xLess.f2, .slice A14 xLess.f3.length c14, .int .i64 xLess.f4] 24)))
  have BX4 := Aside0.mk (BX4.out.below (below_alloc (Below.refl _ _) (.cells #[.int .i64 xLess.f0, .string xLess.f1, .int .i64 xLess.f2, .slice A14 xLess.f3.length c14, .int .i64 xLess.f4] 24)))
  have HB15 := Aside0.mk (below_step HB14.out (below_alloc (Below.refl _ _) (.cells #[.int .i64 xLess.f0, .string xLess.f1, .int .i64 xLess.f2, .slice A14 xLess.f3.length c14, .int .i64 xLess.f4] 24)))
  go_wp2_with fail
  have b1 := BX1.out
  have b5 := BX5.out
  refine wp_grow 18 120 (R6 w14.heap.size) (by kernel_rfl) rfl (by kernel_rfl) (R6_below _) ?_ ?_
  · refine ⟨?_, ?_, ?_, ?_, ?_, ?_, ?_, ?_, ?_, ?_, ?_, ?_, ?_, ?_, ?_, ?_, ?_, ?_, trivial⟩
    · intro a u hu hs
      refine ⟨trivial, op_val (by go_simp; try rfl) ⟨_, rfl, Below.refl _ _, rfl⟩⟩
    · intro a u hu hs
      refine ⟨trivial, op_val (by go_simp; try rfl) ⟨_, rfl, Below.refl _ _, rfl⟩⟩
    · intro a u hu hs h0 h1
      have e38 : a.tmps.getD 38 undef = .agg #[.string ⟨#[65]⟩, .bool true] := h0
      rw [Array.getD_eq_getD_getElem?] at e38
      have e39 : a.tmps.getD 39 undef = .agg #[.string ⟨#[66]⟩, .bool false] := h1
      rw [Array.getD_eq_getD_getElem?] at e39
      refine ⟨trivial, op_val (by go_simp; try rfl) ⟨_, rfl, below_alloc (Below.refl _ _) _, u.heap.size, rfl, ?_⟩⟩
      exact SC_two k42 (c := [.string ⟨#[65]⟩, .bool true]) (e := [.string ⟨#[66]⟩, .bool false]) (t := 42) (blk_new _ _) (by decide) (fun W _ => k42_mk W ⟨⟨#[65]⟩, true⟩) (fun W _ => k42_mk W ⟨⟨#[66]⟩, false⟩) rfl rfl
    · intro a u hu hs
      refine ⟨trivial, op_val (by go_simp; try rfl) ⟨_, rfl, below_alloc (Below.refl _ _) _, u.heap.size, rfl, ?_⟩⟩
      exact SC_two (Kd.int .i64) (c := [.int .i64 0]) (e := [.int .i64 1]) (t := 3) (blk_new _ _) (by decide) (fun W _ => rfl) (fun W _ => rfl) rfl rfl
    · intro a u hu hs h0
      obtain ⟨g, e41, k41⟩ : ∃ g, a.tmps.getD 41 undef = .slice (some ⟨g, 0, none⟩) 2 2 ∧ SC (Kd.int .i64) (some ⟨g, 0, none⟩) [0, 1] u := h0
      rw [Array.getD_eq_getD_getElem?] at e41
      refine ⟨trivial, op_val (by go_simp; try rfl) ⟨_, rfl, Below.refl _ _, g, rfl, k41⟩⟩
    · intro a u hu hs h0
      obtain ⟨g, e42, k42⟩ : ∃ g, a.tmps.getD 42 undef = .agg #[.string ⟨#[102]⟩, .slice (some ⟨g, 0, none⟩) 2 2, .bool true] ∧ SC (Kd.int .i64) (some ⟨g, 0, none⟩) [0, 1] u := h0
      rw [Array.getD_eq_getD_getElem?] at e42
      refine ⟨trivial, op_val (by go_simp; try rfl) ⟨_, rfl, below_alloc (Below.refl _ _) _, u.heap.size, rfl, ?_⟩⟩
      exact SC_one k45 (c := [.string ⟨#[102]⟩, .slice (some ⟨g, 0, none⟩) 2 2, .bool true]) (t := 45) (blk_new _ _) (by decide) (fun W hW => k45_mk W ⟨⟨#[102]⟩, [0, 1], true⟩ (Nat.le_refl _) ((k42.below (below_alloc (Below.refl _ _) _)) W hW)) rfl
    · intro a u hu hs
      refine ⟨trivial, op_val (by go_simp; try rfl) ⟨_, rfl, Below.refl _ _, rfl⟩⟩
    · intro a u hu hs h0
      have e44 : a.tmps.getD 44 undef = .agg #[.string ⟨#[120]⟩, .int .i64 1] := h0
      rw [Array.getD_eq_getD_getElem?] at e44
      refine ⟨trivial, op_val (by go_simp; try rfl) ⟨_, rfl, below_alloc (Below.refl _ _) _, u.heap.size, rfl, ?_⟩⟩
      exact SC_one k47 (c := [.string ⟨#[120]⟩, .int .i64 1]) (t := 47) (blk_new _ _) (by decide) (fun W hW => k47_mk W ⟨⟨#[120]⟩, 1⟩) rfl
    · intro a u hu hs
      have e5 : a.tmps.getD 5 undef = .pointer (some ⟨w14.heap.size, 0, none⟩) := hs 5 (by kernel_rfl)
      rw [Array.getD_eq_getD_getElem?] at e5
      obtain ⟨A, c, hbk, hl, hk⟩ := b5.below hu
      have z0 := blk_cell hbk 0
      have z1 := blk_cell hbk 1
      have z2 := blk_cell hbk 2
      have z3 := blk_cell hbk 3
      have z4 := blk_cell hbk 4
      refine ⟨trivial, op_val (by go_simp; try rfl) ⟨_, rfl, Below.refl _ _, A, c, rfl, hl, hk⟩⟩
    · intro a u hu hs h0 h1
      obtain ⟨g, e45, k45⟩ : ∃ g, a.tmps.getD 45 undef = .slice (some ⟨g, 0, none⟩) 1 1 ∧ SC k47 (some ⟨g, 0, none⟩) [⟨⟨#[120]⟩, 1⟩] u := h0
      rw [Array.getD_eq_getD_getElem?] at e45
      obtain ⟨A, c, e46, hl, hk⟩ : Nd xLess (a.tmps.getD 46 undef) u := h1
      rw [Array.getD_eq_getD_getElem?] at e46
      refine ⟨trivial, op_val (by go_simp; try rfl) ⟨_, rfl, Below.refl _ _, g, A, c, rfl, k45, hl, hk⟩⟩
    · intro a u hu hs h0
      obtain ⟨g, A, c, e47, k47', hl, hk⟩ : R6 w14.heap.size 9 (a.tmps.getD 47 undef) u := h0
      rw [Array.getD_eq_getD_getElem?] at e47
      refine ⟨trivial, op_val (by go_simp; try rfl) ⟨_, rfl, below_alloc (Below.refl _ _) _, u.heap.size, rfl, ?_⟩⟩
      exact SC_one k50 (c := [.string ⟨#[112]⟩, .slice (some ⟨g, 0, none⟩) 1 1, .int .i64 xLess.f0, .string xLess.f1, .int .i64 xLess.f2, .slice A xLess.f3.length c, .int .i64 xLess.f4]) (t := 50) (blk_new _ _) (by decide) (fun W hW => k50_mk W ⟨⟨#[112]⟩, [⟨⟨#[120]⟩, 1⟩], xLess⟩ (Nat.le_refl _) ((k47'.below (below_alloc (Below.refl _ _) _)) W hW) hl ((hk.below (below_alloc (Below.refl _ _) _)) W hW)) rfl
    · intro a u hu hs
      have e1 : a.tmps.getD 1 undef = .pointer (some ⟨w2.heap.size + 1, 0, none⟩) := hs 1 (by kernel_rfl)
      rw [Array.getD_eq_getD_getElem?] at e1
      obtain ⟨A, c, hbk, hl, hk⟩ := b1.below hu
      have z0 := blk_cell hbk 0
      have z1 := blk_cell hbk 1
      have z2 := blk_cell hbk 2
      have z3 := blk_cell hbk 3
      have z4 := blk_cell hbk 4
      refine ⟨trivial, op_val (by go_simp; try rfl) ⟨_, rfl, Below.refl _ _, A, c, rfl, hl, hk⟩⟩
    · intro a u hu hs
      refine ⟨trivial, op_callE (by go_simp; try rfl) ((call20_walk ⟨#[113]⟩ u).mono ?_)⟩
      rintro e w' ⟨v, rfl, hv, hb⟩
      exact ⟨v, rfl, v, rfl, hb, hv⟩
    · intro a u hu hs h0 h1 _
      obtain ⟨A, c, e49, hl, hk⟩ : Nd xAll (a.tmps.getD 49 undef) u := h0
      rw [Array.getD_eq_getD_getElem?] at e49
      obtain ⟨B, d, e50, hl2, hk2⟩ : Nd (nCall ⟨#[113]⟩) (a.tmps.getD 50 undef) u := h1
      rw [Array.getD_eq_getD_getElem?] at e50
      refine ⟨trivial, op_callE (by go_simp; try rfl) ((both_walk 41 xAll (nCall ⟨#[113]⟩) _ _ u ⟨A, c, rfl, hl, hk⟩ ⟨B, d, rfl, hl2, hk2⟩).mono ?_)⟩
      rintro e w' ⟨v, rfl, hv, hb⟩
      exact ⟨v, rfl, v, rfl, hb, hv⟩
    · intro a u hu hs h0
      obtain ⟨A, c, e51, hl, hk⟩ : Nd xOne (a.tmps.getD 51 undef) u := h0
      rw [Array.getD_eq_getD_getElem?] at e51
      refine ⟨trivial, op_val (by go_simp; try rfl) ⟨_, rfl, Below.refl _ _, A, c, rfl, hl, hk⟩⟩
    · intro a u hu hs h0
      obtain ⟨A, c, e52, hl, hk⟩ : R6 w14.heap.size 14 (a.tmps.getD 52 undef) u := h0
      rw [Array.getD_eq_getD_getElem?] at e52
      refine ⟨trivial, op_val (by go_simp; try rfl) ⟨_, rfl, below_alloc (Below.refl _ _) _, u.heap.size, rfl, ?_⟩⟩
      exact SC_one k52 (c := [.string ⟨#[113]⟩, .int .i64 xOne.f0, .string xOne.f1, .int .i64 xOne.f2, .slice A xOne.f3.length c, .int .i64 xOne.f4]) (t := 52) (blk_new _ _) (by decide) (fun W hW => k52_mk W ⟨⟨#[113]⟩, xOne⟩ hl ((hk.below (below_alloc (Below.refl _ _) _)) W hW)) rfl
    · intro a u hu hs h0 h1 h2 h3
      obtain ⟨g0, e40, k0⟩ : R6 w14.heap.size 2 (a.tmps.getD 40 undef) u := h0
      rw [Array.getD_eq_getD_getElem?] at e40
      obtain ⟨g1, e43, k1⟩ : R6 w14.heap.size 5 (a.tmps.getD 43 undef) u := h1
      rw [Array.getD_eq_getD_getElem?] at e43
      obtain ⟨g2, e48, k2⟩ : R6 w14.heap.size 10 (a.tmps.getD 48 undef) u := h2
      rw [Array.getD_eq_getD_getElem?] at e48
      obtain ⟨g3, e53, k3⟩ : R6 w14.heap.size 15 (a.tmps.getD 53 undef) u := h3
      rw [Array.getD_eq_getD_getElem?] at e53
      refine ⟨trivial, op_val (by go_simp; try rfl) ⟨_, rfl, Below.refl _ _, g0, g1, g2, g3, rfl, k0, k1, k2, k3⟩⟩
    · intro a u hu hs
      refine ⟨trivial, op_val (by go_simp; try rfl) ⟨_, rfl, below_alloc (Below.refl _ _) _, u.heap.size, rfl, by have := hu.size; simp at this; omega, blk_new _ _⟩⟩
  · clear b1 b5
    intro w15 hw15 v0 h0 v1 h1 v2 h2 v3 h3 v4 h4 v5 h5 v6 h6 v7 h7 v8 h8 v9 h9 v10 h10 v11 h11 v12 h12 v13 h13 v14 h14 v15 h15 v16 h16 v17 h17
    obtain ⟨g0, g1, g2, g3, rfl, k0, k1, k2, k3⟩ : R6 w14.heap.size 16 v16 w15 := h16
    obtain ⟨g, rfl, hge, hbk⟩ : R6 w14.heap.size 17 v17 w15 := h17
    clear h0 h1 h2 h3 h4 h5 h6 h7 h8 h9 h10 h11 h12 h13 h14 h15
    have BX1 := Aside0.mk (BX1.out.below hw15)
    have BX2 := Aside0.mk (BX2.out.below hw15)
    have BX3 := Aside0.mk (BX3.out.below hw15)
    have BX4 := Aside0.mk (BX4.out.below hw15)
    have BX5 := Aside0.mk (BX5.out.below hw15)
    have HB16 := Aside0.mk (below_step HB15.out hw15)
    have C0 := Aside0.mk k0
    have C1 := Aside0.mk k1
    have C2 := Aside0.mk k2
    have C3 := Aside0.mk k3
    have HK := Aside0.mk hbk
    have hu30 := Tryd.underlying30
    clear hw15 HB15 k0 k1 k2 k3
    refine endQ_nil ?_
    simp only [Act.put, List.setIfInBounds_toArray, List.set_cons_zero, List.set_cons_succ, List.drop_succ_cons, List.drop_zero]
    refine list_store (g := g) (u := .agg #[.slice (some ⟨g0, 0, none⟩) 2 2, .slice (some ⟨g1, 0, none⟩) 1 1, .slice (some ⟨g2, 0, none⟩) 1 1, .slice (some ⟨g3, 0, none⟩) 1 1]) (seg := [.slice (some ⟨g0, 0, none⟩) 2 2, .slice (some ⟨g1, 0, none⟩) 1 1, .slice (some ⟨g2, 0, none⟩) 1 1, .slice (some ⟨g3, 0, none⟩) 1 1]) rfl rfl rfl rfl rfl HK.out rfl (by kernel_rfl) rfl (by simp [Value.oneCell']) (n0 := w.heap.size) (by have := HB14.out.size; omega) ?_
    intro w16 hs1 hs2 hs3
    have hkt : KeepT w15 w16 := fun k cs t fr ht hk => by
      by_cases hkg : k = g
      · subst hkg; rw [HK.out] at hk; injection hk with hk; injection hk with _ hk _; exact absurd hk.symm ht
      · rw [hs3 k hkg]; exact hk
    have BX1 := Aside0.mk (BX1.out.keep hkt)
    have BX2 := Aside0.mk (BX2.out.keep hkt)
    have BX3 := Aside0.mk (BX3.out.keep hkt)
    have BX4 := Aside0.mk (BX4.out.keep hkt)
    have BX5 := Aside0.mk (BX5.out.keep hkt)
    have BX6 : Aside0 (Bs g w16) := ⟨⟨g0, g1, g2, g3, hs1, C0.out.keep hkt, C1.out.keep hkt, C2.out.keep hkt, C3.out.keep hkt⟩⟩
    have HB17 := Aside0.mk (HB16.out.trans hs2)
    clear hs1 hs2 hs3 hkt HK C0 C1 C2 C3 HB16 hge HB14
    go_wp2_with fail
    have b1 := BX1.out
    refine wp_grow 13 120 R7 (by kernel_rfl) rfl (by kernel_rfl) R7_below ?_ ?_
    · refine ⟨?_, ?_, ?_, ?_, ?_, ?_, ?_, ?_, ?_, ?_, ?_, ?_, ?_, trivial⟩
      · intro a u hu hs
        have e1 : a.tmps.getD 1 undef = .pointer (some ⟨w2.heap.size + 1, 0, none⟩) := hs 1 (by kernel_rfl)
        rw [Array.getD_eq_getD_getElem?] at e1
        obtain ⟨A, c, hbk, hl, hk⟩ := b1.below hu
        have z0 := blk_cell hbk 0
        have z1 := blk_cell hbk 1
        have z2 := blk_cell hbk 2
        have z3 := blk_cell hbk 3
        have z4 := blk_cell hbk 4
        refine ⟨trivial, op_val (by go_simp; try rfl) ⟨_, rfl, Below.refl _ _, A, c, rfl, hl, hk⟩⟩
      · intro a u hu hs
        refine ⟨trivial, op_callE (by go_simp; try rfl) ((call20_walk ⟨#[113]⟩ u).mono ?_)⟩
        rintro e w' ⟨v, rfl, hv, hb⟩
        exact ⟨v, rfl, v, rfl, hb, hv⟩
      · intro a u hu hs h0 h1 _
        obtain ⟨A, c, ex, hl, hk⟩ : Nd xAll (a.tmps.getD 55 undef) u := h0
        obtain ⟨B, d, ey, hl2, hk2⟩ : Nd (nCall ⟨#[113]⟩) (a.tmps.getD 56 undef) u := h1
        rw [Array.getD_eq_getD_getElem?] at ex ey
        refine ⟨trivial, op_callE (by go_simp; try rfl) ((both_walk 41 xAll (nCall ⟨#[113]⟩) _ _ u ⟨A, c, rfl, hl, hk⟩ ⟨B, d, rfl, hl2, hk2⟩).mono ?_)⟩
        rintro e w' ⟨v, rfl, hv, hb⟩
        exact ⟨v, rfl, v, rfl, hb, hv⟩
      · intro a u hu hs h0 _
        have hN : Nd xOne (a.tmps.getD 57 undef) u := h0
        obtain ⟨A, c, ex, hl, hk⟩ := hN
        rw [Array.getD_eq_getD_getElem?] at ex
        refine ⟨trivial, op_callE (by go_simp; try rfl) ((fm_one u _ ⟨A, c, rfl, hl, hk⟩ (HT.out.below (below_step HB17.out hu))).mono ?_)⟩
        rintro e w' ⟨rfl, hb⟩
        exact ⟨_, rfl, _, rfl, hb, rfl⟩
      · intro a u hu hs h0
        have ex : a.tmps.getD 58 undef = .string sOne := h0
        rw [Array.getD_eq_getD_getElem?] at ex
        unfold sOne at ex
        refine ⟨trivial, op_val (by go_simp; try rfl) ⟨_, rfl, Below.refl _ _, rfl⟩⟩
      · intro a u hu hs h0 _
        have ex : a.tmps.getD 59 undef = .bool true := h0
        rw [Array.getD_eq_getD_getElem?] at ex
        refine ⟨trivial, op_val (by go_simp; try rfl) ⟨_, rfl, Below.refl _ _, rfl⟩⟩
      · intro a u hu hs h5 _
        refine ⟨⟨60, rfl, h5⟩, op_callE (by go_simp; try rfl) ((call20_walk ⟨#[113]⟩ u).mono ?_)⟩
        rintro e w' ⟨v, rfl, hv, hb⟩
        exact ⟨v, rfl, v, rfl, hb, hv⟩
      · intro a u hu hs h5
        have e1 : a.tmps.getD 1 undef = .pointer (some ⟨w2.heap.size + 1, 0, none⟩) := hs 1 (by kernel_rfl)
        rw [Array.getD_eq_getD_getElem?] at e1
        obtain ⟨A, c, hbk, hl, hk⟩ := b1.below hu
        have z0 := blk_cell hbk 0
        have z1 := blk_cell hbk 1
        have z2 := blk_cell hbk 2
        have z3 := blk_cell hbk 3
        have z4 := blk_cell hbk 4
        refine ⟨⟨60, rfl, h5⟩, op_val (by go_simp; try rfl) ⟨_, rfl, Below.refl _ _, A, c, rfl, hl, hk⟩⟩
      · intro a u hu hs h0 h1 _ h5
        obtain ⟨A, c, ex, hl, hk⟩ : Nd (nCall ⟨#[113]⟩) (a.tmps.getD 61 undef) u := h0
        obtain ⟨B, d, ey, hl2, hk2⟩ : Nd xAll (a.tmps.getD 62 undef) u := h1
        rw [Array.getD_eq_getD_getElem?] at ex ey
        refine ⟨⟨60, rfl, h5⟩, op_callE (by go_simp; try rfl) ((both_walk 41 (nCall ⟨#[113]⟩) xAll _ _ u ⟨A, c, rfl, hl, hk⟩ ⟨B, d, rfl, hl2, hk2⟩).mono ?_)⟩
        rintro e w' ⟨v, rfl, hv, hb⟩
        exact ⟨v, rfl, v, rfl, hb, hv⟩
      · intro a u hu hs h0 _ h5
        have hN : Nd xTwo (a.tmps.getD 63 undef) u := h0
        obtain ⟨A, c, ex, hl, hk⟩ := hN
        rw [Array.getD_eq_getD_getElem?] at ex
        refine ⟨⟨60, rfl, h5⟩, op_callE (by go_simp; try rfl) ((fm_two u _ ⟨A, c, rfl, hl, hk⟩ (HT.out.below (below_step HB17.out hu))).mono ?_)⟩
        rintro e w' ⟨rfl, hb⟩
        exact ⟨_, rfl, _, rfl, hb, rfl⟩
      · intro a u hu hs h0 h5
        have ex : a.tmps.getD 64 undef = .string sTwo := h0
        rw [Array.getD_eq_getD_getElem?] at ex
        unfold sTwo at ex
        refine ⟨⟨60, rfl, h5⟩, op_val (by go_simp; try rfl) ⟨_, rfl, Below.refl _ _, rfl⟩⟩
      · intro a u hu hs h0 h1
        have ex : a.tmps.getD 60 undef = .bool true := h0
        have ey : a.tmps.getD 65 undef = .bool true := h1
        rw [Array.getD_eq_getD_getElem?] at ex ey
        refine ⟨trivial, op_val (by go_simp; try rfl) ⟨_, rfl, Below.refl _ _, rfl⟩⟩
      · intro a u hu hs h0 _ _ _ _ _ _ _ _ _ _ _ _ _
        have ex : a.tmps.getD 66 undef = .bool true := h0
        rw [Array.getD_eq_getD_getElem?] at ex
        refine ⟨trivial, op_val (by go_simp; try rfl) ⟨_, rfl, Below.refl _ _, rfl⟩⟩
    clear b1
    intro w18 hw18 v0 h0 v1 h1 v2 h2 v3 h3 v4 h4 v5 h5 v6 h6 v7 h7 v8 h8 v9 h9 v10 h10 v11 h11 v12 h12
    obtain rfl : v12 = .bool true := h12
    clear h0 h1 h2 h3 h4 h5 h6 h7 h8 h9 h10 h11
    have BX1 := Aside0.mk (BX1.out.below hw18)
    have BX2 := Aside0.mk (BX2.out.below hw18)
    have BX3 := Aside0.mk (BX3.out.below hw18)
    have BX4 := Aside0.mk (BX4.out.below hw18)
    have BX5 := Aside0.mk (BX5.out.below hw18)
    have BX6 := Aside0.mk (BX6.out.below hw18)
    have HB18 := Aside0.mk (below_step HB17.out hw18)
    clear hw18 HB17
    refine endQ_nil ?_
    simp only [Act.put, List.setIfInBounds_toArray, List.set_cons_zero, List.set_cons_succ, List.drop_succ_cons, List.drop_zero]
    obtain ⟨AA2, cc2, hbk2, hl2, hk2⟩ := BX2.out
    have HK2 := Aside0.mk hk2
    have z0 := blk_cell hbk2 0
    have z1 := blk_cell hbk2 1
    have z2 := blk_cell hbk2 2
    have z3 := blk_cell hbk2 3
    have z4 := blk_cell hbk2 4
    clear hk2 hbk2
    go_wp2_with fail
    refine (fm_sNot _ _ ⟨AA2, cc2, rfl, hl2, HK2.out⟩ (HT.out.below HB18.out)).mono ?_
    rintro e v2 ⟨rfl, hb⟩
    have hb' := hb
    replace HB18 := Aside0.mk (below_step HB18.out hb')
    clear hb' z0 z1 z2 z3 z4 HK2 hl2
    replace BX1 := Aside0.mk (BX1.out.below hb)
    replace BX2 := Aside0.mk (BX2.out.below hb)
    replace BX3 := Aside0.mk (BX3.out.below hb)
    replace BX4 := Aside0.mk (BX4.out.below hb)
    replace BX5 := Aside0.mk (BX5.out.below hb)
    replace BX6 := Aside0.mk (BX6.out.below hb)
    clear hb
    unfold sNot
    obtain ⟨AA3, cc3, hbk3, hl3, hk3⟩ := BX3.out
    have HK3 := Aside0.mk hk3
    have z0 := blk_cell hbk3 0
    have z1 := blk_cell hbk3 1
    have z2 := blk_cell hbk3 2
    have z3 := blk_cell hbk3 3
    have z4 := blk_cell hbk3 4
    clear hk3 hbk3
    go_wp2_with fail
    refine (fm_sDiff _ _ ⟨AA3, cc3, rfl, hl3, HK3.out⟩ (HT.out.below HB18.out)).mono ?_
    rintro e v3 ⟨rfl, hb⟩
    have hb' := hb
    replace HB18 := Aside0.mk (below_step HB18.out hb')
    clear hb' z0 z1 z2 z3 z4 HK3 hl3
    replace BX1 := Aside0.mk (BX1.out.below hb)
    replace BX2 := Aside0.mk (BX2.out.below hb)
    replace BX3 := Aside0.mk (BX3.out.below hb)
    replace BX4 := Aside0.mk (BX4.out.below hb)
    replace BX5 := Aside0.mk (BX5.out.below hb)
    replace BX6 := Aside0.mk (BX6.out.below hb)
    clear hb
    unfold sDiff
    obtain ⟨AA4, cc4, hbk4, hl4, hk4⟩ := BX4.out
    have HK4 := Aside0.mk hk4
    have z0 := blk_cell hbk4 0
    have z1 := blk_cell hbk4 1
    have z2 := blk_cell hbk4 2
    have z3 := blk_cell hbk4 3
    have z4 := blk_cell hbk4 4
    clear hk4 hbk4
    go_wp2_with fail
    refine (fm_sJoin _ _ ⟨AA4, cc4, rfl, hl4, HK4.out⟩ (HT.out.below HB18.out)).mono ?_
    rintro e v4 ⟨rfl, hb⟩
    have hb' := hb
    replace HB18 := Aside0.mk (below_step HB18.out hb')
    clear hb' z0 z1 z2 z3 z4 HK4 hl4
    replace BX1 := Aside0.mk (BX1.out.below hb)
    replace BX2 := Aside0.mk (BX2.out.below hb)
    replace BX3 := Aside0.mk (BX3.out.below hb)
    replace BX4 := Aside0.mk (BX4.out.below hb)
    replace BX5 := Aside0.mk (BX5.out.below hb)
    replace BX6 := Aside0.mk (BX6.out.below hb)
    clear hb
    unfold sJoin
    obtain ⟨AA5, cc5, hbk5, hl5, hk5⟩ := BX5.out
    have HK5 := Aside0.mk hk5
    have z0 := blk_cell hbk5 0
    have z1 := blk_cell hbk5 1
    have z2 := blk_cell hbk5 2
    have z3 := blk_cell hbk5 3
    have z4 := blk_cell hbk5 4
    clear hk5 hbk5
    go_wp2_with fail
    refine (fm_sLess _ _ ⟨AA5, cc5, rfl, hl5, HK5.out⟩ (HT.out.below HB18.out)).mono ?_
    rintro e v5 ⟨rfl, hb⟩
    have hb' := hb
    replace HB18 := Aside0.mk (below_step HB18.out hb')
    clear hb' z0 z1 z2 z3 z4 HK5 hl5
    replace BX1 := Aside0.mk (BX1.out.below hb)
    replace BX2 := Aside0.mk (BX2.out.below hb)
    replace BX3 := Aside0.mk (BX3.out.below hb)
    replace BX4 := Aside0.mk (BX4.out.below hb)
    replace BX5 := Aside0.mk (BX5.out.below hb)
    replace BX6 := Aside0.mk (BX6.out.below hb)
    clear hb
    unfold sLess
    obtain ⟨g0, g1, g2, g3, hbk6, k0, k1, k2, k3⟩ := BX6.out
    have HS6 : Aside0 (SpK _ xSp [.slice (some ⟨g0, 0, none⟩) 2 2, .slice (some ⟨g1, 0, none⟩) 1 1, .slice (some ⟨g2, 0, none⟩) 1 1, .slice (some ⟨g3, 0, none⟩) 1 1]) := ⟨⟨some ⟨g0, 0, none⟩, some ⟨g1, 0, none⟩, some ⟨g2, 0, none⟩, some ⟨g3, 0, none⟩, 2, 1, 1, 1, rfl, k0.now, k1.now, k2.now, k3.now⟩⟩
    have z0 := blk_cell hbk6 0
    have z1 := blk_cell hbk6 1
    have z2 := blk_cell hbk6 2
    have z3 := blk_cell hbk6 3
    clear k0 k1 k2 k3 hbk6
    go_wp2_with fail
    refine (spec_walk xSp xSp_ok _ _ HS6.out (HT.out.below HB18.out) (by decide +kernel)).mono ?_
    rintro e v9 ⟨rfl, hb⟩
    replace HB18 := Aside0.mk (below_step HB18.out hb)
    clear z0 z1 z2 z3 HS6
    replace BX1 := Aside0.mk (BX1.out.below hb)
    replace BX2 := Aside0.mk (BX2.out.below hb)
    replace BX6 := Aside0.mk (BX6.out.below hb)
    clear hb BX3 BX4 BX5
    rw [sSpec_eq]
    go_wp2_with fail
    have b1 := BX1.out
    have b2 := BX2.out
    have b6 := BX6.out
    refine wp_grow 33 120 R10 (by kernel_rfl) rfl (by kernel_rfl) R10_below ?_ ?_
    · refine ⟨?_, ?_, ?_, ?_, ?_, ?_, ?_, ?_, ?_, ?_, ?_, ?_, ?_, ?_, ?_, ?_, ?_, ?_, ?_, ?_, ?_, ?_, ?_, ?_, ?_, ?_, ?_, ?_, ?_, ?_, ?_, ?_, ?_, trivial⟩
      · intro a u hu hs 
        have ex0 : a.tmps.getD 7 undef = .bool true := hs 7 (by kernel_rfl)
        rw [Array.getD_eq_getD_getElem?] at ex0
        refine ⟨trivial, op_val (by go_simp; try rfl) ⟨_, rfl, Below.refl _ _, rfl⟩⟩
      · intro a u hu hs h0
        have ex0 : a.tmps.getD 88 undef = .bool true := h0
        rw [Array.getD_eq_getD_getElem?] at ex0
        refine ⟨trivial, op_val (by go_simp; try rfl) ⟨_, rfl, Below.refl _ _, rfl⟩⟩
      · intro a u hu hs h0
        have ex0 : a.tmps.getD 8 undef = .bool true := hs 8 (by kernel_rfl)
        rw [Array.getD_eq_getD_getElem?] at ex0
        refine ⟨⟨89, rfl, h0⟩, op_val (by go_simp; try rfl) ⟨_, rfl, Below.refl _ _, rfl⟩⟩
      · intro a u hu hs h0 h1
        have ex0 : a.tmps.getD 89 undef = .bool true := h0
        rw [Array.getD_eq_getD_getElem?] at ex0
        have ex1 : a.tmps.getD 90 undef = .bool true := h1
        rw [Array.getD_eq_getD_getElem?] at ex1
        refine ⟨trivial, op_val (by go_simp; try rfl) ⟨_, rfl, Below.refl _ _, rfl⟩⟩
      · intro a u hu hs h0 _
        have ex0 : a.tmps.getD 91 undef = .bool true := h0
        rw [Array.getD_eq_getD_getElem?] at ex0
        refine ⟨trivial, op_val (by go_simp; try rfl) ⟨_, rfl, Below.refl _ _, rfl⟩⟩
      · intro a u hu hs h0
        have ex0 : a.tmps.getD 9 undef = .bool true := hs 9 (by kernel_rfl)
        rw [Array.getD_eq_getD_getElem?] at ex0
        refine ⟨⟨92, rfl, h0⟩, op_val (by go_simp; try rfl) ⟨_, rfl, Below.refl _ _, rfl⟩⟩
      · intro a u hu hs h0 h1
        have ex0 : a.tmps.getD 92 undef = .bool true := h0
        rw [Array.getD_eq_getD_getElem?] at ex0
        have ex1 : a.tmps.getD 93 undef = .bool true := h1
        rw [Array.getD_eq_getD_getElem?] at ex1
        refine ⟨trivial, op_val (by go_simp; try rfl) ⟨_, rfl, Below.refl _ _, rfl⟩⟩
      · intro a u hu hs h0 _
        have ex0 : a.tmps.getD 94 undef = .bool true := h0
        rw [Array.getD_eq_getD_getElem?] at ex0
        refine ⟨trivial, op_val (by go_simp; try rfl) ⟨_, rfl, Below.refl _ _, rfl⟩⟩
      · intro a u hu hs h0
        have e1 : a.tmps.getD 1 undef = .pointer (some ⟨w2.heap.size + 1, 0, none⟩) := hs 1 (by kernel_rfl)
        rw [Array.getD_eq_getD_getElem?] at e1
        obtain ⟨A, c, hbk, hl, hk⟩ := b1.below hu
        have z0 := blk_cell hbk 0
        have z1 := blk_cell hbk 1
        have z2 := blk_cell hbk 2
        have z3 := blk_cell hbk 3
        have z4 := blk_cell hbk 4
        refine ⟨⟨95, rfl, h0⟩, op_val (by go_simp; try rfl) ⟨_, rfl, Below.refl _ _, A, c, rfl, hl, hk⟩⟩
      · intro a u hu hs h7 _
        refine ⟨⟨95, rfl, h7⟩, op_callE (by go_simp; try rfl) ((name19_walk ⟨#[65]⟩ u).mono ?_)⟩
        rintro e w' ⟨v, rfl, hv, hb⟩
        exact ⟨v, rfl, v, rfl, hb, hv⟩
      · intro a u hu hs _ h7
        refine ⟨⟨95, rfl, h7⟩, op_callE (by go_simp; try rfl) ((call20_walk ⟨#[112]⟩ u).mono ?_)⟩
        rintro e w' ⟨v, rfl, hv, hb⟩
        exact ⟨v, rfl, v, rfl, hb, hv⟩
      · intro a u hu hs h0 h1 h7
        obtain ⟨A, c, ex, hl, hk⟩ : Nd (nName ⟨#[65]⟩) (a.tmps.getD 97 undef) u := h0
        obtain ⟨B, d, ey, hl2, hk2⟩ : Nd (nCall ⟨#[112]⟩) (a.tmps.getD 98 undef) u := h1
        rw [Array.getD_eq_getD_getElem?] at ex ey
        refine ⟨⟨95, rfl, h7⟩, op_val (by go_simp; try rfl) ⟨_, rfl, below_alloc (Below.refl _ _) _, u.heap.size, rfl, ?_⟩⟩
        exact SC_two k24 (c := ndCs (nName ⟨#[65]⟩) A c) (e := ndCs (nCall ⟨#[112]⟩) B d) (blk_new _ _) (by decide) (ndK _ hl (hk.below (below_alloc (Below.refl _ _) _))) (ndK _ hl2 (hk2.below (below_alloc (Below.refl _ _) _))) rfl rfl
      · intro a u hu hs h0 h7
        obtain ⟨g', ex, hk⟩ : R10 11 (a.tmps.getD 99 undef) u := h0
        rw [Array.getD_eq_getD_getElem?] at ex
        refine ⟨⟨95, rfl, h7⟩, op_val (by go_simp; exact ⟨rfl, rfl, rfl, rfl, rfl⟩) ⟨_, rfl, Below.refl _ _, some ⟨g', 0, none⟩, 2, rfl, Nat.le_refl _, hk⟩⟩
      · intro a u hu hs h0 h1 _ h7
        obtain ⟨A, c, ex, hl, hk⟩ : Nd xAll (a.tmps.getD 96 undef) u := h0
        obtain ⟨B, d, ey, hl2, hk2⟩ : Nd xAll7 (a.tmps.getD 100 undef) u := h1
        rw [Array.getD_eq_getD_getElem?] at ex ey
        refine ⟨⟨95, rfl, h7⟩, op_callE (by go_simp; exact ⟨rfl, rfl⟩) ((eqN_walk _ xAll xAll7 _ (ndCs xAll A c) (ndCs xAll7 B d) (Nat.lt_succ_self _) (k24_mk _ _ hl hk.now) (k24_mk _ _ hl2 hk2.now)).mono ?_)⟩
        rintro e w' ⟨rfl, hb⟩
        exact ⟨_, rfl, _, rfl, hb, by rw [xe1]; rfl⟩
      · intro a u hu hs h0 h1
        have ex0 : a.tmps.getD 95 undef = .bool true := h0
        rw [Array.getD_eq_getD_getElem?] at ex0
        have ex1 : a.tmps.getD 101 undef = .bool true := h1
        rw [Array.getD_eq_getD_getElem?] at ex1
        refine ⟨trivial, op_val (by go_simp; try rfl) ⟨_, rfl, Below.refl _ _, rfl⟩⟩
      · intro a u hu hs h0 _
        have ex0 : a.tmps.getD 102 undef = .bool true := h0
        rw [Array.getD_eq_getD_getElem?] at ex0
        refine ⟨trivial, op_val (by go_simp; try rfl) ⟨_, rfl, Below.refl _ _, rfl⟩⟩
      · intro a u hu hs h0
        have e1 : a.tmps.getD 1 undef = .pointer (some ⟨w2.heap.size + 1, 0, none⟩) := hs 1 (by kernel_rfl)
        rw [Array.getD_eq_getD_getElem?] at e1
        obtain ⟨A, c, hbk, hl, hk⟩ := b1.below hu
        have z0 := blk_cell hbk 0
        have z1 := blk_cell hbk 1
        have z2 := blk_cell hbk 2
        have z3 := blk_cell hbk 3
        have z4 := blk_cell hbk 4
        refine ⟨⟨103, rfl, h0⟩, op_val (by go_simp; try rfl) ⟨_, rfl, Below.refl _ _, A, c, rfl, hl, hk⟩⟩
      · intro a u hu hs h0
        have e1 : a.tmps.getD 2 undef = .pointer (some ⟨w3.heap.size + 1, 0, none⟩) := hs 2 (by kernel_rfl)
        rw [Array.getD_eq_getD_getElem?] at e1
        obtain ⟨A, c, hbk, hl, hk⟩ := b2.below hu
        have z0 := blk_cell hbk 0
        have z1 := blk_cell hbk 1
        have z2 := blk_cell hbk 2
        have z3 := blk_cell hbk 3
        have z4 := blk_cell hbk 4
        refine ⟨⟨103, rfl, h0⟩, op_val (by go_simp; try rfl) ⟨_, rfl, Below.refl _ _, A, c, rfl, hl, hk⟩⟩
      · intro a u hu hs h0 h1 _ h7
        obtain ⟨A, c, ex, hl, hk⟩ : Nd xAll (a.tmps.getD 104 undef) u := h0
        obtain ⟨B, d, ey, hl2, hk2⟩ : Nd xNot (a.tmps.getD 105 undef) u := h1
        rw [Array.getD_eq_getD_getElem?] at ex ey
        refine ⟨⟨103, rfl, h7⟩, op_callE (by go_simp; exact ⟨rfl, rfl⟩) ((eqN_walk _ xAll xNot _ (ndCs xAll A c) (ndCs xNot B d) (Nat.lt_succ_self _) (k24_mk _ _ hl hk.now) (k24_mk _ _ hl2 hk2.now)).mono ?_)⟩
        rintro e w' ⟨rfl, hb⟩
        exact ⟨_, rfl, _, rfl, hb, by rw [xe2]; rfl⟩
      · intro a u hu hs h0 h1
        have ex0 : a.tmps.getD 106 undef = .bool false := h0
        rw [Array.getD_eq_getD_getElem?] at ex0
        refine ⟨⟨103, rfl, h1⟩, op_val (by go_simp; try rfl) ⟨_, rfl, Below.refl _ _, rfl⟩⟩
      · intro a u hu hs h0 h1
        have ex0 : a.tmps.getD 103 undef = .bool true := h0
        rw [Array.getD_eq_getD_getElem?] at ex0
        have ex1 : a.tmps.getD 107 undef = .bool true := h1
        rw [Array.getD_eq_getD_getElem?] at ex1
        refine ⟨trivial, op_val (by go_simp; try rfl) ⟨_, rfl, Below.refl _ _, rfl⟩⟩
      · intro a u hu hs h0 _
        have ex0 : a.tmps.getD 108 undef = .bool true := h0
        rw [Array.getD_eq_getD_getElem?] at ex0
        refine ⟨trivial, op_val (by go_simp; try rfl) ⟨_, rfl, Below.refl _ _, rfl⟩⟩
      · intro a u hu hs h0
        have e1 : a.tmps.getD 6 undef = .pointer (some ⟨g, 0, none⟩) := hs 6 (by kernel_rfl)
        rw [Array.getD_eq_getD_getElem?] at e1
        obtain ⟨g0, g1, g2, g3, hbk, k0, k1, k2, k3⟩ := b6.below hu
        have z0 := blk_cell hbk 0
        have z1 := blk_cell hbk 1
        have z2 := blk_cell hbk 2
        have z3 := blk_cell hbk 3
        refine ⟨⟨109, rfl, h0⟩, op_val (by go_simp; try rfl) ⟨_, rfl, Below.refl _ _, g0, g1, g2, g3, rfl, k0, k1, k2, k3⟩⟩
      · intro a u hu hs h0
        have e1 : a.tmps.getD 6 undef = .pointer (some ⟨g, 0, none⟩) := hs 6 (by kernel_rfl)
        rw [Array.getD_eq_getD_getElem?] at e1
        obtain ⟨g0, g1, g2, g3, hbk, k0, k1, k2, k3⟩ := b6.below hu
        have z0 := blk_cell hbk 0
        have z1 := blk_cell hbk 1
        have z2 := blk_cell hbk 2
        have z3 := blk_cell hbk 3
        refine ⟨⟨109, rfl, h0⟩, op_val (by go_simp; try rfl) ⟨_, rfl, Below.refl _ _, g0, g1, g2, g3, rfl, k0, k1, k2, k3⟩⟩
      · intro a u hu hs h0 h1 _ h7
        obtain ⟨g0, g1, g2, g3, ex, k0, k1, k2, k3⟩ : R10 22 (a.tmps.getD 110 undef) u := h0
        obtain ⟨p0, p1, p2, p3, ey, q0, q1, q2, q3⟩ : R10 23 (a.tmps.getD 111 undef) u := h1
        rw [Array.getD_eq_getD_getElem?] at ex ey
        refine ⟨⟨109, rfl, h7⟩, op_callE (by go_simp; try rfl) ((eqSpec_walk xSp xSp _ [.slice (some ⟨g0, 0, none⟩) 2 2, .slice (some ⟨g1, 0, none⟩) 1 1, .slice (some ⟨g2, 0, none⟩) 1 1, .slice (some ⟨g3, 0, none⟩) 1 1] [.slice (some ⟨p0, 0, none⟩) 2 2, .slice (some ⟨p1, 0, none⟩) 1 1, .slice (some ⟨p2, 0, none⟩) 1 1, .slice (some ⟨p3, 0, none⟩) 1 1] ⟨some ⟨g0, 0, none⟩, some ⟨g1, 0, none⟩, some ⟨g2, 0, none⟩, some ⟨g3, 0, none⟩, 2, 1, 1, 1, rfl, k0.now, k1.now, k2.now, k3.now⟩ ⟨some ⟨p0, 0, none⟩, some ⟨p1, 0, none⟩, some ⟨p2, 0, none⟩, some ⟨p3, 0, none⟩, 2, 1, 1, 1, rfl, q0.now, q1.now, q2.now, q3.now⟩).mono ?_)⟩
        rintro e w' ⟨rfl, hb⟩
        exact ⟨_, rfl, _, rfl, hb, by rw [xe3]; rfl⟩
      · intro a u hu hs h0 h1
        have ex0 : a.tmps.getD 109 undef = .bool true := h0
        rw [Array.getD_eq_getD_getElem?] at ex0
        have ex1 : a.tmps.getD 112 undef = .bool true := h1
        rw [Array.getD_eq_getD_getElem?] at ex1
        refine ⟨trivial, op_val (by go_simp; try rfl) ⟨_, rfl, Below.refl _ _, rfl⟩⟩
      · intro a u hu hs h0 _
        have ex0 : a.tmps.getD 113 undef = .bool true := h0
        rw [Array.getD_eq_getD_getElem?] at ex0
        refine ⟨trivial, op_val (by go_simp; try rfl) ⟨_, rfl, Below.refl _ _, rfl⟩⟩
      · intro a u hu hs h0
        have e1 : a.tmps.getD 6 undef = .pointer (some ⟨g, 0, none⟩) := hs 6 (by kernel_rfl)
        rw [Array.getD_eq_getD_getElem?] at e1
        obtain ⟨g0, g1, g2, g3, hbk, k0, k1, k2, k3⟩ := b6.below hu
        have z0 := blk_cell hbk 0
        have z1 := blk_cell hbk 1
        have z2 := blk_cell hbk 2
        have z3 := blk_cell hbk 3
        refine ⟨⟨114, rfl, h0⟩, op_val (by go_simp; try rfl) ⟨_, rfl, Below.refl _ _, g0, g1, g2, g3, rfl, k0, k1, k2, k3⟩⟩
      · intro a u hu hs h7
        refine ⟨⟨114, rfl, h7⟩, op_val (by go_simp; try rfl) ⟨_, rfl, Below.refl _ _, rfl⟩⟩
      · intro a u hu hs h0 h1 _ h7
        obtain ⟨g0, g1, g2, g3, ex, k0, k1, k2, k3⟩ : R10 27 (a.tmps.getD 115 undef) u := h0
        have ey : a.tmps.getD 116 undef = .agg #[.slice none 0 0, .slice none 0 0, .slice none 0 0, .slice none 0 0] := h1
        rw [Array.getD_eq_getD_getElem?] at ex ey
        refine ⟨⟨114, rfl, h7⟩, op_callE (by go_simp; try rfl) ((eqSpec_walk xSp ⟨[], [], [], []⟩ _ [.slice (some ⟨g0, 0, none⟩) 2 2, .slice (some ⟨g1, 0, none⟩) 1 1, .slice (some ⟨g2, 0, none⟩) 1 1, .slice (some ⟨g3, 0, none⟩) 1 1] [.slice none 0 0, .slice none 0 0, .slice none 0 0, .slice none 0 0] ⟨some ⟨g0, 0, none⟩, some ⟨g1, 0, none⟩, some ⟨g2, 0, none⟩, some ⟨g3, 0, none⟩, 2, 1, 1, 1, rfl, k0.now, k1.now, k2.now, k3.now⟩ ⟨none, none, none, none, 0, 0, 0, 0, rfl, Kd.C_nil _ _, Kd.C_nil _ _, Kd.C_nil _ _, Kd.C_nil _ _⟩).mono ?_)⟩
        rintro e w' ⟨rfl, hb⟩
        exact ⟨_, rfl, _, rfl, hb, by rw [xe4]; rfl⟩
      · intro a u hu hs h0 h1
        have ex0 : a.tmps.getD 117 undef = .bool false := h0
        rw [Array.getD_eq_getD_getElem?] at ex0
        refine ⟨⟨114, rfl, h1⟩, op_val (by go_simp; try rfl) ⟨_, rfl, Below.refl _ _, rfl⟩⟩
      · intro a u hu hs h0 h1
        have ex0 : a.tmps.getD 114 undef = .bool true := h0
        rw [Array.getD_eq_getD_getElem?] at ex0
        have ex1 : a.tmps.getD 118 undef = .bool true := h1
        rw [Array.getD_eq_getD_getElem?] at ex1
        refine ⟨trivial, op_val (by go_simp; try rfl) ⟨_, rfl, Below.refl _ _, rfl⟩⟩
      · intro a u hu hs h0 _ _ _ _ _ _ _ _ _ _ _ _ _ _ _ _ _ _ _ _ _ _ _ _ _ _ _ _ _ _ _ _ _
        have ex0 : a.tmps.getD 119 undef = .bool true := h0
        rw [Array.getD_eq_getD_getElem?] at ex0
        refine ⟨trivial, op_val (by go_simp; try rfl) ⟨_, rfl, Below.refl _ _, rfl⟩⟩
    clear b1 b2 b6
    intro w19 hw19 v0 h0 v1 h1 v2 h2 v3 h3 v4 h4 v5 h5 v6 h6 v7 h7 v8 h8 v9 h9 v10 h10 v11 h11 v12 h12 v13 h13 v14 h14 v15 h15 v16 h16 v17 h17 v18 h18 v19 h19 v20 h20 v21 h21 v22 h22 v23 h23 v24 h24 v25 h25 v26 h26 v27 h27 v28 h28 v29 h29 v30 h30 v31 h31 v32 h32
    obtain rfl : v32 = .bool true := h32
    clear h0 h1 h2 h3 h4 h5 h6 h7 h8 h9 h10 h11 h12 h13 h14 h15 h16 h17 h18 h19 h20 h21 h22 h23 h24 h25 h26 h27 h28 h29 h30 h31
    replace HB18 := Aside0.mk (below_step HB18.out hw19)
    clear hw19 BX1 BX2 BX6
    refine endQ_nil ?_
    simp only [Act.put, List.setIfInBounds_toArray, List.set_cons_zero, List.set_cons_succ, List.drop_succ_cons, List.drop_zero]
    go_wp2_with fail
    go_ret
    exact ⟨rfl, HB18.out⟩
end Go.Proofs.YtgdiodhaihmnbaaDoor.Own
namespace Go.Proofs.YtgdiodhaihmnbaaDoor.Own
open Go.RowKit Go.Proofs.YtgdiodhaihmnbaaDoorW.PrintWords Go.Proofs.YtgdiodhaihmnbaaDoorW.PrintLast Go.Proofs.YtgdiodhaihmnbaaDoorW.PrintMore Go.Proofs.YtgdiodhaihmnbaaDoor.PPrinterMatchesReference
end Go.Proofs.YtgdiodhaihmnbaaDoor.Own
namespace Go.Proofs.YtgdiodhaihmnbaaDoor.Own
open Go.Proofs.YtgdiodhaihmnbaaDoor.PPrinterMatchesReference
theorem read_back {x : S24} {lv : Int} (h : frmN x lv = true) : Par 1 (toks x true) (strip x, []) := by
  have hg := good_tree _ x (Nat.lt_succ_self _) lv h
  have := hg.part true [] 1 (strip x, []) (lvl_pos _).1 ⟨⟨rfl, rfl, rfl⟩, fun l hl => by cases hl⟩ (Or.inl rfl) (lop_stop fun l hl => by cases hl)
  rwa [List.append_nil] at this
theorem lex_whole {x : S24} {lv : Int} (h : frmN x lv = true) : lexB (txt x true) = toks x true := by
  have := lex_txt _ x (Nat.lt_succ_self _) lv h true [] (fun c q e => by cases e)
  rwa [List.append_nil, lex_nil, List.append_nil] at this
theorem txt_some {x : S24} {l : Int} (hx : frmN x l = true) : txt x true ≠ [] := by
  intro h
  have h1 := read_back hx
  rw [← lex_whole hx, h, lex_nil] at h1
  exact par_nil h1
mutual
/-- The number of a tree's nodes. -/
def nN : S24 → Nat
  | ⟨_, _, _, ks, _⟩ => 1 + nL ks
def nL : List S24 → Nat
  | [] => 0
  | x :: r => nN x + nL r
end
theorem nN_def (x : S24) : nN x = 1 + nL x.f3 := by cases x; rw [nN]
mutual
theorem cnt_is : ∀ (x : S24) (left : Int), cntN x left ≤ left → (nN x : Int) = cntN x left
  | ⟨_, _, _, ks, _⟩, left, h => by
    rw [cntN] at h ⊢
    rw [nN]
    have := cntL_is ks left 1 h
    omega
theorem cntL_is : ∀ (l : List S24) (left sum : Int), cntL l left sum ≤ left → sum + (nL l : Int) = cntL l left sum
  | [], left, sum, _ => by rw [cntL, nL]; omega
  | x :: r, left, sum, h => by
    rw [cntL] at h ⊢
    rw [nL]
    by_cases hs : sum ≤ left
    · rw [if_pos hs] at h ⊢
      have h1 := cntL_is r left _ h
      have h2 := cnt_is x (left - sum) (by omega)
      omega
    · rw [if_neg hs] at h
      omega
end
theorem name_len {s : ByteArray} (h : nameB s = true) : s.data.toList.length ≤ 16 := by
  simp only [nameB, Bool.and_eq_true, decide_eq_true_eq] at h
  have := h.1.1.2
  have hl : s.data.toList.length = s.size := Array.length_toList
  omega
theorem itoa_len : ∀ k : Fin 65, (Lib.itoa (k.val : Int)).length ≤ 2 := by decide +kernel
theorem itoa_len2 (n : Int) (h0 : -64 ≤ n) (h1 : n ≤ 64) : (Lib.itoa n).length ≤ 3 := by
  by_cases hn : n < 0
  · obtain ⟨k, rfl⟩ : ∃ k : Nat, n = -(k : Int) := ⟨(-n).toNat, by omega⟩
    have h2 := itoa_len ⟨k, by omega⟩
    have h3 := (itoa_digs ⟨k, by omega⟩).2 (by show 1 ≤ k; omega)
    simp only at h2 h3
    rw [h3, List.length_cons]
    omega
  · obtain ⟨k, rfl⟩ : ∃ k : Nat, n = (k : Int) := ⟨n.toNat, by omega⟩
    have h2 := itoa_len ⟨k, by omega⟩
    simp only at h2
    omega
def Short (x : S24) : Prop := ∀ fin, (txt x fin).length + 4 ≤ 100 * nN x
theorem opr_len {x : S24} (h : Short x) (need : Int) (fin : Bool) : (opr x need fin).length + 2 ≤ 100 * nN x := by
  unfold opr
  have h1 := h fin
  have h2 := h true
  split
  · omega
  · simp only [List.length_append, List.length_cons, List.length_nil]; omega
theorem two_len {ks : List S24} (h : ∀ y ∈ ks, Short y) (a b : Int) (f g : Bool) : (opd ks 0 a f).length + (opd ks 1 b g).length ≤ 100 * nL ks := by
  match ks, h with
  | [], _ => simp [opd]
  | [x], h =>
    have := opr_len (h x List.mem_cons_self) a f
    have e : opd [x] 1 b g = [] := by simp [opd]
    have e2 : opd [x] 0 a f = opr x a f := by rw [opd, opr]
    rw [e, e2, nL, nL, List.length_nil]; omega
  | x :: y :: r, h =>
    have h1 := opr_len (h x List.mem_cons_self) a f
    have h2 := opr_len (h y (List.mem_cons_of_mem _ List.mem_cons_self)) b g
    have e1 : opd (x :: y :: r) 0 a f = opr x a f := by rw [opd, opr]
    have e2 : opd (x :: y :: r) 1 b g = opr y b g := by rw [opd, opd, opr]
    rw [e1, e2, nL, nL]; omega
theorem bnd_len {x : S24} (h : ∀ y ∈ x.f3, Short y) (hn : nameB x.f1 = true) : (bnd x).length ≤ 30 + 100 * nL x.f3 := by
  have hl := name_len hn
  have hk : (opd x.f3 0 8 true).length + (nod x.f3 1).length ≤ 100 * nL x.f3 := by
    match hks : x.f3, h with
    | [], _ => simp [opd, nod]
    | [y], h =>
      have := opr_len (h y List.mem_cons_self) 8 true
      have e : nod [y] 1 = [] := by simp [nod]
      have e2 : opd [y] 0 8 true = opr y 8 true := by rw [opd, opr]
      rw [e, e2, nL, nL, List.length_nil]; omega
    | y :: z :: r, h =>
      have h1 := opr_len (h y List.mem_cons_self) 8 true
      have h2 := h z (List.mem_cons_of_mem _ List.mem_cons_self) true
      have e1 : opd (y :: z :: r) 0 8 true = opr y 8 true := by rw [opd, opr]
      have e2 : nod (y :: z :: r) 1 = txt z true := by rw [nod, nod]
      rw [e1, e2, nL, nL]; omega
  unfold bnd
  simp only [List.length_append, List.length_cons, List.length_nil]
  omega
theorem argl_len : ∀ (ks : List S24) (first : Bool), (∀ y ∈ ks, Short y) → (argl ks first).length ≤ 100 * nL ks
  | [], _, _ => by simp [argl]
  | x :: r, first, h => by
    have h1 := opr_len (h x List.mem_cons_self) 8 true
    have h2 := argl_len r false fun y hy => h y (List.mem_cons_of_mem _ hy)
    rw [argl_cons, nL]
    simp only [List.length_append]
    have : (if first = true then ([] : List UInt8) else [44, 32]).length ≤ 2 := by split <;> simp
    omega
theorem bin_len : ∀ v ∈ binT, v.2.1.length ≤ 11 := by decide
theorem pre_len : ∀ v ∈ preT, v.2.1.length ≤ 11 := by decide
theorem txt_len (n : Nat) : ∀ x : S24, SizeOf.sizeOf x < n → ∀ lv, frmN x lv = true → Short x := by
  induction n with
  | zero => intro x h; omega
  | succ n ih =>
    intro x hx lv hf fin
    obtain ⟨hown, hfit, hkids⟩ := frm_own hf
    have hk : ∀ y ∈ x.f3, Short y := fun y hy => ih y (by have := size_kid hy; omega) (lv - 1) (frmL_mem hkids y hy)
    rw [txt_def, nN_def]
    cases hb : atT x.f0 binT with
    | some v =>
      obtain ⟨t, l, a, b⟩ := v
      have h1 := bin_len _ (atT_mem' hb)
      have h2 := two_len hk a b false fin
      simp only [List.length_append] at h1 ⊢
      omega
    | none =>
      cases hp : atT x.f0 preT with
      | some v =>
        obtain ⟨t, l, a, b⟩ := v
        have h1 := pre_len _ (atT_mem' hp)
        have h2 := two_len hk a a fin fin
        simp only [List.length_append] at h1 ⊢
        omega
      | none =>
        dsimp only
        by_cases h1 : x.f0 = 1
        · rw [if_pos h1]; have := name_len (own_name hown (by rw [h1]; rfl)); omega
        rw [if_neg h1]
        by_cases h2 : x.f0 = 2
        · rw [if_pos h2]
          have h3 := own_none hown h2
          have h4 := itoa_len2 x.f2 (by omega) (by omega)
          split
          · simp only [List.length_append, List.length_cons, List.length_nil]; omega
          · simp only [List.length_append, List.length_cons, List.length_nil]; omega
        rw [if_neg h2]
        by_cases h20 : x.f0 = 20
        · rw [if_pos h20]
          have h3 := own_lit hown h20
          have h4 := itoa_len2 x.f2 h3.1 h3.2
          omega
        rw [if_neg h20]
        by_cases h5 : x.f0 = 5
        · rw [if_pos h5]
          have h2 := two_len hk 14 14 false false
          simp only [List.length_append, List.length_cons, List.length_nil]
          omega
        rw [if_neg h5]
        by_cases h45 : x.f0 = 45
        · rw [if_pos h45]
          have := bnd_len hk (own_name hown (by rw [h45]; rfl))
          simp only [List.length_append, List.length_cons, List.length_nil]
          omega
        rw [if_neg h45]
        by_cases h46 : x.f0 = 46
        · rw [if_pos h46]
          have := bnd_len hk (own_name hown (by rw [h46]; rfl))
          simp only [List.length_append, List.length_cons, List.length_nil]
          omega
        rw [if_neg h46]
        by_cases h15 : x.f0 = 15
        · rw [if_pos h15]
          have := bnd_len hk (own_name hown (by rw [h15]; rfl))
          simp only [List.length_append, List.length_cons, List.length_nil]
          omega
        rw [if_neg h15]
        by_cases h47 : x.f0 = 47
        · rw [if_pos h47]
          have h3 := name_len (own_name hown (by rw [h47]; rfl))
          have h4 := argl_len x.f3 true hk
          simp only [List.length_append, List.length_cons, List.length_nil]
          omega
        rw [if_neg h47]
        unfold wordT
        have : (if x.f0 = 3 then ([117, 110, 105, 118] : List UInt8) else if x.f0 = 4 then [105, 100, 101, 110] else if x.f0 = 30 then [116, 114, 117, 101] else if x.f0 = 31 then [102, 97, 108, 115, 101] else []).length ≤ 5 := by
          repeat' split
          all_goals simp
        omega
theorem valid_short {x : S24} (h : validB x = true) : (txt x true).length ≤ most := by
  unfold validB at h
  simp only [Bool.and_eq_true, decide_eq_true_eq] at h
  have h1 := cnt_is x 400 h.1
  have h2 := txt_len _ x (Nat.lt_succ_self _) 24 h.2 true
  unfold most
  omega
end Go.Proofs.YtgdiodhaihmnbaaDoor.Own
namespace Go.Proofs.YtgdiodhaihmnbaaDoor.Own
open Go.RowKit Go.Proofs.YtgdiodhaihmnbaaDoorW.PrintWords Go.Proofs.YtgdiodhaihmnbaaDoorW.PrintLast Go.Proofs.YtgdiodhaihmnbaaDoorW.PrintMore Go.Proofs.YtgdiodhaihmnbaaDoor.PPrinterMatchesReference
/-- A string of these bytes. -/
def mkS (l : List UInt8) : ByteArray := ⟨l.toArray⟩
theorem mkS_app (a b : List UInt8) : mkS a ++ mkS b = mkS (a ++ b) := by
  apply ByteArray.ext
  simp [mkS, ByteArray.data_append]
theorem mkS_size (l : List UInt8) : (mkS l).size = l.length := by simp [mkS, ByteArray.size]
theorem mkS_data (s : ByteArray) : mkS s.data.toList = s := by simp [mkS]
def SaysS (w : World) (l : List UInt8) (e : Ending) (w' : World) : Prop := e = .returned (.string (mkS l)) ∧ Below w.heap.size w w'
def TextC (x : S24) : Prop := ∀ (fin : Bool) (w : World) (cs : List Value), k24.K w x cs → Calls Tryd.prog 40 #[.agg cs.toArray, .bool fin] w (SaysS w (txt x fin))
def OperC (x : S24) : Prop := ∀ (need : Int) (fin : Bool) (w : World) (cs : List Value), k24.K w x cs → Calls Tryd.prog 70 #[.agg cs.toArray, .int .i64 need, .bool fin] w (SaysS w (opr x need fin))
def LenC (x : S24) : Prop := ∀ fin, (txt x fin).length ≤ 100000000
set_option maxHeartbeats 4000000 in
set_option maxRecDepth 100000 in
theorem ref_operand (x : S24) (hT : TextC x) (hl : LenC x) : OperC x := by
  intro need fin w cs hk
  obtain ⟨A, c, rfl, hlc, hA⟩ := k24_open hk
  have HK := Aside0.mk hk
  have HT := Aside0.mk hT
  have HLn := Aside0.mk hl
  have hu24 := Tryd.underlying24
  clear hk hA hlc hT hl
  obtain ⟨q, hq⟩ : ∃ q, (decide (x.f0 = 45) || decide (x.f0 = 46)) = q := ⟨_, rfl⟩
  obtain ⟨lt, hlt⟩ : ∃ b, decide (lvl x.f0 < need) = b := ⟨_, rfl⟩
  have HO : Aside0 (opr x need fin = if (!lt && (fin || !q)) = true then txt x fin else [40] ++ txt x true ++ [41]) := ⟨by
    have : decide (lvl x.f0 ≥ need) = !lt := by
      rw [← hlt]
      by_cases h : lvl x.f0 < need
      · rw [decide_eq_true h, decide_eq_false (by omega)]; rfl
      · rw [decide_eq_false h, decide_eq_true (by omega)]; rfl
    unfold opr bare
    rw [this, hq]⟩
  have HLV := Aside0.mk hlt
  clear hlt
  have run : ∀ b1 b2 : Bool, (x.f0 == 45) = b1 → (x.f0 == 46) = b2 → (b1 || b2) = q → Calls Tryd.prog 70 #[.agg [Value.int .i64 x.f0, .string x.f1, .int .i64 x.f2, .slice A x.f3.length c, .int .i64 x.f4].toArray, .int .i64 need, .bool fin] w (SaysS w (opr x need fin)) := by
    intro b1 b2 e1 e2 e3
    have par : Aside0 ((!lt && (fin || !q)) = false → ∀ w1, Below w.heap.size w w1 → Calls Tryd.prog 40 #[.agg [Value.int .i64 x.f0, .string x.f1, .int .i64 x.f2, .slice A x.f3.length c, .int .i64 x.f4].toArray, .bool true] w1 (SaysS w1 (txt x true))) := ⟨fun _ w1 hb => HT.out true w1 _ (k24.K_below hb HK.out)⟩
    obtain ⟨s, HS⟩ : ∃ s, Aside0 (mkS (txt x true) = s) := ⟨_, ⟨rfl⟩⟩
    have hsz : s.size ≤ 100000000 := by rw [← HS.out, mkS_size]; exact HLn.out true
    have hs1 : ¬ 9223372036854775807 < 1 + s.size := by omega
    have hs2 : ¬ 9223372036854775807 < 1 + s.size + 1 := by omega
    have hpr : Aside0 (Value.string ((⟨#[40]⟩ : ByteArray) ++ s ++ ⟨#[41]⟩) = Value.string (mkS ([40] ++ txt x true ++ [41]))) := ⟨by
      rw [← HS.out, ← mkS_app, ← mkS_app]; rfl⟩
    cases b1 <;> cases b2 <;> cases lt <;> cases fin <;> (
      subst e3
      have HO2 := HO.out
      simp only [Bool.or_true, Bool.or_false, Bool.not_true, Bool.not_false, Bool.and_true, Bool.and_false, Bool.true_and, Bool.false_and, Bool.true_or, Bool.false_or, if_true, if_false, Bool.false_eq_true] at HO2
      have HO3 := Aside0.mk HO2
      clear HO2 hsz hq
      go_enter Tryd.func70, Tryd.ntmps70
      go_wp2_with fail
      refine (ref_level x.f0 _).mono ?_
      rintro e w1 ⟨rfl, rfl⟩
      have hlv := HLV.out
      go_wp2_with fail
      refine (HT.out _ _ _ (k24.K_below (below_alloc (Below.refl _ _) _) HK.out)).mono ?_
      rintro e w1 ⟨rfl, hb⟩
      have HB := Aside0.mk (below_step (below_alloc (Below.refl _ _) _) hb)
      clear hb
      first
        | (rw [HS.out]
           go_wp2_with fail
           go_ret
           exact ⟨by rw [HO3.out, ← hpr.out]; rfl, HB.out⟩)
        | (go_wp2_with fail
           go_ret
           exact ⟨by rw [HO3.out]; rfl, HB.out⟩))
  exact run _ _ rfl rfl (by rw [← hq]; rfl)
end Go.Proofs.YtgdiodhaihmnbaaDoor.Own
namespace Go.Proofs.YtgdiodhaihmnbaaDoor.Own
open Go.RowKit Go.Proofs.YtgdiodhaihmnbaaDoorW.PrintWords Go.Proofs.YtgdiodhaihmnbaaDoorW.PrintLast Go.Proofs.YtgdiodhaihmnbaaDoorW.PrintMore Go.Proofs.YtgdiodhaihmnbaaDoor.PPrinterMatchesReference
theorem opr_lenC {x : S24} (h : LenC x) (need : Int) (fin : Bool) : (opr x need fin).length ≤ 100000002 := by
  unfold opr
  have h1 := h fin
  have h2 := h true
  split
  · omega
  · simp only [List.length_append, List.length_cons, List.length_nil]; omega
theorem q_callX {P : Program} {ops : Array Oper} {C : World → Prop} {Q : Act → Prop} {o : Oper} {rest : List Oper} {a : Act} {v : Value} {f : FuncId} (hg : o.guard = none) (h : ∃ args, (∀ w, C w → (execOp a.eval o).run P w = .ok (.enter f args) w) ∧ ∀ w, C w → Calls P f args w fun e w' => e = .returned v ∧ C w') (k : wpQuiet P ops C Q rest (a.put o.dst v)) : wpQuiet P ops C Q (o :: rest) a :=
  let ⟨_, h1, h2⟩ := h
  q_call hg h1 h2 k
theorem rd_two0 {xs : List S24} {p q : S24} (h : xs = [p, q]) : rd_T24 xs 0 = p ∧ rd_T24 xs 1 = q := by rw [h]; exact ⟨rfl, rfl⟩
set_option maxHeartbeats 4000000 in
set_option maxRecDepth 100000 in
theorem ref_bound (x p q : S24) (hpq : x.f3 = [p, q]) (hO : OperC p) (hT : TextC q) (hlp : LenC p) (hlq : LenC q) (hn : x.f1.size ≤ 16) (w : World) (cs : List Value) (hk : k24.K w x cs) : Calls Tryd.prog 72 #[.agg cs.toArray] w (SaysS w (bnd x)) := by
  obtain ⟨A, c, rfl, hlc, hA⟩ := k24_open hk
  have HA := Aside0.mk hA
  have HO := Aside0.mk hO
  have HT := Aside0.mk hT
  have hu24 := Tryd.underlying24
  have hl2 : x.f3.length = 2 := by rw [hpq]; rfl
  have hlb : (1 : Int) < (x.f3.length : Int) := by omega
  have hn1 : 1 < x.f3.length := by omega
  have hn0 : 0 < x.f3.length := by omega
  have hlb0 : (0 : Int) < (x.f3.length : Int) := by omega
  have HPQ := Aside0.mk (rd_two0 hpq)
  obtain ⟨s1, H1⟩ : ∃ s, Aside0 (mkS (opr p 8 true) = s) := ⟨_, ⟨rfl⟩⟩
  obtain ⟨s2, H2⟩ : ∃ s, Aside0 (mkS (txt q true) = s) := ⟨_, ⟨rfl⟩⟩
  have z1 : s1.size ≤ 100000002 := by rw [← H1.out, mkS_size]; exact opr_lenC hlp 8 true
  have z2 : s2.size ≤ 100000000 := by rw [← H2.out, mkS_size]; exact hlq true
  have HR : Aside0 (Value.string (x.f1 ++ (⟨#[58, 32]⟩ : ByteArray) ++ s1 ++ (⟨#[32, 124, 32]⟩ : ByteArray) ++ s2) = Value.string (mkS (bnd x))) := ⟨by
    have e : bnd x = x.f1.data.toList ++ [58, 32] ++ opr p 8 true ++ [32, 124, 32] ++ txt q true := by
      rw [bnd, opd_rd _ _ _ _ (by omega), nod_rd, hpq]; rfl
    rw [e, ← mkS_app, ← mkS_app, ← mkS_app, ← mkS_app, mkS_data, H1.out, H2.out]
    rfl⟩
  clear hk hA hlc hO hT hlp hlq hpq
  have c1 : ¬ 9223372036854775807 < x.f1.size + 2 := by omega
  have c2 : ¬ 9223372036854775807 < x.f1.size + 2 + s1.size := by omega
  have c3 : ¬ 9223372036854775807 < x.f1.size + 2 + s1.size + 3 := by omega
  have c4 : ¬ 9223372036854775807 < x.f1.size + 2 + s1.size + 3 + s2.size := by omega
  clear hn z1 z2 hl2
  go_enter Tryd.func72, Tryd.ntmps72
  go_wp2_with fail
  have HBX := Aside0.mk (blk_new w (.cells #[.int .i64 x.f0, .string x.f1, .int .i64 x.f2, .slice A x.f3.length c, .int .i64 x.f4] 24))
  have HB0 : Aside0 (Below w.heap.size w (w.alloc (.cells #[.int .i64 x.f0, .string x.f1, .int .i64 x.f2, .slice A x.f3.length c, .int .i64 x.f4] 24))) := ⟨below_alloc (Below.refl _ _) _⟩
  obtain ⟨w1, HW1⟩ : ∃ w1, w1 = (w.alloc (.cells #[.int .i64 x.f0, .string x.f1, .int .i64 x.f2, .slice A x.f3.length c, .int .i64 x.f4] 24)) := ⟨_, rfl⟩
  rw [← HW1] at HBX HB0 ⊢
  clear HW1
  have b1 := blk_cell HBX.out 1
  have b3 := blk_cell HBX.out 3
  obtain ⟨ad, A3, c3', e1, g0, g1, g2, g3, g4, gl, gi⟩ := at_T24 (Kd.C_below HA.out HB0.out) 0 (by omega) (by omega)
  obtain ⟨bd, B3, d3', e2, f0, f1, f2, f3, f4, fl, fi⟩ := at_T24 (Kd.C_below HA.out HB0.out) 1 (by omega) (by omega)
  cases e1
  cases e2
  rw [HPQ.out.1] at g0 g1 g2 g3 g4 gl gi
  rw [HPQ.out.2] at f0 f1 f2 f3 f4 fl fi
  have KP := Aside0.mk (k24_mk w1 p gl gi)
  have KQ := Aside0.mk (k24_mk w1 q fl fi)
  replace g0 : w1.cell? ad = _ := g0
  replace g1 : w1.cell? ⟨ad.block, ad.off + 1, none⟩ = _ := g1
  replace g2 : w1.cell? ⟨ad.block, ad.off + 2, none⟩ = _ := g2
  replace g3 : w1.cell? ⟨ad.block, ad.off + 3, none⟩ = _ := g3
  replace g4 : w1.cell? ⟨ad.block, ad.off + 4, none⟩ = _ := g4
  replace f0 : w1.cell? ⟨ad.block, ad.off + 5, none⟩ = _ := f0
  replace f1 : w1.cell? ⟨ad.block, ad.off + 5 + 1, none⟩ = _ := f1
  replace f2 : w1.cell? ⟨ad.block, ad.off + 5 + 2, none⟩ = _ := f2
  replace f3 : w1.cell? ⟨ad.block, ad.off + 5 + 3, none⟩ = _ := f3
  replace f4 : w1.cell? ⟨ad.block, ad.off + 5 + 4, none⟩ = _ := f4
  clear gl gi fl fi
  obtain ⟨C, hCe⟩ : ∃ C : World → Prop, C = fun W => Below w1.heap.size w1 W := ⟨_, rfl⟩
  have HC := Aside0.mk hCe
  clear hCe
  refine wp_quiet_tail C 16 (by kernel_rfl) (by kernel_rfl) (by rw [HC.out]; exact below_drew1 (Below.refl _ _)) ?_
  simp only [List.take_succ_cons, List.take_zero, List.drop_succ_cons, List.drop_zero]
  iterate 7
    refine q_ex rfl ?_
    apply Exists.intro
    refine ⟨fun W hW => ?_, ?_⟩
    · have p3 : Below w1.heap.size w1 W := by rw [HC.out] at hW; exact hW
      replace b1 := pw_cell_below p3 b1
      replace b3 := pw_cell_below p3 b3
      replace g0 := pw_cell_below p3 g0
      replace g1 := pw_cell_below p3 g1
      replace g2 := pw_cell_below p3 g2
      replace g3 := pw_cell_below p3 g3
      replace g4 := pw_cell_below p3 g4
      clear p3
      go_simp
      try rfl
    simp only [Act.put, List.setIfInBounds_toArray, List.set_cons_zero, List.set_cons_succ]
  refine q_call (f := 70) (args := #[.agg [.int .i64 p.f0, .string p.f1, .int .i64 p.f2, .slice A3 p.f3.length c3', .int .i64 p.f4].toArray, .int .i64 8, .bool true]) (v := .string s1) rfl (fun W hW => ?_) (fun W hW => ?_) ?_
  · go_simp
    try rfl
  · rw [HC.out] at hW ⊢
    refine (HO.out 8 true W _ (k24.K_below hW KP.out)).mono ?_
    rintro e w2 ⟨rfl, hb⟩
    exact ⟨by rw [H1.out], below_step hW hb⟩
  simp only [Act.put, List.setIfInBounds_toArray, List.set_cons_zero, List.set_cons_succ]
  iterate 6
    refine q_ex rfl ?_
    apply Exists.intro
    refine ⟨fun W hW => ?_, ?_⟩
    · have p3 : Below w1.heap.size w1 W := by rw [HC.out] at hW; exact hW
      replace b3 := pw_cell_below p3 b3
      replace f0 := pw_cell_below p3 f0
      replace f1 := pw_cell_below p3 f1
      replace f2 := pw_cell_below p3 f2
      replace f3 := pw_cell_below p3 f3
      replace f4 := pw_cell_below p3 f4
      clear p3
      go_simp
      try rfl
    simp only [Act.put, List.setIfInBounds_toArray, List.set_cons_zero, List.set_cons_succ]
  refine q_call (f := 40) (args := #[.agg [.int .i64 q.f0, .string q.f1, .int .i64 q.f2, .slice B3 q.f3.length d3', .int .i64 q.f4].toArray, .bool true]) (v := .string s2) rfl (fun W hW => ?_) (fun W hW => ?_) ?_
  · go_simp
    try rfl
  · rw [HC.out] at hW ⊢
    refine (HT.out true W _ (k24.K_below hW KQ.out)).mono ?_
    rintro e w2 ⟨rfl, hb⟩
    exact ⟨by rw [H2.out], below_step hW hb⟩
  simp only [Act.put, List.setIfInBounds_toArray, List.set_cons_zero, List.set_cons_succ]
  refine q_ex rfl ?_
  apply Exists.intro
  refine ⟨fun W hW => ?_, ?_⟩
  · go_simp
    try rfl
  simp only [Act.put, List.setIfInBounds_toArray, List.set_cons_zero, List.set_cons_succ]
  intro W hW
  rw [HC.out] at hW
  have HW := Aside0.mk hW
  clear hW HC
  go_wp2_with fail
  go_ret
  exact ⟨by rw [← HR.out]; rfl, below_step HB0.out HW.out⟩
theorem bin_text {op : Int} {t : List UInt8} {l a b : Int} (h : atT op binT = some (t, l, a, b)) : t = (if op = 9 then symS op else [32] ++ symS op ++ [32]) ∧ (symS op).length ≤ 5 := by
  have hs : symS op = trimT t := by unfold symS; rw [h]
  rw [hs]
  have : ∀ v ∈ binT, v.2.1 = (if v.1 = 9 then trimT v.2.1 else [32] ++ trimT v.2.1 ++ [32]) ∧ (trimT v.2.1).length ≤ 5 := by decide
  exact this _ (atT_mem' h)
set_option maxHeartbeats 8000000 in
set_option maxRecDepth 100000 in
theorem ref_binary (o : Int) (s : ByteArray) (n : Int) (ks : List S24) (at_ : Int) (p q : S24) {t : List UInt8} {l a b : Int} (hb : atT o binT = some (t, l, a, b)) (hpq : ks = [p, q]) (hO : OperC p) (hT : OperC q) (hlp : LenC p) (hlq : LenC q) (fin : Bool) (w : World) (cs : List Value) (hk : k24.K w ⟨o, s, n, ks, at_⟩ cs) : Calls Tryd.prog 67 #[.agg cs.toArray, .bool fin] w (SaysS w (txt ⟨o, s, n, ks, at_⟩ fin)) := by
  obtain ⟨A, c, rfl, hlc, hA⟩ := k24_open hk
  dsimp only at hA hlc ⊢
  have HA := Aside0.mk hA
  have HO := Aside0.mk hO
  have HT := Aside0.mk hT
  have hu24 := Tryd.underlying24
  have hl2 : ks.length = 2 := by rw [hpq]; rfl
  have hlb : (1 : Int) < (ks.length : Int) := by omega
  have hn1 : 1 < ks.length := by omega
  have hn0 : 0 < ks.length := by omega
  have hlb0 : (0 : Int) < (ks.length : Int) := by omega
  have HPQ := Aside0.mk (rd_two0 hpq)
  obtain ⟨s1, H1⟩ : ∃ s, Aside0 (mkS (opr p a false) = s) := ⟨_, ⟨rfl⟩⟩
  obtain ⟨s2, H2⟩ : ∃ s, Aside0 (mkS (opr q b fin) = s) := ⟨_, ⟨rfl⟩⟩
  obtain ⟨y, HY⟩ : ∃ s, Aside0 (mkS (symS o) = s) := ⟨_, ⟨rfl⟩⟩
  have z1 : s1.size ≤ 100000002 := by rw [← H1.out, mkS_size]; exact opr_lenC hlp a false
  have z2 : s2.size ≤ 100000002 := by rw [← H2.out, mkS_size]; exact opr_lenC hlq b fin
  have z3 : y.size ≤ 5 := by rw [← HY.out, mkS_size]; exact (bin_text hb).2
  have HR : Aside0 (mkS (txt ⟨o, s, n, ks, at_⟩ fin) = s1 ++ (if o = 9 then y else (⟨#[32]⟩ : ByteArray) ++ y ++ (⟨#[32]⟩ : ByteArray)) ++ s2) := ⟨by
    have e : txt ⟨o, s, n, ks, at_⟩ fin = opr p a false ++ t ++ opr q b fin := by
      rw [txt_def]
      simp only [hb, hpq]
      rw [opd_rd _ _ _ _ (by have := bin_row hb; obtain ⟨_, _, _, _, _, _, _, _, _, _, _, _, _, _, hh, _⟩ := this; omega), opd_rd _ _ _ _ (by have := bin_row hb; obtain ⟨_, _, _, _, _, _, _, _, _, _, _, _, _, _, hh, _⟩ := this; omega)]
      rfl
    rw [e, ← mkS_app, ← mkS_app, H1.out, H2.out, (bin_text hb).1]
    split
    · rw [HY.out]
    · rw [← mkS_app, ← mkS_app, HY.out]; rfl⟩
  have hlv := (lvl_bin hb).1
  have hm := atT_mem' hb
  clear hk hA hlc hO hT hlp hlq hpq hb hl2
  have c0 : ¬ 9223372036854775807 < 1 + y.size := by omega
  have c1 : ¬ 9223372036854775807 < 1 + y.size + 1 := by omega
  have c2 : ¬ 9223372036854775807 < s1.size + (1 + y.size + 1) := by omega
  have c3 : ¬ 9223372036854775807 < s1.size + (1 + y.size + 1) + s2.size := by omega
  have d2 : ¬ 9223372036854775807 < s1.size + y.size := by omega
  have d3 : ¬ 9223372036854775807 < s1.size + y.size + s2.size := by omega
  clear z1 z2 z3
  obtain ⟨w1, HW1⟩ : ∃ w1, Aside0 (w1 = (w.alloc (.cells #[.int .i64 o, .string s, .int .i64 n, .slice A ks.length c, .int .i64 at_] 24))) := ⟨_, ⟨rfl⟩⟩
  have HBX : Aside0 (w1.heap[w.heap.size]? = some (.cells #[.int .i64 o, .string s, .int .i64 n, .slice A ks.length c, .int .i64 at_] 24 (0, 0))) := ⟨by rw [HW1.out]; exact blk_new w _⟩
  have HB0 : Aside0 (Below w.heap.size w w1) := ⟨by rw [HW1.out]; exact below_alloc (Below.refl _ _) _⟩
  simp only [binT, List.mem_cons, List.not_mem_nil, or_false, Prod.mk.injEq] at hm
  rcases hm with ⟨rfl, rfl, rfl, rfl, rfl⟩ | ⟨rfl, rfl, rfl, rfl, rfl⟩ | ⟨rfl, rfl, rfl, rfl, rfl⟩ | ⟨rfl, rfl, rfl, rfl, rfl⟩ | ⟨rfl, rfl, rfl, rfl, rfl⟩ | ⟨rfl, rfl, rfl, rfl, rfl⟩ | ⟨rfl, rfl, rfl, rfl, rfl⟩ | ⟨rfl, rfl, rfl, rfl, rfl⟩ | ⟨rfl, rfl, rfl, rfl, rfl⟩ | ⟨rfl, rfl, rfl, rfl, rfl⟩ | ⟨rfl, rfl, rfl, rfl, rfl⟩ | ⟨rfl, rfl, rfl, rfl, rfl⟩ | ⟨rfl, rfl, rfl, rfl, rfl⟩ | ⟨rfl, rfl, rfl, rfl, rfl⟩ | ⟨rfl, rfl, rfl, rfl, rfl⟩ | ⟨rfl, rfl, rfl, rfl, rfl⟩ | ⟨rfl, rfl, rfl, rfl, rfl⟩
  all_goals
    have HLV := Aside0.mk hlv
    have HR2 := HR.out
    simp only [Int.reduceEq, if_false, if_true, reduceIte] at HR2
    have HR3 := Aside0.mk HR2
    clear hlv HR2 HR
    go_enter Tryd.func67, Tryd.ntmps67
    go_wp2_with fail
    refine (ref_level _ _).mono ?_
    rintro e w0 ⟨rfl, rfl⟩
    rw [HLV.out]
    go_wp2_with fail
    refine (ref_symbol _ _).mono ?_
    rintro e w0 ⟨rfl, rfl⟩
    have hy : (⟨(symS _).toArray⟩ : ByteArray) = y := HY.out
    rw [hy]
    clear hy
    go_wp2_with fail
    rw [← HW1.out]
    clear HW1
    have b3 := blk_cell HBX.out 3
    obtain ⟨ad, A3, c3', e1, g0, g1, g2, g3, g4, gl, gi⟩ := at_T24 (Kd.C_below HA.out HB0.out) 0 (by omega) (by omega)
    obtain ⟨bd, B3, d3', e2, f0, f1, f2, f3, f4, fl, fi⟩ := at_T24 (Kd.C_below HA.out HB0.out) 1 (by omega) (by omega)
    cases e1
    cases e2
    rw [HPQ.out.1] at g0 g1 g2 g3 g4 gl gi
    rw [HPQ.out.2] at f0 f1 f2 f3 f4 fl fi
    have KP := Aside0.mk (k24_mk w1 p gl gi)
    have KQ := Aside0.mk (k24_mk w1 q fl fi)
    replace g0 : w1.cell? ad = _ := g0
    replace g1 : w1.cell? ⟨ad.block, ad.off + 1, none⟩ = _ := g1
    replace g2 : w1.cell? ⟨ad.block, ad.off + 2, none⟩ = _ := g2
    replace g3 : w1.cell? ⟨ad.block, ad.off + 3, none⟩ = _ := g3
    replace g4 : w1.cell? ⟨ad.block, ad.off + 4, none⟩ = _ := g4
    replace f0 : w1.cell? ⟨ad.block, ad.off + 5, none⟩ = _ := f0
    replace f1 : w1.cell? ⟨ad.block, ad.off + 5 + 1, none⟩ = _ := f1
    replace f2 : w1.cell? ⟨ad.block, ad.off + 5 + 2, none⟩ = _ := f2
    replace f3 : w1.cell? ⟨ad.block, ad.off + 5 + 3, none⟩ = _ := f3
    replace f4 : w1.cell? ⟨ad.block, ad.off + 5 + 4, none⟩ = _ := f4
    clear gl gi fl fi
    obtain ⟨C, hCe⟩ : ∃ C : World → Prop, C = fun W => Below w1.heap.size w1 W := ⟨_, rfl⟩
    have HC := Aside0.mk hCe
    clear hCe
    refine wp_quiet_tail C 16 (by kernel_rfl) (by kernel_rfl) (by rw [HC.out]; exact below_drew1 (Below.refl _ _)) ?_
    simp only [List.take_succ_cons, List.take_zero, List.drop_succ_cons, List.drop_zero]
    iterate 5
      refine q_ex rfl ?_
      apply Exists.intro
      refine ⟨fun W hW => ?_, ?_⟩
      · have p3 : Below w1.heap.size w1 W := by rw [HC.out] at hW; exact hW
        replace b3 := pw_cell_below p3 b3
        replace g0 := pw_cell_below p3 g0
        replace g1 := pw_cell_below p3 g1
        replace g2 := pw_cell_below p3 g2
        replace g3 := pw_cell_below p3 g3
        replace g4 := pw_cell_below p3 g4
        clear p3
        go_simp
        try rfl
      simp only [Act.put, List.setIfInBounds_toArray, List.set_cons_zero, List.set_cons_succ]
    refine q_callX (f := 70) (v := .string s1) rfl ?_ ?_
    · apply Exists.intro
      refine ⟨fun W hW => (by go_simp; try rfl), fun W hW => ?_⟩
      rw [HC.out] at hW ⊢
      refine (HO.out _ false W _ (k24.K_below hW KP.out)).mono ?_
      rintro e w2 ⟨rfl, hb⟩
      exact ⟨by rw [H1.out], below_step hW hb⟩
    simp only [Act.put, List.setIfInBounds_toArray, List.set_cons_zero, List.set_cons_succ]
    iterate 8
      refine q_ex rfl ?_
      apply Exists.intro
      refine ⟨fun W hW => ?_, ?_⟩
      · have p3 : Below w1.heap.size w1 W := by rw [HC.out] at hW; exact hW
        replace b3 := pw_cell_below p3 b3
        replace f0 := pw_cell_below p3 f0
        replace f1 := pw_cell_below p3 f1
        replace f2 := pw_cell_below p3 f2
        replace f3 := pw_cell_below p3 f3
        replace f4 := pw_cell_below p3 f4
        clear p3
        go_simp
        try rfl
      simp only [Act.put, List.setIfInBounds_toArray, List.set_cons_zero, List.set_cons_succ]
    refine q_callX (f := 70) (v := .string s2) rfl ?_ ?_
    · apply Exists.intro
      refine ⟨fun W hW => (by go_simp; try rfl), fun W hW => ?_⟩
      rw [HC.out] at hW ⊢
      refine (HT.out _ fin W _ (k24.K_below hW KQ.out)).mono ?_
      rintro e w2 ⟨rfl, hb⟩
      exact ⟨by rw [H2.out], below_step hW hb⟩
    simp only [Act.put, List.setIfInBounds_toArray, List.set_cons_zero, List.set_cons_succ]
    refine q_ex rfl ?_
    apply Exists.intro
    refine ⟨fun W hW => ?_, ?_⟩
    · go_simp
      try rfl
    simp only [Act.put, List.setIfInBounds_toArray, List.set_cons_zero, List.set_cons_succ]
    intro W hW
    rw [HC.out] at hW
    have HW := Aside0.mk hW
    clear hW HC
    go_wp2_with fail
    go_ret
    exact ⟨by rw [HR3.out]; rfl, below_step HB0.out HW.out⟩
end Go.Proofs.YtgdiodhaihmnbaaDoor.Own
namespace Go.Proofs.YtgdiodhaihmnbaaDoor.Own
open Go.RowKit Go.Proofs.YtgdiodhaihmnbaaDoorW.PrintWords Go.Proofs.YtgdiodhaihmnbaaDoorW.PrintLast Go.Proofs.YtgdiodhaihmnbaaDoorW.PrintMore Go.Proofs.YtgdiodhaihmnbaaDoor.PPrinterMatchesReference
set_option maxHeartbeats 4000000 in
set_option maxRecDepth 100000 in
theorem text_bin (o : Int) (s : ByteArray) (n : Int) (ks : List S24) (at_ : Int) (p q : S24) {t : List UInt8} {l a b : Int} (hb : atT o binT = some (t, l, a, b)) (hpq : ks = [p, q]) (hO : OperC p) (hT : OperC q) (hlp : LenC p) (hlq : LenC q) (fin : Bool) (w : World) (cs : List Value) (hk : k24.K w ⟨o, s, n, ks, at_⟩ cs) : Calls Tryd.prog 40 #[.agg cs.toArray, .bool fin] w (SaysS w (txt ⟨o, s, n, ks, at_⟩ fin)) := by
  have hw : ∀ w1, Below w.heap.size w w1 → Calls Tryd.prog 67 #[.agg cs.toArray, .bool fin] w1 (SaysS w1 (txt ⟨o, s, n, ks, at_⟩ fin)) := fun w1 hb1 => ref_binary o s n ks at_ p q hb hpq hO hT hlp hlq fin w1 cs (k24.K_below hb1 hk)
  obtain ⟨A, c, rfl, hlc, hA⟩ := k24_open hk
  have HW := Aside0.mk hw
  have hne : symS o ≠ [] := by
    have : ∀ v ∈ binT, trimT v.2.1 ≠ [] := by decide
    have h2 : symS o = trimT t := by unfold symS; rw [hb]
    rw [h2]; exact this _ (atT_mem' hb)
  have hu24 := Tryd.underlying24
  obtain ⟨y, HY⟩ : ∃ y : ByteArray, Aside0 ((⟨(symS o).toArray⟩ : ByteArray) = y) := ⟨_, ⟨rfl⟩⟩
  have hy : (y.toList == ([] : List UInt8)) = false := by
    rw [← HY.out, ByteArray.toList_eq]; simpa using hne
  have hy2 : (y.toList != ([] : List UInt8)) = true := by rw [bne, hy]; rfl
  clear hb hpq hO hT hlp hlq hk hA hlc hw hne
  go_enter Tryd.func40, Tryd.ntmps40
  go_wp2_with fail
  refine (ref_symbol _ _).mono ?_
  rintro e w0 ⟨rfl, rfl⟩
  rw [HY.out]
  go_wp2_with fail
  refine (HW.out _ (below_alloc (Below.refl _ _) _)).mono ?_
  rintro e w2 ⟨rfl, hb2⟩
  have HB := Aside0.mk (below_step (below_alloc (Below.refl _ _) _) hb2)
  clear hb2
  go_wp2_with fail
  go_ret
  exact ⟨rfl, HB.out⟩
theorem sym_none {o : Int} (h : atT o binT = none) : (⟨(symS o).toArray⟩ : ByteArray) = ⟨#[]⟩ := by unfold symS; rw [h]
theorem pre_none {o : Int} (h : atT o preT = none) : (⟨(preS o).toArray⟩ : ByteArray) = ⟨#[]⟩ := by unfold preS; rw [h]
theorem pre_need {o : Int} {t : List UInt8} {l a b : Int} (h : atT o preT = some (t, l, a, b)) : a = (if l = 7 then 8 else l) ∧ (preS o).length ≤ 11 ∧ preS o ≠ [] ∧ preS o = t := by
  have hs : preS o = t := by unfold preS; rw [h]
  rw [hs]
  have : ∀ v ∈ preT, v.2.2.2.1 = (if v.2.2.1 = 7 then 8 else v.2.2.1) ∧ v.2.1.length ≤ 11 ∧ v.2.1 ≠ [] := by decide
  have := this _ (atT_mem' h)
  exact ⟨this.1, this.2.1, this.2.2, rfl⟩
set_option maxHeartbeats 8000000 in
set_option maxRecDepth 100000 in
theorem text_pre (o : Int) (s : ByteArray) (n : Int) (ks : List S24) (at_ : Int) (p : S24) {t : List UInt8} {l a b : Int} (h0 : atT o binT = none) (hp : atT o preT = some (t, l, a, b)) (hpq : ks = [p]) (hO : OperC p) (hlp : LenC p) (fin : Bool) (w : World) (cs : List Value) (hk : k24.K w ⟨o, s, n, ks, at_⟩ cs) : Calls Tryd.prog 40 #[.agg cs.toArray, .bool fin] w (SaysS w (txt ⟨o, s, n, ks, at_⟩ fin)) := by
  obtain ⟨A, c, rfl, hlc, hA⟩ := k24_open hk
  dsimp only at hA hlc ⊢
  have HA := Aside0.mk hA
  have HO := Aside0.mk hO
  have hu24 := Tryd.underlying24
  have hl1 : ks.length = 1 := by rw [hpq]; rfl
  have hlb0 : (0 : Int) < (ks.length : Int) := by omega
  have hn0 : 0 < ks.length := by omega
  have HPQ : Aside0 (rd_T24 ks 0 = p) := ⟨by rw [hpq]; rfl⟩
  obtain ⟨ha, hz1, hz2, hz3⟩ := pre_need hp
  have HY0 := Aside0.mk (sym_none h0)
  obtain ⟨z, HZ⟩ : ∃ z : ByteArray, Aside0 ((⟨(preS o).toArray⟩ : ByteArray) = z) := ⟨_, ⟨rfl⟩⟩
  obtain ⟨s1, H1⟩ : ∃ s, Aside0 (mkS (opr p a fin) = s) := ⟨_, ⟨rfl⟩⟩
  have z1 : s1.size ≤ 100000002 := by rw [← H1.out, mkS_size]; exact opr_lenC hlp a fin
  have z2 : z.size ≤ 11 := by rw [← HZ.out]; simpa [ByteArray.size] using hz1
  have hzy : (z.toList == ([] : List UInt8)) = false := by
    rw [← HZ.out, ByteArray.toList_eq]; simpa using hz2
  have hzy2 : (z.toList != ([] : List UInt8)) = true := by rw [bne, hzy]; rfl
  have HLV := Aside0.mk (lvl_pre h0 hp).1
  have HR : Aside0 (mkS (txt ⟨o, s, n, ks, at_⟩ fin) = z ++ s1) := ⟨by
    have e : txt ⟨o, s, n, ks, at_⟩ fin = t ++ opr p a fin := by
      rw [txt_def]
      simp only [h0, hp, hpq]
      rw [opd_rd _ _ _ _ (by obtain ⟨_, _, _, _, _, hh, _⟩ := pre_row hp; omega)]
      rfl
    rw [e, ← mkS_app, H1.out, ← HZ.out, hz3]; rfl⟩
  clear hk hA hlc hO hlp hpq h0 hp hz1 hz2 hz3 hl1
  have c1 : ¬ 9223372036854775807 < z.size + s1.size := by omega
  clear z1 z2
  obtain ⟨w1, HW1⟩ : ∃ w1, Aside0 (w1 = (w.alloc (.cells #[.int .i64 o, .string s, .int .i64 n, .slice A ks.length c, .int .i64 at_] 24))) := ⟨_, ⟨rfl⟩⟩
  have HBX : Aside0 (w1.heap[w.heap.size]? = some (.cells #[.int .i64 o, .string s, .int .i64 n, .slice A ks.length c, .int .i64 at_] 24 (0, 0))) := ⟨by rw [HW1.out]; exact blk_new w _⟩
  have HB0 : Aside0 (Below w.heap.size w w1) := ⟨by rw [HW1.out]; exact below_alloc (Below.refl _ _) _⟩
  obtain ⟨d, hd⟩ : ∃ d, (l == 7) = d := ⟨_, rfl⟩
  have ha2 : a = if d = true then 8 else l := by
    rw [ha, ← hd]
    by_cases h : l = 7
    · simp [h]
    · simp [h]
  clear ha
  cases d
  all_goals
    simp only [if_true, if_false, Bool.false_eq_true] at ha2
    subst ha2
    go_enter Tryd.func40, Tryd.ntmps40
    go_wp2_with fail
    refine (ref_symbol _ _).mono ?_
    rintro e w0 ⟨rfl, rfl⟩
    rw [HY0.out]
    go_wp2_with fail
    refine (ref_prefix _ _).mono ?_
    rintro e w0 ⟨rfl, rfl⟩
    rw [HZ.out]
    go_wp2_with fail
    refine (ref_level _ _).mono ?_
    rintro e w0 ⟨rfl, rfl⟩
    rw [HLV.out]
    go_wp2_with fail
    rw [← HW1.out]
    clear HW1
    have b0 := blk_cell HBX.out 0
    have b3 := blk_cell HBX.out 3
    obtain ⟨ad, A3, c3', e1, g0, g1, g2, g3, g4, gl, gi⟩ := at_T24 (Kd.C_below HA.out HB0.out) 0 (by omega) (by omega)
    cases e1
    rw [HPQ.out] at g0 g1 g2 g3 g4 gl gi
    have KP := Aside0.mk (k24_mk w1 p gl gi)
    replace g0 : w1.cell? ad = _ := g0
    replace g1 : w1.cell? ⟨ad.block, ad.off + 1, none⟩ = _ := g1
    replace g2 : w1.cell? ⟨ad.block, ad.off + 2, none⟩ = _ := g2
    replace g3 : w1.cell? ⟨ad.block, ad.off + 3, none⟩ = _ := g3
    replace g4 : w1.cell? ⟨ad.block, ad.off + 4, none⟩ = _ := g4
    clear gl gi
    obtain ⟨C, hCe⟩ : ∃ C : World → Prop, C = fun W => Below w1.heap.size w1 W := ⟨_, rfl⟩
    have HC := Aside0.mk hCe
    clear hCe
    refine wp_quiet_tail C 11 (by kernel_rfl) (by kernel_rfl) (by rw [HC.out]; exact below_drew1 (Below.refl _ _)) ?_
    simp only [List.take_succ_cons, List.take_zero, List.drop_succ_cons, List.drop_zero]
    iterate 2
      refine q_ex rfl ?_
      apply Exists.intro
      refine ⟨fun W hW => ?_, ?_⟩
      · have p3 : Below w1.heap.size w1 W := by rw [HC.out] at hW; exact hW
        replace b0 := pw_cell_below p3 b0
        clear p3
        go_simp
        try rfl
      simp only [Act.put, List.setIfInBounds_toArray, List.set_cons_zero, List.set_cons_succ]
    refine q_callX (f := 68) (v := .string z) rfl ?_ ?_
    · apply Exists.intro
      refine ⟨fun W hW => (by go_simp; try rfl), fun W hW => ?_⟩
      refine (ref_prefix o W).mono ?_
      rintro e w2 ⟨rfl, rfl⟩
      exact ⟨by rw [HZ.out], hW⟩
    simp only [Act.put, List.setIfInBounds_toArray, List.set_cons_zero, List.set_cons_succ]
    iterate 6
      refine q_ex rfl ?_
      apply Exists.intro
      refine ⟨fun W hW => ?_, ?_⟩
      · have p3 : Below w1.heap.size w1 W := by rw [HC.out] at hW; exact hW
        replace b3 := pw_cell_below p3 b3
        replace g0 := pw_cell_below p3 g0
        replace g1 := pw_cell_below p3 g1
        replace g2 := pw_cell_below p3 g2
        replace g3 := pw_cell_below p3 g3
        replace g4 := pw_cell_below p3 g4
        clear p3
        go_simp
        try rfl
      simp only [Act.put, List.setIfInBounds_toArray, List.set_cons_zero, List.set_cons_succ]
    refine q_callX (f := 70) (v := .string s1) rfl ?_ ?_
    · apply Exists.intro
      refine ⟨fun W hW => (by go_simp; try rfl), fun W hW => ?_⟩
      rw [HC.out] at hW ⊢
      refine (HO.out _ fin W _ (k24.K_below hW KP.out)).mono ?_
      rintro e w2 ⟨rfl, hb⟩
      exact ⟨by rw [H1.out], below_step hW hb⟩
    simp only [Act.put, List.setIfInBounds_toArray, List.set_cons_zero, List.set_cons_succ]
    refine q_ex rfl ?_
    apply Exists.intro
    refine ⟨fun W hW => ?_, ?_⟩
    · go_simp
      try rfl
    simp only [Act.put, List.setIfInBounds_toArray, List.set_cons_zero, List.set_cons_succ]
    intro W hW
    rw [HC.out] at hW
    have HW := Aside0.mk hW
    clear hW HC
    go_wp2_with fail
    go_ret
    exact ⟨by rw [HR.out]; rfl, below_step HB0.out HW.out⟩
end Go.Proofs.YtgdiodhaihmnbaaDoor.Own
namespace Go.Proofs.YtgdiodhaihmnbaaDoor.Own
open Go.RowKit Go.Proofs.YtgdiodhaihmnbaaDoorW.PrintWords Go.Proofs.YtgdiodhaihmnbaaDoorW.PrintLast Go.Proofs.YtgdiodhaihmnbaaDoorW.PrintMore Go.Proofs.YtgdiodhaihmnbaaDoor.PPrinterMatchesReference
set_option maxHeartbeats 4000000 in
set_option maxRecDepth 100000 in
theorem text_name (s : ByteArray) (n : Int) (ks : List S24) (at_ : Int) (fin : Bool) (w : World) (cs : List Value) (hk : k24.K w ⟨1, s, n, ks, at_⟩ cs) : Calls Tryd.prog 40 #[.agg cs.toArray, .bool fin] w (SaysS w (txt ⟨1, s, n, ks, at_⟩ fin)) := by
  obtain ⟨A, c, rfl, hlc, hA⟩ := k24_open hk
  dsimp only at hA hlc ⊢
  have HR : Aside0 (mkS (txt ⟨1, s, n, ks, at_⟩ fin) = s) := ⟨by
    have e : txt ⟨1, s, n, ks, at_⟩ fin = s.data.toList := by rw [txt_def]; rfl
    rw [e, mkS_data]⟩
  clear hk hA hlc
  have HY0 := Aside0.mk (sym_none (o := 1) rfl)
  have HZ0 := Aside0.mk (pre_none (o := 1) rfl)
  have hu24 := Tryd.underlying24
  go_enter Tryd.func40, Tryd.ntmps40
  go_wp2_with fail
  refine (ref_symbol _ _).mono ?_
  rintro e w0 ⟨rfl, rfl⟩
  rw [HY0.out]
  go_wp2_with fail
  refine (ref_prefix _ _).mono ?_
  rintro e w0 ⟨rfl, rfl⟩
  rw [HZ0.out]
  go_wp2_with fail
  go_ret
  exact ⟨by rw [HR.out]; rfl, by repeat (first | exact Below.refl _ _ | apply below_alloc)⟩
set_option maxHeartbeats 4000000 in
set_option maxRecDepth 100000 in
theorem text_con3 (s : ByteArray) (n : Int) (ks : List S24) (at_ : Int) (fin : Bool) (w : World) (cs : List Value) (hk : k24.K w ⟨3, s, n, ks, at_⟩ cs) : Calls Tryd.prog 40 #[.agg cs.toArray, .bool fin] w (SaysS w (txt ⟨3, s, n, ks, at_⟩ fin)) := by
  obtain ⟨A, c, rfl, hlc, hA⟩ := k24_open hk
  dsimp only at hA hlc ⊢
  have HR : Aside0 (mkS (txt ⟨3, s, n, ks, at_⟩ fin) = ⟨(conS 3).toArray⟩) := ⟨by rw [txt_def]; rfl⟩
  clear hk hA hlc
  have HY0 := Aside0.mk (sym_none (o := 3) rfl)
  have HZ0 := Aside0.mk (pre_none (o := 3) rfl)
  have hu24 := Tryd.underlying24
  go_enter Tryd.func40, Tryd.ntmps40
  go_wp2_with fail
  refine (ref_symbol _ _).mono ?_
  rintro e w0 ⟨rfl, rfl⟩
  rw [HY0.out]
  go_wp2_with fail
  refine (ref_prefix _ _).mono ?_
  rintro e w0 ⟨rfl, rfl⟩
  rw [HZ0.out]
  go_wp2_with fail
  refine (ref_constant _ _).mono ?_
  rintro e w0 ⟨rfl, rfl⟩
  go_wp2_with fail
  go_ret
  exact ⟨by rw [HR.out]; rfl, by repeat (first | exact Below.refl _ _ | apply below_alloc)⟩
set_option maxHeartbeats 4000000 in
set_option maxRecDepth 100000 in
theorem text_con4 (s : ByteArray) (n : Int) (ks : List S24) (at_ : Int) (fin : Bool) (w : World) (cs : List Value) (hk : k24.K w ⟨4, s, n, ks, at_⟩ cs) : Calls Tryd.prog 40 #[.agg cs.toArray, .bool fin] w (SaysS w (txt ⟨4, s, n, ks, at_⟩ fin)) := by
  obtain ⟨A, c, rfl, hlc, hA⟩ := k24_open hk
  dsimp only at hA hlc ⊢
  have HR : Aside0 (mkS (txt ⟨4, s, n, ks, at_⟩ fin) = ⟨(conS 4).toArray⟩) := ⟨by rw [txt_def]; rfl⟩
  clear hk hA hlc
  have HY0 := Aside0.mk (sym_none (o := 4) rfl)
  have HZ0 := Aside0.mk (pre_none (o := 4) rfl)
  have hu24 := Tryd.underlying24
  go_enter Tryd.func40, Tryd.ntmps40
  go_wp2_with fail
  refine (ref_symbol _ _).mono ?_
  rintro e w0 ⟨rfl, rfl⟩
  rw [HY0.out]
  go_wp2_with fail
  refine (ref_prefix _ _).mono ?_
  rintro e w0 ⟨rfl, rfl⟩
  rw [HZ0.out]
  go_wp2_with fail
  refine (ref_constant _ _).mono ?_
  rintro e w0 ⟨rfl, rfl⟩
  go_wp2_with fail
  go_ret
  exact ⟨by rw [HR.out]; rfl, by repeat (first | exact Below.refl _ _ | apply below_alloc)⟩
set_option maxHeartbeats 4000000 in
set_option maxRecDepth 100000 in
theorem text_con30 (s : ByteArray) (n : Int) (ks : List S24) (at_ : Int) (fin : Bool) (w : World) (cs : List Value) (hk : k24.K w ⟨30, s, n, ks, at_⟩ cs) : Calls Tryd.prog 40 #[.agg cs.toArray, .bool fin] w (SaysS w (txt ⟨30, s, n, ks, at_⟩ fin)) := by
  obtain ⟨A, c, rfl, hlc, hA⟩ := k24_open hk
  dsimp only at hA hlc ⊢
  have HR : Aside0 (mkS (txt ⟨30, s, n, ks, at_⟩ fin) = ⟨(conS 30).toArray⟩) := ⟨by rw [txt_def]; rfl⟩
  clear hk hA hlc
  have HY0 := Aside0.mk (sym_none (o := 30) rfl)
  have HZ0 := Aside0.mk (pre_none (o := 30) rfl)
  have hu24 := Tryd.underlying24
  go_enter Tryd.func40, Tryd.ntmps40
  go_wp2_with fail
  refine (ref_symbol _ _).mono ?_
  rintro e w0 ⟨rfl, rfl⟩
  rw [HY0.out]
  go_wp2_with fail
  refine (ref_prefix _ _).mono ?_
  rintro e w0 ⟨rfl, rfl⟩
  rw [HZ0.out]
  go_wp2_with fail
  refine (ref_constant _ _).mono ?_
  rintro e w0 ⟨rfl, rfl⟩
  go_wp2_with fail
  go_ret
  exact ⟨by rw [HR.out]; rfl, by repeat (first | exact Below.refl _ _ | apply below_alloc)⟩
set_option maxHeartbeats 4000000 in
set_option maxRecDepth 100000 in
theorem text_con31 (s : ByteArray) (n : Int) (ks : List S24) (at_ : Int) (fin : Bool) (w : World) (cs : List Value) (hk : k24.K w ⟨31, s, n, ks, at_⟩ cs) : Calls Tryd.prog 40 #[.agg cs.toArray, .bool fin] w (SaysS w (txt ⟨31, s, n, ks, at_⟩ fin)) := by
  obtain ⟨A, c, rfl, hlc, hA⟩ := k24_open hk
  dsimp only at hA hlc ⊢
  have HR : Aside0 (mkS (txt ⟨31, s, n, ks, at_⟩ fin) = ⟨(conS 31).toArray⟩) := ⟨by rw [txt_def]; rfl⟩
  clear hk hA hlc
  have HY0 := Aside0.mk (sym_none (o := 31) rfl)
  have HZ0 := Aside0.mk (pre_none (o := 31) rfl)
  have hu24 := Tryd.underlying24
  go_enter Tryd.func40, Tryd.ntmps40
  go_wp2_with fail
  refine (ref_symbol _ _).mono ?_
  rintro e w0 ⟨rfl, rfl⟩
  rw [HY0.out]
  go_wp2_with fail
  refine (ref_prefix _ _).mono ?_
  rintro e w0 ⟨rfl, rfl⟩
  rw [HZ0.out]
  go_wp2_with fail
  refine (ref_constant _ _).mono ?_
  rintro e w0 ⟨rfl, rfl⟩
  go_wp2_with fail
  go_ret
  exact ⟨by rw [HR.out]; rfl, by repeat (first | exact Below.refl _ _ | apply below_alloc)⟩
set_option maxHeartbeats 4000000 in
set_option maxRecDepth 100000 in
theorem text_lit (s : ByteArray) (n : Int) (ks : List S24) (at_ : Int) (h0 : -64 ≤ n) (h1 : n ≤ 64) (fin : Bool) (w : World) (cs : List Value) (hk : k24.K w ⟨20, s, n, ks, at_⟩ cs) : Calls Tryd.prog 40 #[.agg cs.toArray, .bool fin] w (SaysS w (txt ⟨20, s, n, ks, at_⟩ fin)) := by
  obtain ⟨A, c, rfl, hlc, hA⟩ := k24_open hk
  dsimp only at hA hlc ⊢
  have HR : Aside0 (mkS (txt ⟨20, s, n, ks, at_⟩ fin) = ⟨(Lib.itoa n).toArray⟩) := ⟨by
    have e : txt ⟨20, s, n, ks, at_⟩ fin = Lib.itoa n := by rw [txt_def]; rfl
    rw [e]; rfl⟩
  clear hk hA hlc
  have HY0 := Aside0.mk (sym_none (o := 20) rfl)
  have HZ0 := Aside0.mk (pre_none (o := 20) rfl)
  have hu24 := Tryd.underlying24
  go_enter Tryd.func40, Tryd.ntmps40
  go_wp2_with fail
  refine (ref_symbol _ _).mono ?_
  rintro e w0 ⟨rfl, rfl⟩
  rw [HY0.out]
  go_wp2_with fail
  refine (ref_prefix _ _).mono ?_
  rintro e w0 ⟨rfl, rfl⟩
  rw [HZ0.out]
  go_wp2_with fail
  refine (decimal_walk n h0 h1 _).mono ?_
  rintro e w2 ⟨rfl, hb2⟩
  have HB := Aside0.mk (below_step (below_alloc (Below.refl _ _) _) hb2)
  clear hb2
  go_wp2_with fail
  go_ret
  exact ⟨by rw [HR.out]; rfl, HB.out⟩
set_option maxHeartbeats 4000000 in
set_option maxRecDepth 100000 in
theorem text_none1 (s : ByteArray) (n : Int) (ks : List S24) (at_ : Int) (hn : n = 1) (fin : Bool) (w : World) (cs : List Value) (hk : k24.K w ⟨2, s, n, ks, at_⟩ cs) : Calls Tryd.prog 40 #[.agg cs.toArray, .bool fin] w (SaysS w (txt ⟨2, s, n, ks, at_⟩ fin)) := by
  obtain ⟨A, c, rfl, hlc, hA⟩ := k24_open hk
  dsimp only at hA hlc ⊢
  subst hn
  have HR : Aside0 (mkS (txt ⟨2, s, 1, ks, at_⟩ fin) = ⟨#[110, 111, 110, 101]⟩) := ⟨by rw [txt_def]; rfl⟩
  clear hk hA hlc
  have HY0 := Aside0.mk (sym_none (o := 2) rfl)
  have HZ0 := Aside0.mk (pre_none (o := 2) rfl)
  have hu24 := Tryd.underlying24
  go_enter Tryd.func40, Tryd.ntmps40
  go_wp2_with fail
  refine (ref_symbol _ _).mono ?_
  rintro e w0 ⟨rfl, rfl⟩
  rw [HY0.out]
  go_wp2_with fail
  refine (ref_prefix _ _).mono ?_
  rintro e w0 ⟨rfl, rfl⟩
  rw [HZ0.out]
  go_wp2_with fail
  go_ret
  exact ⟨by rw [HR.out]; rfl, by repeat (first | exact Below.refl _ _ | apply below_alloc)⟩
set_option maxHeartbeats 4000000 in
set_option maxRecDepth 100000 in
theorem text_none (s : ByteArray) (n : Int) (ks : List S24) (at_ : Int) (hn : n ≠ 1) (h0 : -64 ≤ n) (h1 : n ≤ 64) (fin : Bool) (w : World) (cs : List Value) (hk : k24.K w ⟨2, s, n, ks, at_⟩ cs) : Calls Tryd.prog 40 #[.agg cs.toArray, .bool fin] w (SaysS w (txt ⟨2, s, n, ks, at_⟩ fin)) := by
  obtain ⟨A, c, rfl, hlc, hA⟩ := k24_open hk
  dsimp only at hA hlc ⊢
  obtain ⟨y, HY⟩ : ∃ y : ByteArray, Aside0 ((⟨(Lib.itoa n).toArray⟩ : ByteArray) = y) := ⟨_, ⟨rfl⟩⟩
  have HR : Aside0 (mkS (txt ⟨2, s, n, ks, at_⟩ fin) = (⟨#[110, 111, 110, 101, 91]⟩ : ByteArray) ++ y ++ (⟨#[93]⟩ : ByteArray)) := ⟨by
    have e : txt ⟨2, s, n, ks, at_⟩ fin = [110, 111, 110, 101, 91] ++ Lib.itoa n ++ [93] := by
      rw [txt_def]
      show [110, 111, 110, 101] ++ (if n = 1 then [] else [91] ++ Lib.itoa n ++ [93]) = _
      rw [if_neg hn]; simp
    rw [e, ← mkS_app, ← mkS_app, ← HY.out]; rfl⟩
  have hy : y.size ≤ 3 := by rw [← HY.out]; simpa [ByteArray.size] using itoa_len2 n h0 h1
  have hnb : (n == 1) = false := by simp [hn]
  have c1 : ¬ 9223372036854775807 < 5 + y.size := by omega
  have c2 : ¬ 9223372036854775807 < 5 + y.size + 1 := by omega
  clear hk hA hlc hy hn
  have HY0 := Aside0.mk (sym_none (o := 2) rfl)
  have HZ0 := Aside0.mk (pre_none (o := 2) rfl)
  have hu24 := Tryd.underlying24
  go_enter Tryd.func40, Tryd.ntmps40
  go_wp2_with fail
  refine (ref_symbol _ _).mono ?_
  rintro e w0 ⟨rfl, rfl⟩
  rw [HY0.out]
  go_wp2_with fail
  refine (ref_prefix _ _).mono ?_
  rintro e w0 ⟨rfl, rfl⟩
  rw [HZ0.out]
  go_wp2_with fail
  refine (decimal_walk n h0 h1 _).mono ?_
  rintro e w2 ⟨rfl, hb2⟩
  rw [HY.out]
  have HB := Aside0.mk (below_step (below_alloc (Below.refl _ _) _) hb2)
  clear hb2
  go_wp2_with fail
  go_ret
  exact ⟨by rw [HR.out]; rfl, HB.out⟩
set_option maxHeartbeats 4000000 in
set_option maxRecDepth 100000 in
theorem text_prime (s : ByteArray) (n : Int) (ks : List S24) (at_ : Int) (p : S24) (hpq : ks = [p]) (hO : OperC p) (hlp : LenC p) (fin : Bool) (w : World) (cs : List Value) (hk : k24.K w ⟨5, s, n, ks, at_⟩ cs) : Calls Tryd.prog 40 #[.agg cs.toArray, .bool fin] w (SaysS w (txt ⟨5, s, n, ks, at_⟩ fin)) := by
  obtain ⟨A, c, rfl, hlc, hA⟩ := k24_open hk
  dsimp only at hA hlc ⊢
  have HA := Aside0.mk hA
  have HO := Aside0.mk hO
  have hl1 : ks.length = 1 := by rw [hpq]; rfl
  have hlb0 : (0 : Int) < (ks.length : Int) := by omega
  have hn0 : 0 < ks.length := by omega
  have HPQ : Aside0 (rd_T24 ks 0 = p) := ⟨by rw [hpq]; rfl⟩
  obtain ⟨s1, H1⟩ : ∃ s, Aside0 (mkS (opr p 14 false) = s) := ⟨_, ⟨rfl⟩⟩
  have z1 : s1.size ≤ 100000002 := by rw [← H1.out, mkS_size]; exact opr_lenC hlp 14 false
  have HR : Aside0 (mkS (txt ⟨5, s, n, ks, at_⟩ fin) = s1 ++ (⟨#[39]⟩ : ByteArray)) := ⟨by
    have e : txt ⟨5, s, n, ks, at_⟩ fin = opr p 14 false ++ [39] := by
      rw [txt_def]
      show opd ks 0 14 false ++ [39] = _
      rw [hpq, opd_rd _ _ _ _ (by omega)]; rfl
    rw [e, ← mkS_app, H1.out]; rfl⟩
  clear hk hA hlc hO hlp hpq hl1
  have c1 : ¬ 9223372036854775807 < s1.size + 1 := by omega
  clear z1
  obtain ⟨w1, HW1⟩ : ∃ w1, Aside0 (w1 = (w.alloc (.cells #[.int .i64 5, .string s, .int .i64 n, .slice A ks.length c, .int .i64 at_] 24))) := ⟨_, ⟨rfl⟩⟩
  have HBX : Aside0 (w1.heap[w.heap.size]? = some (.cells #[.int .i64 5, .string s, .int .i64 n, .slice A ks.length c, .int .i64 at_] 24 (0, 0))) := ⟨by rw [HW1.out]; exact blk_new w _⟩
  have HB0 : Aside0 (Below w.heap.size w w1) := ⟨by rw [HW1.out]; exact below_alloc (Below.refl _ _) _⟩
  obtain ⟨ad, A3, c3', e1, g0, g1, g2, g3, g4, gl, gi⟩ := at_T24 (Kd.C_below HA.out HB0.out) 0 (by omega) (by omega)
  cases e1
  rw [HPQ.out] at g0 g1 g2 g3 g4 gl gi
  have KP := Aside0.mk (k24_mk w1 p gl gi)
  rw [HW1.out] at g0 g1 g2 g3 g4
  replace g0 : World.cell? _ ad = _ := g0
  replace g1 : World.cell? _ ⟨ad.block, ad.off + 1, none⟩ = _ := g1
  replace g2 : World.cell? _ ⟨ad.block, ad.off + 2, none⟩ = _ := g2
  replace g3 : World.cell? _ ⟨ad.block, ad.off + 3, none⟩ = _ := g3
  replace g4 : World.cell? _ ⟨ad.block, ad.off + 4, none⟩ = _ := g4
  clear gl gi
  have HY0 := Aside0.mk (sym_none (o := 5) rfl)
  have HZ0 := Aside0.mk (pre_none (o := 5) rfl)
  have hu24 := Tryd.underlying24
  go_enter Tryd.func40, Tryd.ntmps40
  go_wp2_with fail
  refine (ref_symbol _ _).mono ?_
  rintro e w0 ⟨rfl, rfl⟩
  rw [HY0.out]
  go_wp2_with fail
  refine (ref_prefix _ _).mono ?_
  rintro e w0 ⟨rfl, rfl⟩
  rw [HZ0.out]
  go_wp2_with fail
  rw [← HW1.out]
  refine (HO.out 14 false w1 _ KP.out).mono ?_
  rintro e w2 ⟨rfl, hb2⟩
  rw [H1.out]
  have HB := Aside0.mk (below_step HB0.out hb2)
  clear hb2 g0 g1 g2 g3 g4
  go_wp2_with fail
  go_ret
  exact ⟨by rw [HR.out]; rfl, HB.out⟩
set_option maxHeartbeats 4000000 in
set_option maxRecDepth 100000 in
theorem text_all (s : ByteArray) (n : Int) (ks : List S24) (at_ : Int) (hB : ∀ (w : World) (cs : List Value), k24.K w ⟨45, s, n, ks, at_⟩ cs → Calls Tryd.prog 72 #[.agg cs.toArray] w (SaysS w (bnd ⟨45, s, n, ks, at_⟩))) (hlb : (bnd ⟨45, s, n, ks, at_⟩).length ≤ 300000000) (fin : Bool) (w : World) (cs : List Value) (hk : k24.K w ⟨45, s, n, ks, at_⟩ cs) : Calls Tryd.prog 40 #[.agg cs.toArray, .bool fin] w (SaysS w (txt ⟨45, s, n, ks, at_⟩ fin)) := by
  have hw : ∀ w1, Below w.heap.size w w1 → Calls Tryd.prog 72 #[.agg cs.toArray] w1 (SaysS w1 (bnd ⟨45, s, n, ks, at_⟩)) := fun w1 hb1 => hB w1 cs (k24.K_below hb1 hk)
  obtain ⟨A, c, rfl, hlc, hA⟩ := k24_open hk
  dsimp only at hA hlc ⊢
  have HW := Aside0.mk hw
  obtain ⟨s1, H1⟩ : ∃ z, Aside0 (mkS (bnd ⟨45, s, n, ks, at_⟩) = z) := ⟨_, ⟨rfl⟩⟩
  have z1 : s1.size ≤ 300000000 := by rw [← H1.out, mkS_size]; exact hlb
  have HR : Aside0 (mkS (txt ⟨45, s, n, ks, at_⟩ fin) = (⟨#[97, 108, 108, 32]⟩ : ByteArray) ++ s1) := ⟨by
    have e : txt ⟨45, s, n, ks, at_⟩ fin = [97, 108, 108, 32] ++ bnd ⟨45, s, n, ks, at_⟩ := by rw [txt_def]; rfl
    rw [e, ← mkS_app, H1.out]; rfl⟩
  clear hk hA hlc hB hlb hw
  have c1 : ¬ 9223372036854775807 < 4 + s1.size := by omega
  have c2 : ¬ 9223372036854775807 < 4 + s1.size + 1 := by omega
  clear z1
  have HY0 := Aside0.mk (sym_none (o := 45) rfl)
  have HZ0 := Aside0.mk (pre_none (o := 45) rfl)
  have hu24 := Tryd.underlying24
  go_enter Tryd.func40, Tryd.ntmps40
  go_wp2_with fail
  refine (ref_symbol _ _).mono ?_
  rintro e w0 ⟨rfl, rfl⟩
  rw [HY0.out]
  go_wp2_with fail
  refine (ref_prefix _ _).mono ?_
  rintro e w0 ⟨rfl, rfl⟩
  rw [HZ0.out]
  go_wp2_with fail
  refine (HW.out _ (below_alloc (Below.refl _ _) _)).mono ?_
  rintro e w2 ⟨rfl, hb2⟩
  rw [H1.out]
  have HB := Aside0.mk (below_step (below_alloc (Below.refl _ _) _) hb2)
  clear hb2
  go_wp2_with fail
  go_ret
  exact ⟨by rw [HR.out]; rfl, HB.out⟩
set_option maxHeartbeats 4000000 in
set_option maxRecDepth 100000 in
theorem text_ex (s : ByteArray) (n : Int) (ks : List S24) (at_ : Int) (hB : ∀ (w : World) (cs : List Value), k24.K w ⟨46, s, n, ks, at_⟩ cs → Calls Tryd.prog 72 #[.agg cs.toArray] w (SaysS w (bnd ⟨46, s, n, ks, at_⟩))) (hlb : (bnd ⟨46, s, n, ks, at_⟩).length ≤ 300000000) (fin : Bool) (w : World) (cs : List Value) (hk : k24.K w ⟨46, s, n, ks, at_⟩ cs) : Calls Tryd.prog 40 #[.agg cs.toArray, .bool fin] w (SaysS w (txt ⟨46, s, n, ks, at_⟩ fin)) := by
  have hw : ∀ w1, Below w.heap.size w w1 → Calls Tryd.prog 72 #[.agg cs.toArray] w1 (SaysS w1 (bnd ⟨46, s, n, ks, at_⟩)) := fun w1 hb1 => hB w1 cs (k24.K_below hb1 hk)
  obtain ⟨A, c, rfl, hlc, hA⟩ := k24_open hk
  dsimp only at hA hlc ⊢
  have HW := Aside0.mk hw
  obtain ⟨s1, H1⟩ : ∃ z, Aside0 (mkS (bnd ⟨46, s, n, ks, at_⟩) = z) := ⟨_, ⟨rfl⟩⟩
  have z1 : s1.size ≤ 300000000 := by rw [← H1.out, mkS_size]; exact hlb
  have HR : Aside0 (mkS (txt ⟨46, s, n, ks, at_⟩ fin) = (⟨#[115, 111, 109, 101, 32]⟩ : ByteArray) ++ s1) := ⟨by
    have e : txt ⟨46, s, n, ks, at_⟩ fin = [115, 111, 109, 101, 32] ++ bnd ⟨46, s, n, ks, at_⟩ := by rw [txt_def]; rfl
    rw [e, ← mkS_app, H1.out]; rfl⟩
  clear hk hA hlc hB hlb hw
  have c1 : ¬ 9223372036854775807 < 5 + s1.size := by omega
  have c2 : ¬ 9223372036854775807 < 5 + s1.size + 1 := by omega
  clear z1
  have HY0 := Aside0.mk (sym_none (o := 46) rfl)
  have HZ0 := Aside0.mk (pre_none (o := 46) rfl)
  have hu24 := Tryd.underlying24
  go_enter Tryd.func40, Tryd.ntmps40
  go_wp2_with fail
  refine (ref_symbol _ _).mono ?_
  rintro e w0 ⟨rfl, rfl⟩
  rw [HY0.out]
  go_wp2_with fail
  refine (ref_prefix _ _).mono ?_
  rintro e w0 ⟨rfl, rfl⟩
  rw [HZ0.out]
  go_wp2_with fail
  refine (HW.out _ (below_alloc (Below.refl _ _) _)).mono ?_
  rintro e w2 ⟨rfl, hb2⟩
  rw [H1.out]
  have HB := Aside0.mk (below_step (below_alloc (Below.refl _ _) _) hb2)
  clear hb2
  go_wp2_with fail
  go_ret
  exact ⟨by rw [HR.out]; rfl, HB.out⟩
set_option maxHeartbeats 4000000 in
set_option maxRecDepth 100000 in
theorem text_compr (s : ByteArray) (n : Int) (ks : List S24) (at_ : Int) (hB : ∀ (w : World) (cs : List Value), k24.K w ⟨15, s, n, ks, at_⟩ cs → Calls Tryd.prog 72 #[.agg cs.toArray] w (SaysS w (bnd ⟨15, s, n, ks, at_⟩))) (hlb : (bnd ⟨15, s, n, ks, at_⟩).length ≤ 300000000) (fin : Bool) (w : World) (cs : List Value) (hk : k24.K w ⟨15, s, n, ks, at_⟩ cs) : Calls Tryd.prog 40 #[.agg cs.toArray, .bool fin] w (SaysS w (txt ⟨15, s, n, ks, at_⟩ fin)) := by
  have hw : ∀ w1, Below w.heap.size w w1 → Calls Tryd.prog 72 #[.agg cs.toArray] w1 (SaysS w1 (bnd ⟨15, s, n, ks, at_⟩)) := fun w1 hb1 => hB w1 cs (k24.K_below hb1 hk)
  obtain ⟨A, c, rfl, hlc, hA⟩ := k24_open hk
  dsimp only at hA hlc ⊢
  have HW := Aside0.mk hw
  obtain ⟨s1, H1⟩ : ∃ z, Aside0 (mkS (bnd ⟨15, s, n, ks, at_⟩) = z) := ⟨_, ⟨rfl⟩⟩
  have z1 : s1.size ≤ 300000000 := by rw [← H1.out, mkS_size]; exact hlb
  have HR : Aside0 (mkS (txt ⟨15, s, n, ks, at_⟩ fin) = (⟨#[123]⟩ : ByteArray) ++ s1 ++ (⟨#[125]⟩ : ByteArray)) := ⟨by
    have e : txt ⟨15, s, n, ks, at_⟩ fin = [123] ++ bnd ⟨15, s, n, ks, at_⟩ ++ [125] := by rw [txt_def]; rfl
    rw [e, ← mkS_app, ← mkS_app, H1.out]; rfl⟩
  clear hk hA hlc hB hlb hw
  have c1 : ¬ 9223372036854775807 < 1 + s1.size := by omega
  have c2 : ¬ 9223372036854775807 < 1 + s1.size + 1 := by omega
  clear z1
  have HY0 := Aside0.mk (sym_none (o := 15) rfl)
  have HZ0 := Aside0.mk (pre_none (o := 15) rfl)
  have hu24 := Tryd.underlying24
  go_enter Tryd.func40, Tryd.ntmps40
  go_wp2_with fail
  refine (ref_symbol _ _).mono ?_
  rintro e w0 ⟨rfl, rfl⟩
  rw [HY0.out]
  go_wp2_with fail
  refine (ref_prefix _ _).mono ?_
  rintro e w0 ⟨rfl, rfl⟩
  rw [HZ0.out]
  go_wp2_with fail
  refine (HW.out _ (below_alloc (Below.refl _ _) _)).mono ?_
  rintro e w2 ⟨rfl, hb2⟩
  rw [H1.out]
  have HB := Aside0.mk (below_step (below_alloc (Below.refl _ _) _) hb2)
  clear hb2
  go_wp2_with fail
  go_ret
  exact ⟨by rw [HR.out]; rfl, HB.out⟩
theorem argl_step (ks : List S24) (k : Nat) (h : k < ks.length) (first : Bool) : argl (ks.drop k) first = (if first then [] else [44, 32]) ++ opr (rd_T24 ks k) 8 true ++ argl (ks.drop (k + 1)) false := by
  rw [drop_rd ks k h, argl_cons]
set_option maxHeartbeats 4000000 in
set_option maxRecDepth 100000 in
theorem text_call (s : ByteArray) (n : Int) (ks : List S24) (at_ : Int) (hO : ∀ p ∈ ks, OperC p) (hlt : (txt ⟨47, s, n, ks, at_⟩ true).length ≤ 100000000) (fin : Bool) (w : World) (cs : List Value) (hk : k24.K w ⟨47, s, n, ks, at_⟩ cs) : Calls Tryd.prog 40 #[.agg cs.toArray, .bool fin] w (SaysS w (txt ⟨47, s, n, ks, at_⟩ fin)) := by
  obtain ⟨A, c, rfl, hlc, hA⟩ := k24_open hk
  dsimp only at hA hlc ⊢
  have HA := Aside0.mk hA
  have HO := Aside0.mk hO
  have hlen := row_len hA
  have ht : ∀ f, txt ⟨47, s, n, ks, at_⟩ f = s.data.toList ++ [91] ++ argl ks true ++ [93] := fun f => by rw [txt_def]; rfl
  rw [ht] at hlt ⊢
  have HLT := Aside0.mk hlt
  have hs0 : s.size ≤ 100000000 := by simp only [List.length_append, data_length] at hlt; omega
  have c0 : ¬ 9223372036854775807 < s.size + 1 := by omega
  clear hk hA hlc hO hlt ht hs0
  obtain ⟨w1, HW1⟩ : ∃ w1, Aside0 (w1 = (w.alloc (.cells #[.int .i64 47, .string s, .int .i64 n, .slice A ks.length c, .int .i64 at_] 24))) := ⟨_, ⟨rfl⟩⟩
  have HBX : Aside0 (w1.heap[w.heap.size]? = some (.cells #[.int .i64 47, .string s, .int .i64 n, .slice A ks.length c, .int .i64 at_] 24 (0, 0))) := ⟨by rw [HW1.out]; exact blk_new w _⟩
  have HB0 : Aside0 (Below w.heap.size w w1) := ⟨by rw [HW1.out]; exact below_alloc (Below.refl _ _) _⟩
  have HY0 := Aside0.mk (sym_none (o := 47) rfl)
  have HZ0 := Aside0.mk (pre_none (o := 47) rfl)
  have hu24 := Tryd.underlying24
  go_enter Tryd.func40, Tryd.ntmps40
  go_wp2_with fail
  refine (ref_symbol _ _).mono ?_
  rintro e w0 ⟨rfl, rfl⟩
  rw [HY0.out]
  go_wp2_with fail
  refine (ref_prefix _ _).mono ?_
  rintro e w0 ⟨rfl, rfl⟩
  rw [HZ0.out]
  go_wp2_with fail
  rw [← HW1.out]
  clear HW1 HY0 HZ0
  go_loopw [6, 7] (fun v i wr => ∃ (k : Nat) (y : ByteArray) (d : List UInt8), k ≤ ks.length ∧ i = .int .i64 k ∧ v = .string y ∧ Aside0 (y = mkS d) ∧ Aside0 (d ++ argl (ks.drop k) (decide (k = 0)) = s.data.toList ++ [91] ++ argl ks true) ∧ Aside0 (Below w1.heap.size w1 wr)) (fun _ i _ => ks.length - (intOf i).toNat)
  case atStart => exact ⟨0, _, s.data.toList ++ [91], Nat.zero_le _, rfl, rfl, ⟨by rw [← mkS_app, mkS_data]; rfl⟩, ⟨by simp⟩, ⟨Below.refl _ _⟩⟩
  case round =>
    obtain ⟨k, y, d, hk, rfl, rfl, HY, HE, HB⟩ := hrel
    have b3 := blk_cell (blk_below HBX.out HB.out) 3
    have hy : y.size = d.length := by rw [HY.out, mkS_size]
    by_cases hlt : k < ks.length
    · obtain ⟨ad, A3, c3', e1, g0, g1, g2, g3, g4, gl, gi⟩ := at_T24 (Kd.C_below HA.out (below_step HB0.out HB.out)) k (by omega) (by omega)
      cases e1
      simp only [Int.toNat_natCast] at g0 g1 g2 g3 g4
      have KX : Aside0 (k24.K wr (rd_T24 ks k) [.int .i64 (rd_T24 ks k).f0, .string (rd_T24 ks k).f1, .int .i64 (rd_T24 ks k).f2, .slice A3 (rd_T24 ks k).f3.length c3', .int .i64 (rd_T24 ks k).f4]) := ⟨k24_mk wr _ gl gi⟩
      have HM : Aside0 (rd_T24 ks k ∈ ks) := ⟨List.mem_of_mem_drop (by rw [drop_rd ks k hlt]; exact List.mem_cons_self)⟩
      have HST := Aside0.mk (argl_step ks k hlt (decide (k = 0)))
      obtain ⟨s1, H1⟩ : ∃ s, Aside0 (mkS (opr (rd_T24 ks k) 8 true) = s) := ⟨_, ⟨rfl⟩⟩
      have hs1 : s1.size = (opr (rd_T24 ks k) 8 true).length := by rw [← H1.out, mkS_size]
      have hsz : y.size + 2 + s1.size ≤ 100000002 := by
        have h1 := HLT.out
        rw [← HE.out, HST.out] at h1
        simp only [List.length_append, List.length_cons, List.length_nil] at h1
        omega
      clear gl gi hy hs1
      by_cases hk0 : k = 0
      · have HK0 := Aside0.mk hk0
        have hkb : ¬ 0 < k := by omega
        have c1 : ¬ 9223372036854775807 < y.size + s1.size := by omega
        clear hk0 hsz
        go_wp2_with fail
        refine (HO.out _ HM.out 8 true wr _ KX.out).mono ?_
        rintro e w2 ⟨rfl, hb2⟩
        rw [H1.out]
        have HB2 := Aside0.mk (below_step HB.out hb2)
        clear hb2 g0 g1 g2 g3 g4 b3
        go_wp2_with fail
        go_roundw
        case rel => exact ⟨k + 1, _, d ++ opr (rd_T24 ks k) 8 true, by omega, by go_num, rfl, ⟨by rw [← mkS_app, H1.out, HY.out]⟩, ⟨by
          have h1 := HE.out
          rw [HST.out, decide_eq_true HK0.out] at h1
          have : decide (k + 1 = 0) = false := decide_eq_false (by omega)
          rw [this, ← h1]; simp⟩, HB2⟩
        case measure => simp [intOf]; omega
      · have HK0 := Aside0.mk hk0
        have hkb : 0 < k := by omega
        have c1 : ¬ 9223372036854775807 < y.size + 2 := by omega
        have c2 : ¬ 9223372036854775807 < y.size + 2 + s1.size := by omega
        clear hk0 hsz
        go_wp2_with fail
        refine (HO.out _ HM.out 8 true wr _ KX.out).mono ?_
        rintro e w2 ⟨rfl, hb2⟩
        rw [H1.out]
        have HB2 := Aside0.mk (below_step HB.out hb2)
        clear hb2 g0 g1 g2 g3 g4 b3
        go_wp2_with fail
        go_roundw
        case rel => exact ⟨k + 1, _, d ++ [44, 32] ++ opr (rd_T24 ks k) 8 true, by omega, by go_num, rfl, ⟨by rw [← mkS_app, ← mkS_app, H1.out, HY.out]; rfl⟩, ⟨by
          have h1 := HE.out
          rw [HST.out, decide_eq_false HK0.out] at h1
          have : decide (k + 1 = 0) = false := decide_eq_false (by omega)
          rw [this, ← h1]; simp⟩, HB2⟩
        case measure => simp [intOf]; omega
    · have hkl : k = ks.length := by omega
      have HD : Aside0 (d = s.data.toList ++ [91] ++ argl ks true) := ⟨by
        rw [← HE.out, List.drop_of_length_le (by omega)]; simp [argl]⟩
      have c1 : ¬ 9223372036854775807 < y.size + 1 := by
        have h1 := HLT.out
        rw [← HD.out] at h1
        simp only [List.length_append, List.length_cons, List.length_nil] at h1
        omega
      clear hkl hy
      go_wp2_with fail
      go_ret
      exact ⟨by rw [← HD.out, ← mkS_app, ← HY.out]; rfl, below_step HB0.out HB.out⟩
end Go.Proofs.YtgdiodhaihmnbaaDoor.Own
namespace Go.Proofs.YtgdiodhaihmnbaaDoor.Own
open Go.RowKit Go.Proofs.YtgdiodhaihmnbaaDoorW.PrintWords Go.Proofs.YtgdiodhaihmnbaaDoorW.PrintLast Go.Proofs.YtgdiodhaihmnbaaDoorW.PrintMore Go.Proofs.YtgdiodhaihmnbaaDoor.PPrinterMatchesReference
theorem nN_kid : ∀ (l : List S24) (y : S24), y ∈ l → nN y ≤ nL l
  | [], y, h => by cases h
  | x :: r, y, h => by
    rw [nL]
    rcases List.mem_cons.1 h with rfl | h
    · omega
    · have := nN_kid r y h; omega
theorem len_of {x : S24} {lv : Int} (hf : frmN x lv = true) (hn : nN x ≤ 1000000) : LenC x := fun fin => by
  have := txt_len _ x (Nat.lt_succ_self _) lv hf fin
  omega
theorem name_size {s : ByteArray} (h : nameB s = true) : s.size ≤ 16 := by
  simp only [nameB, Bool.and_eq_true, decide_eq_true_eq] at h
  exact h.1.1.2
theorem ref_text (m : Nat) : ∀ x : S24, SizeOf.sizeOf x < m → ∀ lv, frmN x lv = true → nN x ≤ 1000000 → TextC x := by
  induction m with
  | zero => intro x h; omega
  | succ m ih =>
    intro x hx lv hf hn
    obtain ⟨hown, hfit, hkids⟩ := frm_own hf
    have hkn : ∀ y ∈ x.f3, nN y ≤ 1000000 := fun y hy => by have := nN_kid x.f3 y hy; have := nN_def x; omega
    have hT : ∀ y ∈ x.f3, TextC y := fun y hy => ih y (by have := size_kid hy; omega) (lv - 1) (frmL_mem hkids y hy) (hkn y hy)
    have hL : ∀ y ∈ x.f3, LenC y := fun y hy => len_of (frmL_mem hkids y hy) (hkn y hy)
    have hO : ∀ y ∈ x.f3, OperC y := fun y hy => ref_operand y (hT y hy) (hL y hy)
    have hlx := len_of hf hn
    have hSh := txt_len _ x (Nat.lt_succ_self _) lv hf
    obtain ⟨o, s, n, ks, at_⟩ := x
    dsimp only at hfit hkids hT hL hO hkn
    intro fin w cs hk
    cases hb : atT o binT with
    | some v =>
      obtain ⟨t, l, a, b⟩ := v
      obtain ⟨rel, alt, k0, k1, hop, hsh, hif, hne, hnle, hnne, h39, h91, h58, hnm, hnum, h7, hnam, h2, h20⟩ := bin_row hb
      have h47 : o ≠ 47 := by intro h; rw [h] at hnam; revert hnam; decide
      obtain ⟨hlen, hkd⟩ := fits_shape hsh h47 hfit
      obtain ⟨p, q, hpq⟩ := kids_two hlen.symm
      have mp : p ∈ ks := by rw [hpq]; exact List.mem_cons_self
      have mq : q ∈ ks := by rw [hpq]; exact List.mem_cons_of_mem _ List.mem_cons_self
      exact text_bin o s n ks at_ p q hb hpq (hO p mp) (hO q mq) (hL p mp) (hL q mq) fin w cs hk
    | none =>
      cases hp : atT o preT with
      | some v =>
        obtain ⟨t, l, a, b⟩ := v
        obtain ⟨k0, hop, hsh, hall, hnm, hnum, hnam, h2, h20, hopen⟩ := pre_row hp
        have h47 : o ≠ 47 := by intro h; rw [h] at hnam; revert hnam; decide
        obtain ⟨hlen, hkd⟩ := fits_shape hsh h47 hfit
        obtain ⟨p, hpq⟩ := kids_one hlen.symm
        have mp : p ∈ ks := by rw [hpq]; exact List.mem_cons_self
        exact text_pre o s n ks at_ p hb hp hpq (hO p mp) (hL p mp) fin w cs hk
      | none =>
        by_cases h47 : o = 47
        · subst h47
          exact text_call s n ks at_ hO (hlx true) fin w cs hk
        rcases fits_cases hfit with ⟨h, _⟩ | ⟨_, sh, hl, hlen, _⟩
        · exact absurd h h47
        have hm := shape_bare _ (atS_mem hl) hb hp
        simp only [List.mem_cons, List.not_mem_nil, or_false] at hm
        have two : o ∈ ([45, 46, 15] : List Int) → ∃ p q, ks = [p, q] ∧ s.size ≤ 16 ∧ p ∈ ks ∧ q ∈ ks := by
          intro h3
          have hsh : atS o shapeT = some [101, 102] := by
            have : ∀ k ∈ ([45, 46, 15] : List Int), atS k shapeT = some [101, 102] := by decide
            exact this o h3
          have hnam : named o = true := by
            have : ∀ k ∈ ([45, 46, 15] : List Int), named k = true := by decide
            exact this o h3
          obtain ⟨hlen, _⟩ := fits_shape hsh h47 hfit
          obtain ⟨p, q, hpq⟩ := kids_two hlen.symm
          exact ⟨p, q, hpq, name_size (own_name hown hnam), by rw [hpq]; exact List.mem_cons_self, by rw [hpq]; exact List.mem_cons_of_mem _ List.mem_cons_self⟩
        have bl : o ∈ ([45, 46, 15] : List Int) → (bnd ⟨o, s, n, ks, at_⟩).length ≤ 300000000 := by
          intro h3
          have hnam : named o = true := by
            have : ∀ k ∈ ([45, 46, 15] : List Int), named k = true := by decide
            exact this o h3
          have hk2 : ∀ y ∈ ks, Short y := fun y hy => txt_len _ y (Nat.lt_succ_self _) (lv - 1) (frmL_mem hkids y hy)
          have h1 := bnd_len (x := ⟨o, s, n, ks, at_⟩) hk2 (own_name hown hnam)
          have h2 := nN_def ⟨o, s, n, ks, at_⟩
          dsimp only at h1 h2
          omega
        have bw : o ∈ ([45, 46, 15] : List Int) → ∀ (w : World) (cs : List Value), k24.K w ⟨o, s, n, ks, at_⟩ cs → Calls Tryd.prog 72 #[.agg cs.toArray] w (SaysS w (bnd ⟨o, s, n, ks, at_⟩)) := by
          intro h3 w cs hk
          obtain ⟨p, q, hpq, hs, mp, mq⟩ := two h3
          exact ref_bound ⟨o, s, n, ks, at_⟩ p q hpq (hO p mp) (hT q mq) (hL p mp) (hL q mq) hs w cs hk
        rcases hm with h | h | h | h | h | h | h | h | h | h | h <;> subst h
        · exact text_name s n ks at_ fin w cs hk
        · have h3 := own_none hown rfl
          dsimp only at h3
          by_cases hn1 : n = 1
          · exact text_none1 s n ks at_ hn1 fin w cs hk
          · exact text_none s n ks at_ hn1 (by omega) (by omega) fin w cs hk
        · have h3 := own_lit hown rfl
          exact text_lit s n ks at_ h3.1 h3.2 fin w cs hk
        · obtain ⟨hlen, hkd⟩ := fits_shape (s := [101]) rfl h47 hfit
          obtain ⟨p, hpq⟩ := kids_one hlen.symm
          have mp : p ∈ ks := by rw [hpq]; exact List.mem_cons_self
          exact text_prime s n ks at_ p hpq (hO p mp) (hL p mp) fin w cs hk
        · exact text_all s n ks at_ (bw (by decide)) (bl (by decide)) fin w cs hk
        · exact text_ex s n ks at_ (bw (by decide)) (bl (by decide)) fin w cs hk
        · exact text_compr s n ks at_ (bw (by decide)) (bl (by decide)) fin w cs hk
        · exact text_con3 s n ks at_ fin w cs hk
        · exact text_con4 s n ks at_ fin w cs hk
        · exact text_con30 s n ks at_ fin w cs hk
        · exact text_con31 s n ks at_ fin w cs hk
set_option maxHeartbeats 4000000 in
set_option maxRecDepth 100000 in
theorem ref_formula (x : S24) (hv : validB x = true) (w : World) (cs : List Value) (hk : k24.K w x cs) : Calls Tryd.prog 14 #[.agg cs.toArray] w (SaysS w (txt x true)) := by
  have hv2 := hv
  unfold validB at hv2
  simp only [Bool.and_eq_true, decide_eq_true_eq] at hv2
  have hT : TextC x := ref_text _ x (Nat.lt_succ_self _) 24 hv2.2 (by have := cnt_is x 400 hv2.1; omega)
  have HW : Aside0 (∀ w1, Below w.heap.size w w1 → Calls Tryd.prog 40 #[.agg cs.toArray, .bool true] w1 (SaysS w1 (txt x true))) := ⟨fun w1 hb1 => hT true w1 cs (k24.K_below hb1 hk)⟩
  obtain ⟨A, c, rfl, hlc, hA⟩ := k24_open hk
  have hu24 := Tryd.underlying24
  clear hk hA hlc hT hv hv2
  go_enter Tryd.func14, Tryd.ntmps14
  go_wp2_with fail
  refine (HW.out _ (below_alloc (Below.refl _ _) _)).mono ?_
  rintro e w2 ⟨rfl, hb2⟩
  have HB := Aside0.mk (below_step (below_alloc (Below.refl _ _) _) hb2)
  clear hb2
  go_wp2_with fail
  go_ret
  exact ⟨rfl, HB.out⟩
end Go.Proofs.YtgdiodhaihmnbaaDoor.Own
namespace Go.Proofs.YtgdiodhaihmnbaaDoor.Own
open Go.RowKit Go.Proofs.YtgdiodhaihmnbaaDoorW.PrintWords Go.Proofs.YtgdiodhaihmnbaaDoorW.PrintLast Go.Proofs.YtgdiodhaihmnbaaDoorW.PrintMore Go.Proofs.YtgdiodhaihmnbaaDoor.PPrinterMatchesReference
/-- A call that answers a bool and makes memory alone; a true answer means P. -/
def Gives (w : World) (P : Prop) (e : Ending) (w' : World) : Prop := ∃ b, e = .returned (.bool b) ∧ (b = true → P) ∧ Below w.heap.size w w'
theorem all_step {α : Type} {P : α → Prop} {z : α} {l : List α} {k : Nat} (h : ∀ i, i < k → P (l.getD i z)) (hk : P (l.getD k z)) : ∀ i, i < k + 1 → P (l.getD i z) := fun i hi => by
  rcases Nat.lt_succ_iff_lt_or_eq.1 hi with h1 | rfl
  · exact h i h1
  · exact hk
theorem all_mem {α : Type} {P : α → Prop} {z : α} {l : List α} (h : ∀ i, i < l.length → P (l.getD i z)) : ∀ x ∈ l, P x := fun x hx => by
  obtain ⟨i, hi, rfl⟩ := List.getElem_of_mem hx
  have := h i hi
  simpa [hi] using this
set_option maxHeartbeats 4000000 in
set_option maxRecDepth 100000 in
theorem indices_walk (x : SpD) (l : List Int) (A : Option Addr) (c : Nat) (w : World) (cx : List Value) (hx : SpK w x cx) (hl : (Kd.int .i64).C w A l.length l) : Calls Tryd.prog 43 #[.agg cx.toArray, .slice A l.length c] w (Gives w (∀ i ∈ l, 0 ≤ i ∧ i < (x.so.length : Int))) := by
  obtain ⟨A0, A1, A2, A3, c0, c1, c2, c3, rfl, x0, x1, x2, x3⟩ := hx
  have HL := Aside0.mk hl
  have hlen := row_len hl
  have hu30 := Tryd.underlying30
  clear x0 x1 x2 x3 hl
  obtain ⟨w1, HW1⟩ : ∃ w1, Aside0 (w1 = (w.alloc (.cells #[.slice A0 x.so.length c0, .slice A1 x.fi.length c1, .slice A2 x.pr.length c2, .slice A3 x.fa.length c3] 30))) := ⟨_, ⟨rfl⟩⟩
  have HBX : Aside0 (w1.heap[w.heap.size]? = some (.cells #[.slice A0 x.so.length c0, .slice A1 x.fi.length c1, .slice A2 x.pr.length c2, .slice A3 x.fa.length c3] 30 (0, 0))) := ⟨by rw [HW1.out]; exact blk_new w _⟩
  have HB0 : Aside0 (Below w.heap.size w w1) := ⟨by rw [HW1.out]; exact below_alloc (Below.refl _ _) _⟩
  go_enter Tryd.func43, Tryd.ntmps43
  go_wp2_with fail
  rw [← HW1.out]
  clear HW1
  go_loopw [5] (fun i wr => ∃ k : Nat, k ≤ l.length ∧ i = .int .i64 k ∧ Aside0 (∀ j, j < k → 0 ≤ l.getD j 0 ∧ l.getD j 0 < (x.so.length : Int)) ∧ Aside0 (Below w1.heap.size w1 wr)) (fun i _ => l.length - (intOf i).toNat)
  case atStart => exact ⟨0, Nat.zero_le _, rfl, ⟨fun j hj => absurd hj (Nat.not_lt_zero j)⟩, ⟨Below.refl _ _⟩⟩
  case round =>
    obtain ⟨k, hk, rfl, HE, HB⟩ := hrel
    have z0 := blk_cell (blk_below HBX.out HB.out) 0
    by_cases hlt : k < l.length
    · obtain ⟨ad, e1, g0⟩ := int_at (Kd.C_below HL.out (below_step HB0.out HB.out)) k hlt
      cases e1
      have HS : Aside0 ((0 ≤ l.getD k 0 ∧ l.getD k 0 < (x.so.length : Int)) → ∀ j, j < k + 1 → 0 ≤ l.getD j 0 ∧ l.getD j 0 < (x.so.length : Int)) := ⟨fun h => all_step (P := fun v => 0 ≤ v ∧ v < (x.so.length : Int)) HE.out h⟩
      generalize l.getD k 0 = v at *
      by_cases hv : v < 0
      · have hd : decide (v < 0) = true := decide_eq_true hv
        clear hv
        go_wp2_with fail
        go_quiet (fail)
        go_wp2_with fail
        go_ret
        exact ⟨false, rfl, fun h => (by cases h), below_step HB0.out (pw_below_drewN HB.out _)⟩
      · have hd : decide (v < 0) = false := decide_eq_false hv
        by_cases hv2 : (x.so.length : Int) ≤ v
        · have hd2 : decide ((x.so.length : Int) ≤ v) = true := decide_eq_true hv2
          clear hv
          go_wp2_with fail
          go_quiet (fail)
          go_wp2_with fail
          go_ret
          exact ⟨false, rfl, fun h => (by cases h), below_step HB0.out (pw_below_drewN HB.out _)⟩
        · have hd2 : decide ((x.so.length : Int) ≤ v) = false := decide_eq_false hv2
          have HN := Aside0.mk (HS.out ⟨by omega, by omega⟩)
          clear hv HS
          go_wp2_with fail
          go_quiet (fail)
          go_wp2_with fail
          go_roundw
          case rel => exact ⟨k + 1, by omega, by go_num, HN, ⟨pw_below_drewN HB.out _⟩⟩
          case measure => simp [intOf]; omega
    · have HN : Aside0 (∀ i ∈ l, 0 ≤ i ∧ i < (x.so.length : Int)) := ⟨all_mem (P := fun v => 0 ≤ v ∧ v < (x.so.length : Int)) (z := 0) fun i hi => HE.out i (by omega)⟩
      go_wp2_with fail
      go_ret
      exact ⟨true, rfl, fun _ => HN.out, below_step HB0.out HB.out⟩
set_option maxHeartbeats 4000000 in
set_option maxRecDepth 100000 in
theorem named_walk (x : SpD) (w : World) (cx : List Value) (hx : SpK w x cx) (hsz : ∀ s ∈ x.so, s.f0.size ≤ 9223372036854775807) : Calls Tryd.prog 41 #[.agg cx.toArray] w (Gives w (∀ s ∈ x.so, nameB s.f0 = true)) := by
  obtain ⟨A0, A1, A2, A3, c0, c1, c2, c3, rfl, x0, x1, x2, x3⟩ := hx
  have HL := Aside0.mk x0
  have HSZ := Aside0.mk hsz
  have hlen := row_len x0
  have hu30 := Tryd.underlying30
  have hu42 := Tryd.underlying42
  clear x0 x1 x2 x3 hsz
  obtain ⟨w1, HW1⟩ : ∃ w1, Aside0 (w1 = (w.alloc (.cells #[.slice A0 x.so.length c0, .slice A1 x.fi.length c1, .slice A2 x.pr.length c2, .slice A3 x.fa.length c3] 30))) := ⟨_, ⟨rfl⟩⟩
  have HBX : Aside0 (w1.heap[w.heap.size]? = some (.cells #[.slice A0 x.so.length c0, .slice A1 x.fi.length c1, .slice A2 x.pr.length c2, .slice A3 x.fa.length c3] 30 (0, 0))) := ⟨by rw [HW1.out]; exact blk_new w _⟩
  have HB0 : Aside0 (Below w.heap.size w w1) := ⟨by rw [HW1.out]; exact below_alloc (Below.refl _ _) _⟩
  go_enter Tryd.func41, Tryd.ntmps41
  go_wp2_with fail
  rw [← HW1.out]
  clear HW1
  go_loopw [3] (fun i wr => ∃ k : Nat, k ≤ x.so.length ∧ i = .int .i64 k ∧ Aside0 (∀ j, j < k → nameB (x.so.getD j z42).f0 = true) ∧ Aside0 (Below w1.heap.size w1 wr)) (fun i _ => x.so.length - (intOf i).toNat)
  case atStart => exact ⟨0, Nat.zero_le _, rfl, ⟨fun j hj => absurd hj (Nat.not_lt_zero j)⟩, ⟨Below.refl _ _⟩⟩
  case round =>
    obtain ⟨k, hk, rfl, HE, HB⟩ := hrel
    have z0 := blk_cell (blk_below HBX.out HB.out) 0
    by_cases hlt : k < x.so.length
    · obtain ⟨ad, e1, g0, g1⟩ := at_T42 (Kd.C_below HL.out (below_step HB0.out HB.out)) k (by omega) (by omega)
      cases e1
      simp only [Int.toNat_natCast, rd_T42] at g0 g1
      have HS : Aside0 (nameB (x.so.getD k z42).f0 = true → ∀ j, j < k + 1 → nameB (x.so.getD j z42).f0 = true) := ⟨fun h => all_step (P := fun s : S42 => nameB s.f0 = true) HE.out h⟩
      have HZ : Aside0 ((x.so.getD k z42).f0.size ≤ 9223372036854775807) := ⟨HSZ.out _ (mem_get z42 x.so k hlt)⟩
      have HK := Aside0.mk hlt
      generalize x.so.getD k z42 = u at *
      go_wp2_with fail
      refine (name_walk u.f0 wr HZ.out).mono ?_
      rintro e w2 ⟨rfl, hb2⟩
      have HB2 := Aside0.mk (below_step HB.out hb2)
      replace z0 := pw_cell_below hb2 z0
      replace g0 := pw_cell_below hb2 g0
      replace g1 := pw_cell_below hb2 g1
      clear hb2
      cases hq : nameB u.f0
      · go_wp2_with fail
        go_ret
        exact ⟨false, rfl, fun h => (by cases h), below_step HB0.out HB2.out⟩
      · have HN := Aside0.mk (HS.out hq)
        clear HS hq
        go_wp2_with fail
        go_loopw [5] (fun i wq => ∃ m : Nat, m ≤ k ∧ i = .int .i64 m ∧ Aside0 (Below w2.heap.size w2 wq)) (fun i _ => k - (intOf i).toNat)
        case atStart => exact ⟨0, Nat.zero_le _, rfl, ⟨Below.refl _ _⟩⟩
        case round =>
          obtain ⟨m, hm, rfl, HBQ⟩ := hrel
          by_cases hlm : m < k
          · replace z0 := pw_cell_below HBQ.out z0
            replace g0 := pw_cell_below HBQ.out g0
            replace g1 := pw_cell_below HBQ.out g1
            have hm2 : (m : Int) < (x.so.length : Int) := by omega
            have hm3 : m < x.so.length := by omega
            obtain ⟨bd, e2, f0, f1⟩ := at_T42 (Kd.C_below HL.out (below_step HB0.out (below_step HB2.out HBQ.out))) m (by omega) (by omega)
            cases e2
            simp only [Int.toNat_natCast, rd_T42] at f0 f1
            generalize x.so.getD m z42 = v at *
            cases hq : (u.f0.toList == v.f0.toList)
            · go_wp2_with fail
              go_quiet (fail)
              go_wp2_with fail
              go_roundw
              case rel => exact ⟨m + 1, by omega, by go_num, ⟨pw_below_drewN HBQ.out _⟩⟩
              case measure => simp [intOf]; omega
            · go_wp2_with fail
              go_quiet (fail)
              go_wp2_with fail
              go_ret
              exact ⟨false, rfl, fun h => (by cases h), below_step HB0.out (below_step HB2.out (pw_below_drewN HBQ.out _))⟩
          · clear g0 g1 z0
            go_wp2_with fail
            go_roundw
            case rel => exact ⟨k + 1, by have := HK.out; omega, by go_num, HN, ⟨below_step HB2.out HBQ.out⟩⟩
            case measure => have := HK.out; simp [intOf]; omega
    · have HN : Aside0 (∀ s ∈ x.so, nameB s.f0 = true) := ⟨all_mem (P := fun s : S42 => nameB s.f0 = true) (z := z42) fun i hi => HE.out i (by omega)⟩
      go_wp2_with fail
      go_ret
      exact ⟨true, rfl, fun _ => HN.out, below_step HB0.out HB.out⟩
end Go.Proofs.YtgdiodhaihmnbaaDoor.Own
namespace Go.Proofs.YtgdiodhaihmnbaaDoor.Own
open Go.RowKit Go.Proofs.YtgdiodhaihmnbaaDoorW.PrintWords Go.Proofs.YtgdiodhaihmnbaaDoorW.PrintLast Go.Proofs.YtgdiodhaihmnbaaDoorW.PrintMore Go.Proofs.YtgdiodhaihmnbaaDoor.PPrinterMatchesReference
section
variable {P : Program} {ops : Array Oper} {C : World → Prop} {Q : Act → Prop} {a : Act} {o : Oper} {rest : List Oper}
/-- An operation that its guard leaves out. -/
theorem q_off (hw : Region.wanted o (yielded ops a.tmps) = false) (h : wpQuiet P ops C Q rest (a.put o.dst undef)) : wpQuiet P ops C Q (o :: rest) a :=
  wpQuiet_step fun K hK => by simp only [hw, Bool.false_eq_true, if_false]; exact hK _ h
end
/-- What the operations on a parameter yield. -/
def RT (ad : Addr) (k len c : Nat) (u : S47) (n : Int) (spec : Array Value) (i : Nat) (v : Value) (w : World) : Prop := match i with
  | 0 => v = .slice (some ad) len c
  | 1 => v = .int .i64 k
  | 2 => v = .pointer (some (ad.add (k * 2)))
  | 3 => v = .pointer (some (ad.add (k * 2)))
  | 4 => v = .string u.f0
  | 5 => v = .bool true
  | 6 => v = .bool true
  | 7 => v = .agg spec
  | 8 => v = .slice (some ad) len c
  | 9 => v = .int .i64 k
  | 10 => v = .pointer (some (ad.add (k * 2)))
  | 11 => v = .pointer (some ⟨(ad.add (k * 2)).block, (ad.add (k * 2)).off + 1, none⟩)
  | 12 => v = .int .i64 u.f1
  | 13 => ∃ g, v = .slice (some ⟨g, 0, none⟩) 1 1 ∧ SC (Kd.int .i64) (some ⟨g, 0, none⟩) [u.f1] w
  | _ => ∃ b, v = .bool b ∧ (b = true → 0 ≤ u.f1 ∧ u.f1 < n)
theorem RT_below (ad : Addr) (k len c : Nat) (u : S47) (n : Int) (spec : Array Value) : ∀ i v w w', RT ad k len c u n spec i v w → Below w.heap.size w w' → RT ad k len c u n spec i v w' := by
  intro i v w w' h hb
  unfold RT at h ⊢
  split at h <;> first | exact h | (obtain ⟨g, e, hs⟩ := h; exact ⟨g, e, hs.below hb⟩)
set_option maxHeartbeats 8000000 in
set_option maxRecDepth 100000 in
theorem typed_walk (x : SpD) (l : List S47) (A : Option Addr) (c : Nat) (w : World) (cx : List Value) (hx : SpK w x cx) (hl : k47.C w A l.length l) (hsz : ∀ s ∈ l, s.f0.size ≤ 9223372036854775807) : Calls Tryd.prog 45 #[.agg cx.toArray, .slice A l.length c] w (Gives w (∀ p ∈ l, nameB p.f0 = true ∧ 0 ≤ p.f1 ∧ p.f1 < (x.so.length : Int))) := by
  have HX := Aside0.mk hx
  obtain ⟨A0, A1, A2, A3, c0, c1, c2, c3, rfl, x0, x1, x2, x3⟩ := hx
  have HL := Aside0.mk hl
  have HSZ := Aside0.mk hsz
  have hlen := row_len hl
  have hu30 := Tryd.underlying30
  have hu47 := Tryd.underlying47
  clear x0 x1 x2 x3 hl hsz
  obtain ⟨w1, HW1⟩ : ∃ w1, Aside0 (w1 = (w.alloc (.cells #[.slice A0 x.so.length c0, .slice A1 x.fi.length c1, .slice A2 x.pr.length c2, .slice A3 x.fa.length c3] 30))) := ⟨_, ⟨rfl⟩⟩
  have HBX : Aside0 (w1.heap[w.heap.size]? = some (.cells #[.slice A0 x.so.length c0, .slice A1 x.fi.length c1, .slice A2 x.pr.length c2, .slice A3 x.fa.length c3] 30 (0, 0))) := ⟨by rw [HW1.out]; exact blk_new w _⟩
  have HB0 : Aside0 (Below w.heap.size w w1) := ⟨by rw [HW1.out]; exact below_alloc (Below.refl _ _) _⟩
  go_enter Tryd.func45, Tryd.ntmps45
  go_wp2_with fail
  rw [← HW1.out]
  clear HW1
  go_loopw [5] (fun i wr => ∃ k : Nat, k ≤ l.length ∧ i = .int .i64 k ∧ Aside0 (∀ j, j < k → nameB (l.getD j z47).f0 = true ∧ 0 ≤ (l.getD j z47).f1 ∧ (l.getD j z47).f1 < (x.so.length : Int)) ∧ Aside0 (Below w1.heap.size w1 wr)) (fun i _ => l.length - (intOf i).toNat)
  case atStart => exact ⟨0, Nat.zero_le _, rfl, ⟨fun j hj => absurd hj (Nat.not_lt_zero j)⟩, ⟨Below.refl _ _⟩⟩
  case round =>
    obtain ⟨k, hk, rfl, HE, HB⟩ := hrel
    by_cases hlt : k < l.length
    · obtain ⟨ad, e1, g0, g1⟩ := at_T47 (Kd.C_below HL.out (below_step HB0.out HB.out)) k (by omega) (by omega)
      cases e1
      simp only [Int.toNat_natCast, rd_T47] at g0 g1
      have HS : Aside0 (nameB (l.getD k z47).f0 = true ∧ 0 ≤ (l.getD k z47).f1 ∧ (l.getD k z47).f1 < (x.so.length : Int) → ∀ j, j < k + 1 → nameB (l.getD j z47).f0 = true ∧ 0 ≤ (l.getD j z47).f1 ∧ (l.getD j z47).f1 < (x.so.length : Int)) := ⟨fun h => all_step (P := fun s : S47 => nameB s.f0 = true ∧ 0 ≤ s.f1 ∧ s.f1 < (x.so.length : Int)) HE.out h⟩
      have HZ : Aside0 ((l.getD k z47).f0.size ≤ 9223372036854775807) := ⟨HSZ.out _ (mem_get z47 l k hlt)⟩
      generalize l.getD k z47 = u at *
      have hlt2 : (k : Int) < (l.length : Int) := by omega
      have HG0 := Aside0.mk g0
      have HG1 := Aside0.mk g1
      clear g0 g1
      go_wp2_with fail
      cases hq : nameB u.f0
      · have HNM := Aside0.mk hq
        clear hq HS
        obtain ⟨C, hCe⟩ : ∃ C : World → Prop, C = fun W => Below wr.heap.size wr W := ⟨_, rfl⟩
        have HC := Aside0.mk hCe
        clear hCe
        refine wp_quiet_tail C 16 (by kernel_rfl) (by kernel_rfl) (by rw [HC.out]; exact below_drew1 (Below.refl _ _)) ?_
        simp only [List.take_succ_cons, List.take_zero, List.drop_succ_cons, List.drop_zero]
        iterate 5
          refine q_ex rfl ?_
          apply Exists.intro
          refine ⟨fun W hW => ?_, ?_⟩
          · have p3 : Below wr.heap.size wr W := by rw [HC.out] at hW; exact hW
            have g0 := pw_cell_below p3 HG0.out
            have g1 := pw_cell_below p3 HG1.out
            clear p3
            go_simp
            try rfl
          simp only [Act.put, List.setIfInBounds_toArray, List.set_cons_zero, List.set_cons_succ]
        refine q_callX (f := 42) (v := .bool false) rfl ?_ ?_
        · apply Exists.intro
          refine ⟨fun W hW => (by go_simp; try rfl), fun W hW => ?_⟩
          rw [HC.out] at hW ⊢
          refine (name_walk u.f0 W HZ.out).mono ?_
          rintro e w2 ⟨rfl, hb⟩
          exact ⟨by rw [HNM.out], below_step hW hb⟩
        simp only [Act.put, List.setIfInBounds_toArray, List.set_cons_zero, List.set_cons_succ]
        refine q_ex rfl ?_
        apply Exists.intro
        refine ⟨fun W hW => ?_, ?_⟩
        · go_simp
          try rfl
        simp only [Act.put, List.setIfInBounds_toArray, List.set_cons_zero, List.set_cons_succ]
        iterate 8
          refine q_off (by rfl) ?_
          simp only [Act.put, List.setIfInBounds_toArray, List.set_cons_zero, List.set_cons_succ]
        refine q_ex rfl ?_
        apply Exists.intro
        refine ⟨fun W hW => ?_, ?_⟩
        · go_simp
          try rfl
        simp only [Act.put, List.setIfInBounds_toArray, List.set_cons_zero, List.set_cons_succ]
        intro W hW
        rw [HC.out] at hW
        have HW := Aside0.mk hW
        clear hW HC
        go_wp2_with fail
        go_ret
        exact ⟨false, rfl, fun h => (by cases h), below_step HB0.out (below_step HB.out HW.out)⟩
      · have HNM := Aside0.mk hq
        clear hq
        refine wp_grow 17 31 (RT ad k l.length c u x.so.length #[.slice A0 x.so.length c0, .slice A1 x.fi.length c1, .slice A2 x.pr.length c2, .slice A3 x.fa.length c3]) (by kernel_rfl) rfl (by kernel_rfl) (RT_below _ _ _ _ _ _ _) ?_ ?_
        · refine ⟨?_, ?_, ?_, ?_, ?_, ?_, ?_, ?_, ?_, ?_, ?_, ?_, ?_, ?_, ?_, ?_, ?_, trivial⟩
          · intro a uu hu hs
            have e1 : a.tmps.getD 1 undef = .slice (some ad) l.length c := hs 1 (by kernel_rfl)
            rw [Array.getD_eq_getD_getElem?] at e1
            refine ⟨trivial, op_val (by go_simp; try rfl) ⟨_, rfl, Below.refl _ _, rfl⟩⟩
          · intro a uu hu hs
            have e1 : a.tmps.getD 5 undef = .int .i64 k := hs 5 (by kernel_rfl)
            rw [Array.getD_eq_getD_getElem?] at e1
            refine ⟨trivial, op_val (by go_simp; try rfl) ⟨_, rfl, Below.refl _ _, rfl⟩⟩
          · intro a uu hu hs h0 h1
            have e0 : a.tmps.getD 13 undef = .slice (some ad) l.length c := h0
            have e1 : a.tmps.getD 14 undef = .int .i64 k := h1
            rw [Array.getD_eq_getD_getElem?] at e0 e1
            refine ⟨trivial, op_val (by go_simp; try rfl) ⟨_, rfl, Below.refl _ _, rfl⟩⟩
          · intro a uu hu hs h0
            have e0 : a.tmps.getD 15 undef = .pointer (some (ad.add (k * 2))) := h0
            rw [Array.getD_eq_getD_getElem?] at e0
            refine ⟨trivial, op_val (by go_simp; try rfl) ⟨_, rfl, Below.refl _ _, rfl⟩⟩
          · intro a uu hu hs h0
            have e0 : a.tmps.getD 16 undef = .pointer (some (ad.add (k * 2))) := h0
            rw [Array.getD_eq_getD_getElem?] at e0
            have g0 := pw_cell_below hu HG0.out
            refine ⟨trivial, op_val (by go_simp; try rfl) ⟨_, rfl, Below.refl _ _, rfl⟩⟩
          · intro a uu hu hs h0
            have e0 : a.tmps.getD 17 undef = .string u.f0 := h0
            rw [Array.getD_eq_getD_getElem?] at e0
            refine ⟨trivial, op_callE (by go_simp; try rfl) ((name_walk u.f0 uu HZ.out).mono ?_)⟩
            rintro e w' ⟨rfl, hb⟩
            exact ⟨_, rfl, _, rfl, hb, by rw [HNM.out]; rfl⟩
          · intro a uu hu hs h0 h1
            have e0 : a.tmps.getD 18 undef = .bool true := h0
            rw [Array.getD_eq_getD_getElem?] at e0
            refine ⟨trivial, op_val (by go_simp; try rfl) ⟨_, rfl, Below.refl _ _, rfl⟩⟩
          · intro a uu hu hs h0
            have e1 : a.tmps.getD 2 undef = .pointer (some ⟨w.heap.size, 0, none⟩) := hs 2 (by kernel_rfl)
            rw [Array.getD_eq_getD_getElem?] at e1
            have hbk := blk_below (blk_below HBX.out HB.out) hu
            have z0 := blk_cell hbk 0
            have z1 := blk_cell hbk 1
            have z2 := blk_cell hbk 2
            have z3 := blk_cell hbk 3
            refine ⟨⟨19, rfl, h0⟩, op_val (by go_simp; try rfl) ⟨_, rfl, Below.refl _ _, rfl⟩⟩
          · intro a uu hu hs h0
            have e1 : a.tmps.getD 1 undef = .slice (some ad) l.length c := hs 1 (by kernel_rfl)
            rw [Array.getD_eq_getD_getElem?] at e1
            refine ⟨⟨19, rfl, h0⟩, op_val (by go_simp; try rfl) ⟨_, rfl, Below.refl _ _, rfl⟩⟩
          · intro a uu hu hs h0
            have e1 : a.tmps.getD 5 undef = .int .i64 k := hs 5 (by kernel_rfl)
            rw [Array.getD_eq_getD_getElem?] at e1
            refine ⟨⟨19, rfl, h0⟩, op_val (by go_simp; try rfl) ⟨_, rfl, Below.refl _ _, rfl⟩⟩
          · intro a uu hu hs h0 h1 h2
            have e0 : a.tmps.getD 21 undef = .slice (some ad) l.length c := h0
            have e1 : a.tmps.getD 22 undef = .int .i64 k := h1
            rw [Array.getD_eq_getD_getElem?] at e0 e1
            refine ⟨⟨19, rfl, h2⟩, op_val (by go_simp; try rfl) ⟨_, rfl, Below.refl _ _, rfl⟩⟩
          · intro a uu hu hs h0 h1
            have e0 : a.tmps.getD 23 undef = .pointer (some (ad.add (k * 2))) := h0
            rw [Array.getD_eq_getD_getElem?] at e0
            refine ⟨⟨19, rfl, h1⟩, op_val (by go_simp; try rfl) ⟨_, rfl, Below.refl _ _, rfl⟩⟩
          · intro a uu hu hs h0 h1
            have e0 : a.tmps.getD 24 undef = .pointer (some ⟨(ad.add (k * 2)).block, (ad.add (k * 2)).off + 1, none⟩) := h0
            rw [Array.getD_eq_getD_getElem?] at e0
            have g1 := pw_cell_below hu HG1.out
            refine ⟨⟨19, rfl, h1⟩, op_val (by go_simp; try rfl) ⟨_, rfl, Below.refl _ _, rfl⟩⟩
          · intro a uu hu hs h0 h1
            have e0 : a.tmps.getD 25 undef = .int .i64 u.f1 := h0
            rw [Array.getD_eq_getD_getElem?] at e0
            refine ⟨⟨19, rfl, h1⟩, op_val (by go_simp; try rfl) ⟨_, rfl, below_alloc (Below.refl _ _) _, uu.heap.size, rfl, ?_⟩⟩
            exact SC_one (Kd.int .i64) (c := [.int .i64 u.f1]) (t := 3) (blk_new _ _) (by decide) (fun W _ => rfl) rfl
          · intro a uu hu hs h0 h1 h2 h3
            have e0 : a.tmps.getD 20 undef = .agg #[.slice A0 x.so.length c0, .slice A1 x.fi.length c1, .slice A2 x.pr.length c2, .slice A3 x.fa.length c3] := h0
            obtain ⟨g, e26, k26⟩ : ∃ g, a.tmps.getD 26 undef = .slice (some ⟨g, 0, none⟩) 1 1 ∧ SC (Kd.int .i64) (some ⟨g, 0, none⟩) [u.f1] uu := h1
            rw [Array.getD_eq_getD_getElem?] at e0 e26
            refine ⟨⟨19, rfl, by first | exact h2 | exact h3⟩, op_callE (by go_simp; try rfl) ((indices_walk x [u.f1] (some ⟨g, 0, none⟩) 1 uu _ (HX.out.below (below_step HB0.out (below_step HB.out hu))) k26.now).mono ?_)⟩
            rintro e w' ⟨b, rfl, hp, hb⟩
            exact ⟨_, rfl, _, rfl, hb, b, rfl, fun h => hp h u.f1 List.mem_cons_self⟩
          · intro a uu hu hs h0 h1
            repeat intro _
            have e0 : a.tmps.getD 19 undef = .bool true := h0
            obtain ⟨b, e27, hp⟩ : ∃ b, a.tmps.getD 27 undef = .bool b ∧ (b = true → 0 ≤ u.f1 ∧ u.f1 < (x.so.length : Int)) := h1
            rw [Array.getD_eq_getD_getElem?] at e0 e27
            have HP := Aside0.mk hp
            clear hp
            refine ⟨trivial, op_val (by go_simp; try rfl) ⟨_, rfl, Below.refl _ _, b, rfl, HP.out⟩⟩
          · intro a uu hu hs h0
            repeat intro _
            obtain ⟨b, e28, hp⟩ : ∃ b, a.tmps.getD 28 undef = .bool b ∧ (b = true → 0 ≤ u.f1 ∧ u.f1 < (x.so.length : Int)) := h0
            rw [Array.getD_eq_getD_getElem?] at e28
            have HP := Aside0.mk hp
            clear hp
            refine ⟨trivial, op_val (by go_simp; try rfl) ⟨_, rfl, Below.refl _ _, b, rfl, HP.out⟩⟩
        · intro w4 hw4 v0 h0 v1 h1 v2 h2 v3 h3 v4 h4 v5 h5 v6 h6 v7 h7 v8 h8 v9 h9 v10 h10 v11 h11 v12 h12 v13 h13 v14 h14 v15 h15 v16 h16
          obtain ⟨b, rfl, hp⟩ : ∃ b, v16 = .bool b ∧ (b = true → 0 ≤ u.f1 ∧ u.f1 < (x.so.length : Int)) := h16
          have HP := Aside0.mk hp
          clear h0 h1 h2 h3 h4 h5 h6 h7 h8 h9 h10 h11 h12 h13 h14 h15 hp
          have HB4 := Aside0.mk (below_step HB.out hw4)
          clear hw4
          refine endQ_nil ?_
          simp only [Act.put, List.setIfInBounds_toArray, List.set_cons_zero, List.set_cons_succ, List.drop_succ_cons, List.drop_zero]
          cases b
          · go_wp2_with fail
            go_ret
            exact ⟨false, rfl, fun h => (by cases h), below_step HB0.out HB4.out⟩
          · have HN := Aside0.mk (HS.out ⟨HNM.out, HP.out rfl⟩)
            clear HS HP
            go_wp2_with fail
            go_roundw
            case rel => exact ⟨k + 1, by omega, by go_num, HN, HB4⟩
            case measure => simp [intOf]; omega
    · have HN : Aside0 (∀ p ∈ l, nameB p.f0 = true ∧ 0 ≤ p.f1 ∧ p.f1 < (x.so.length : Int)) := ⟨all_mem (P := fun p : S47 => nameB p.f0 = true ∧ 0 ≤ p.f1 ∧ p.f1 < (x.so.length : Int)) (z := z47) fun i hi => HE.out i (by omega)⟩
      go_wp2_with fail
      go_ret
      exact ⟨true, rfl, fun _ => HN.out, below_step HB0.out HB.out⟩
set_option maxHeartbeats 2000000 in
set_option maxRecDepth 100000 in
theorem rform_walk (x : S24) (hok : numOK x) (w : World) (cs : List Value) (hx : k24.K w x cs) : Calls Tryd.prog 44 #[.agg cs.toArray] w (SaysB w (isForm x)) := by
  obtain ⟨A, c, rfl, hlc, hA⟩ := k24_open hx
  have HX := Aside0.mk hx
  have HOK := Aside0.mk hok
  have hu24 := Tryd.underlying24
  obtain ⟨w1, HW1⟩ : ∃ w1, Aside0 (w1 = (w.alloc (.cells #[.int .i64 x.f0, .string x.f1, .int .i64 x.f2, .slice A x.f3.length c, .int .i64 x.f4] 24))) := ⟨_, ⟨rfl⟩⟩
  have HBX : Aside0 (w1.heap[w.heap.size]? = some (.cells #[.int .i64 x.f0, .string x.f1, .int .i64 x.f2, .slice A x.f3.length c, .int .i64 x.f4] 24 (0, 0))) := ⟨by rw [HW1.out]; exact blk_new w _⟩
  have HB0 : Aside0 (Below w.heap.size w w1) := ⟨by rw [HW1.out]; exact below_alloc (Below.refl _ _) _⟩
  have HF : Aside0 (isForm x = (validB x && kindC x.f0 == 102)) := ⟨rfl⟩
  clear hx hok hA hlc
  obtain ⟨q, HQ⟩ : ∃ q, Aside0 (validB x = q) := ⟨_, ⟨rfl⟩⟩
  obtain ⟨kd, HKD⟩ : ∃ kd, Aside0 (kindC x.f0 = kd) := ⟨_, ⟨rfl⟩⟩
  go_enter Tryd.func44, Tryd.ntmps44
  go_wp2_with fail
  rw [← HW1.out]
  clear HW1
  refine (valid_walk x HOK.out w1 _ (k24.K_below HB0.out HX.out)).mono ?_
  rintro e w2 ⟨rfl, hb2⟩
  rw [HQ.out]
  have z0 := blk_cell (blk_below HBX.out hb2) 0
  have HB2 := Aside0.mk (below_step HB0.out hb2)
  clear hb2
  cases q
  · go_wp2_with fail
    go_ret
    exact ⟨by rw [HF.out, HQ.out]; rfl, HB2.out⟩
  · go_wp2_with fail
    refine (kind_walk x.f0 w2).mono ?_
    rintro e w3 ⟨rfl, rfl⟩
    rw [HKD.out]
    go_wp2_with fail
    go_ret
    exact ⟨by rw [HF.out, HQ.out, HKD.out]; rfl, HB2.out⟩
end Go.Proofs.YtgdiodhaihmnbaaDoor.Own
namespace Go.Proofs.YtgdiodhaihmnbaaDoor.Own
open Go.RowKit Go.Proofs.YtgdiodhaihmnbaaDoorW.PrintWords Go.Proofs.YtgdiodhaihmnbaaDoorW.PrintLast Go.Proofs.YtgdiodhaihmnbaaDoorW.PrintMore Go.Proofs.YtgdiodhaihmnbaaDoor.PPrinterMatchesReference
set_option maxHeartbeats 2000000 in
set_option maxRecDepth 100000 in
theorem rcount_walk (n : Nat) : ∀ (x : S24) (left : Int) (w : World) (cs : List Value), SizeOf.sizeOf x < n → 0 ≤ left → left ≤ 1000000 → k24.K w x cs → Calls Tryd.prog 22 #[.agg cs.toArray, .int .i64 left] w (SaysI w (cntN x left)) := by
  induction n with
  | zero => intro x left w cs h; omega
  | succ n ih =>
    intro x left w cs hn hl0 hl1 hx
    obtain ⟨A, c, rfl, hlc, hA⟩ := k24_open hx
    have HA := Aside0.mk hA
    have hlen := row_len hA
    have hu24 := Tryd.underlying24
    have IH : Aside0 (∀ y ∈ x.f3, ∀ (left : Int) (w : World) (cs : List Value), 0 ≤ left → left ≤ 1000000 → k24.K w y cs → Calls Tryd.prog 22 #[.agg cs.toArray, .int .i64 left] w (SaysI w (cntN y left))) :=
      ⟨fun y hy left w cs h0 h1 h2 => ih y left w cs (by have := size_kid hy; omega) h0 h1 h2⟩
    rw [cntN_def]
    clear hA hx hlc hn ih
    go_enter Tryd.func22, Tryd.ntmps22
    go_wp2_with ((with_reducible refine gate_dst (N := 2) rfl ?_); refine box_event rfl (N := 2) rfl (cs := #[.int .i64 x.f0, .string x.f1, .int .i64 x.f2, .slice A x.f3.length c, .int .i64 x.f4]) (t := 24) (by first | (go_simp; done) | (go_simp; rfl)) ?_; intro g hg w1 hbk hb1; have HG := Aside0.mk hg; have HB1 := Aside0.mk hb1; have HBK := Aside0.mk hbk; clear hg hb1 hbk)
    go_loopw [5, 6] (fun s i wr => ∃ (k : Nat) (sum : Int), k ≤ x.f3.length ∧ i = .int .i64 k ∧ s = .int .i64 sum ∧ 1 ≤ sum ∧ sum ≤ left + 1 ∧ Aside0 (cntL (x.f3.drop k) left sum = cntL x.f3 left 1) ∧ Aside0 (Below w1.heap.size w1 wr)) (fun _ i _ => x.f3.length - (intOf i).toNat)
    case atStart => exact ⟨0, 1, by omega, rfl, rfl, by omega, by omega, ⟨rfl⟩, ⟨Below.refl _ _⟩⟩
    case round =>
      obtain ⟨k, sum, hk, rfl, rfl, hs1, hs2, HE, HB⟩ := hrel
      have hbk := blk_below HBK.out HB.out
      have z3 := blk_cell hbk 3
      by_cases hlt : k < x.f3.length
      · by_cases hsl : sum ≤ left
        · obtain ⟨ad, A3, c3, e1, g0, g1, g2, g3, g4, gl, gi⟩ := at_T24 (Kd.C_below HA.out (below_step HB1.out HB.out)) k (by omega) (by omega)
          cases e1
          simp only [Int.toNat_natCast] at g0 g1 g2 g3 g4
          have KX : Aside0 (k24.K wr (rd_T24 x.f3 k) [.int .i64 (rd_T24 x.f3 k).f0, .string (rd_T24 x.f3 k).f1, .int .i64 (rd_T24 x.f3 k).f2, .slice A3 (rd_T24 x.f3 k).f3.length c3, .int .i64 (rd_T24 x.f3 k).f4]) := ⟨k24_mk wr _ gl gi⟩
          have HM : Aside0 (rd_T24 x.f3 k ∈ x.f3) := ⟨List.mem_of_mem_drop (by rw [drop_rd x.f3 k hlt]; exact List.mem_cons_self)⟩
          have HST : Aside0 (cntL (x.f3.drop (k + 1)) left (sum + cntN (rd_T24 x.f3 k) (left - sum)) = cntL x.f3 left 1) := ⟨by rw [← HE.out, drop_rd x.f3 k hlt, cntL, if_pos hsl]⟩
          have hr := cntN_range (rd_T24 x.f3 k) (left - sum) (by omega)
          have hb : decide (sum ≤ left) = true := decide_eq_true hsl
          clear gl gi hbk
          obtain ⟨r, HR⟩ : ∃ r, Aside0 (cntN (rd_T24 x.f3 k) (left - sum) = r) := ⟨_, ⟨rfl⟩⟩
          rw [HR.out] at hr
          go_wp2_with fail
          refine (IH.out _ HM.out (left - sum) wr _ (by omega) (by omega) KX.out).mono ?_
          rintro e w2 ⟨rfl, hb2⟩
          rw [HR.out]
          have HB2 := Aside0.mk (below_step HB.out hb2)
          clear hb2 g0 g1 g2 g3 g4 z3
          go_wp2_with fail
          go_roundw
          case rel => exact ⟨k + 1, sum + r, by omega, by go_num, by go_num, by omega, by omega, ⟨by have := HST.out; rw [HR.out] at this; exact this⟩, HB2⟩
          case measure => simp [intOf]; omega
        · have HF : Aside0 (cntL x.f3 left 1 = sum) := ⟨by rw [← HE.out, drop_rd x.f3 k hlt, cntL, if_neg hsl]⟩
          have hb : decide (sum ≤ left) = false := decide_eq_false hsl
          go_wp2_with fail
          go_ret
          exact ⟨by rw [HF.out]; rfl, below_step HB1.out HB.out⟩
      · have HF : Aside0 (cntL x.f3 left 1 = sum) := ⟨by rw [← HE.out, List.drop_of_length_le (by omega), cntL]⟩
        go_wp2_with fail
        go_ret
        exact ⟨by rw [HF.out]; rfl, below_step HB1.out HB.out⟩
def smallB (x : S24) : Bool := decide (cntN x 400 ≤ 400)
set_option maxHeartbeats 2000000 in
set_option maxRecDepth 100000 in
theorem small_walk (x : S24) (w : World) (cs : List Value) (hx : k24.K w x cs) : Calls Tryd.prog 6 #[.agg cs.toArray] w (SaysB w (smallB x)) := by
  obtain ⟨A, c, rfl, hlc, hA⟩ := k24_open hx
  have HX := Aside0.mk hx
  have hu24 := Tryd.underlying24
  have hr := cntN_range x 400 (by omega)
  obtain ⟨r, HR⟩ : ∃ r, Aside0 (cntN x 400 = r) := ⟨_, ⟨rfl⟩⟩
  unfold smallB
  rw [HR.out] at hr ⊢
  clear hx hA hlc
  go_enter Tryd.func6, Tryd.ntmps6
  go_wp2_with fail
  refine (rcount_walk _ x 400 _ _ (Nat.lt_succ_self _) (by omega) (by omega) (k24.K_below (below_alloc (Below.refl _ _) _) HX.out)).mono ?_
  rintro e w2 ⟨rfl, hb2⟩
  rw [HR.out]
  have HB2 := Aside0.mk (below_step (below_alloc (Below.refl _ _) _) hb2)
  clear hb2
  go_wp2_with fail
  go_ret
  exact ⟨rfl, HB2.out⟩
set_option maxHeartbeats 4000000 in
set_option maxRecDepth 100000 in
theorem reqN_walk (n : Nat) : ∀ (x y : S24) (w : World) (cx cy : List Value), SizeOf.sizeOf x < n → k24.K w x cx → k24.K w y cy → Calls Tryd.prog 9 #[.agg cx.toArray, .agg cy.toArray] w (SaysB w (eqN x y)) := by
  induction n with
  | zero => intro x y w cx cy h; omega
  | succ n ih =>
    intro x y w cx cy hn hx hy
    obtain ⟨A, c, rfl, hlc, hA⟩ := k24_open hx
    obtain ⟨B, d, rfl, hld, hB⟩ := k24_open hy
    have HA := Aside0.mk hA
    have HB := Aside0.mk hB
    have hlx := row_len hA
    have hly := row_len hB
    have hu24 := Tryd.underlying24
    have IH : Aside0 (∀ x' ∈ x.f3, ∀ (y : S24) (w : World) (cx cy : List Value), k24.K w x' cx → k24.K w y cy → Calls Tryd.prog 9 #[.agg cx.toArray, .agg cy.toArray] w (SaysB w (eqN x' y))) :=
      ⟨fun x' hm y w cx cy h1 h2 => ih x' y w cx cy (by have := size_kid hm; omega) h1 h2⟩
    clear hA hB hx hy hlc hld hn ih
    obtain ⟨r, HR⟩ : ∃ r, Aside0 (eqN x y = r) := ⟨_, ⟨rfl⟩⟩
    have HD := HR.out
    rw [eqN_def] at HD
    rw [HR.out]
    clear HR
    by_cases h0 : x.f0 = y.f0
    · have h0b : (x.f0 == y.f0) = true := by simp [h0]
      have h0c : (x.f0 != y.f0) = false := by simp [h0]
      rw [h0b, Bool.true_and] at HD
      clear h0 h0b
      by_cases h1 : x.f1.toList = y.f1.toList
      · have h1b : (x.f1.toList == y.f1.toList) = true := by simp [h1]
        have h1c : (x.f1.toList != y.f1.toList) = false := by simp [h1]
        rw [h1b, Bool.true_and] at HD
        clear h1
        by_cases h2 : x.f2 = y.f2
        · have h2b : (x.f2 == y.f2) = true := by simp [h2]
          have h2c : (x.f2 != y.f2) = false := by simp [h2]
          rw [h2b, Bool.true_and] at HD
          clear h2 h2b
          by_cases hl : x.f3.length = y.f3.length
          · have hlb : ((x.f3.length : Int) != (y.f3.length : Int)) = false := by simp [hl]
            have HL := Aside0.mk hl
            have HD := Aside0.mk HD
            clear hl
            go_enter Tryd.func9, Tryd.ntmps9
            go_wp2_with fail
            have hbx := blk_alloc (blk_new w (.cells #[.int .i64 x.f0, .string x.f1, .int .i64 x.f2, .slice A x.f3.length c, .int .i64 x.f4] 24)) (.cells #[.int .i64 y.f0, .string y.f1, .int .i64 y.f2, .slice B y.f3.length d, .int .i64 y.f4] 24)
            have hby := blk_two w (.cells #[.int .i64 x.f0, .string x.f1, .int .i64 x.f2, .slice A x.f3.length c, .int .i64 x.f4] 24) (.cells #[.int .i64 y.f0, .string y.f1, .int .i64 y.f2, .slice B y.f3.length d, .int .i64 y.f4] 24)
            have HBX := Aside0.mk hbx
            have HBY := Aside0.mk hby
            have HB0 : Aside0 (Below w.heap.size w ((w.alloc (.cells #[.int .i64 x.f0, .string x.f1, .int .i64 x.f2, .slice A x.f3.length c, .int .i64 x.f4] 24)).alloc (.cells #[.int .i64 y.f0, .string y.f1, .int .i64 y.f2, .slice B y.f3.length d, .int .i64 y.f4] 24))) := ⟨below_alloc (below_alloc (Below.refl _ _) _) _⟩
            clear hbx hby
            obtain ⟨w1, HW1⟩ : ∃ w1, w1 = ((w.alloc (.cells #[.int .i64 x.f0, .string x.f1, .int .i64 x.f2, .slice A x.f3.length c, .int .i64 x.f4] 24)).alloc (.cells #[.int .i64 y.f0, .string y.f1, .int .i64 y.f2, .slice B y.f3.length d, .int .i64 y.f4] 24)) := ⟨_, rfl⟩
            rw [← HW1] at HBX HBY HB0 ⊢
            clear HW1
            go_loopw [5] (fun i wr => ∃ k : Nat, k ≤ x.f3.length ∧ i = .int .i64 k ∧ Aside0 (eqL (x.f3.drop k) (y.f3.drop k) = r) ∧ Aside0 (Below w1.heap.size w1 wr)) (fun i _ => x.f3.length - (intOf i).toNat)
            case atStart => exact ⟨0, Nat.zero_le _, rfl, ⟨HD.out⟩, ⟨Below.refl _ _⟩⟩
            case round =>
              obtain ⟨k, hk, rfl, HE, HBW⟩ := hrel
              have HBX1 := Aside0.mk (blk_below HBX.out HBW.out)
              have HBY1 := Aside0.mk (blk_below HBY.out HBW.out)
              have z3 := blk_cell HBX1.out 3
              by_cases hlt : k < x.f3.length
              · obtain ⟨ad, A3, c3, e1, g0, g1, g2, g3, g4, gl, gi⟩ := at_T24 (Kd.C_below HA.out (below_step HB0.out HBW.out)) k (by omega) (by omega)
                obtain ⟨bd, B3, d3, e2, f0, f1, f2, f3, f4, fl, fi⟩ := at_T24 (Kd.C_below HB.out (below_step HB0.out HBW.out)) k (by omega) (by have := HL.out; omega)
                cases e1
                cases e2
                simp only [Int.toNat_natCast] at g0 g1 g2 g3 g4 f0 f1 f2 f3 f4
                have KX : Aside0 (k24.K wr (rd_T24 x.f3 k) [.int .i64 (rd_T24 x.f3 k).f0, .string (rd_T24 x.f3 k).f1, .int .i64 (rd_T24 x.f3 k).f2, .slice A3 (rd_T24 x.f3 k).f3.length c3, .int .i64 (rd_T24 x.f3 k).f4]) := ⟨k24_mk wr _ gl gi⟩
                have KY : Aside0 (k24.K wr (rd_T24 y.f3 k) [.int .i64 (rd_T24 y.f3 k).f0, .string (rd_T24 y.f3 k).f1, .int .i64 (rd_T24 y.f3 k).f2, .slice B3 (rd_T24 y.f3 k).f3.length d3, .int .i64 (rd_T24 y.f3 k).f4]) := ⟨k24_mk wr _ fl fi⟩
                have HM : Aside0 (rd_T24 x.f3 k ∈ x.f3) := ⟨List.mem_of_mem_drop (by rw [drop_rd x.f3 k hlt]; exact List.mem_cons_self)⟩
                have HST : Aside0 ((eqN (rd_T24 x.f3 k) (rd_T24 y.f3 k) && eqL (x.f3.drop (k + 1)) (y.f3.drop (k + 1))) = r) := ⟨by rw [← HE.out, drop_rd x.f3 k hlt, drop_rd y.f3 k (by have := HL.out; omega), eqL]⟩
                obtain ⟨q, HQ⟩ : ∃ q, Aside0 (eqN (rd_T24 x.f3 k) (rd_T24 y.f3 k) = q) := ⟨_, ⟨rfl⟩⟩
                obtain ⟨cx, hcx⟩ : ∃ cx, Aside0 (cx = ([.int .i64 (rd_T24 x.f3 k).f0, .string (rd_T24 x.f3 k).f1, .int .i64 (rd_T24 x.f3 k).f2, .slice A3 (rd_T24 x.f3 k).f3.length c3, .int .i64 (rd_T24 x.f3 k).f4] : List Value)) := ⟨_, ⟨rfl⟩⟩
                have zy := blk_cell HBY1.out 3
                have hlt2 : (k : Int) < (y.f3.length : Int) := by have := HL.out; omega
                clear gl gi fl fi
                go_wp2_with fail
                obtain ⟨C, hCe⟩ : ∃ C : World → Prop, C = fun W => Below wr.heap.size wr W := ⟨_, rfl⟩
                have HC := Aside0.mk hCe
                have q1 : ∀ W, C W → W.cell? ⟨w.heap.size, 3, none⟩ = some (.slice (some ad) x.f3.length c) := fun W hW => by rw [HC.out] at hW; exact pw_cell_below hW z3
                have q2 : ∀ W, C W → W.cell? ⟨w.heap.size + 1, 3, none⟩ = some (.slice (some bd) y.f3.length d) := fun W hW => by rw [HC.out] at hW; exact pw_cell_below hW zy
                refine wp_quiet_tail C 10 (by kernel_rfl) (by kernel_rfl) (by rw [HC.out]; exact below_drew1 (Below.refl _ _)) ?_
                simp only [List.take_succ_cons, List.take_zero, List.drop_succ_cons, List.drop_zero]
                iterate 10
                  refine q_ex rfl ?_
                  apply Exists.intro
                  refine ⟨fun W hW => ?_, ?_⟩
                  · have p1 := q1 W hW
                    have p2 := q2 W hW
                    have p3 : Below wr.heap.size wr W := by rw [HC.out] at hW; exact hW
                    have P3 := Aside0.mk p3
                    replace g0 := pw_cell_below p3 g0
                    replace g1 := pw_cell_below p3 g1
                    replace g2 := pw_cell_below p3 g2
                    replace g3 := pw_cell_below p3 g3
                    replace g4 := pw_cell_below p3 g4
                    replace f0 := pw_cell_below p3 f0
                    replace f1 := pw_cell_below p3 f1
                    replace f2 := pw_cell_below p3 f2
                    replace f3 := pw_cell_below p3 f3
                    replace f4 := pw_cell_below p3 f4
                    clear p3
                    go_simp
                    try rfl
                  simp only [Act.put, List.setIfInBounds_toArray, List.set_cons_zero, List.set_cons_succ]
                intro W hW
                rw [HC.out] at hW
                have HWB := Aside0.mk hW
                clear hW q1 q2 g0 g1 g2 g3 g4 f0 f1 f2 f3 f4 z3 zy hcx HC
                go_wp2_with fail
                refine (IH.out _ HM.out _ W _ _ (k24.K_below HWB.out KX.out) (k24.K_below HWB.out KY.out)).mono ?_
                rintro e w2 ⟨rfl, hb2⟩
                rw [HQ.out]
                have HB2 := Aside0.mk (below_step HBW.out (below_step HWB.out hb2))
                clear hb2
                cases q
                · have HF : Aside0 (r = false) := ⟨by rw [← HST.out, HQ.out]; rfl⟩
                  go_wp2_with fail
                  go_ret
                  exact ⟨by rw [HF.out]; rfl, below_step HB0.out HB2.out⟩
                · have HN : Aside0 (eqL (x.f3.drop (k + 1)) (y.f3.drop (k + 1)) = r) := ⟨by rw [← HST.out, HQ.out]; rfl⟩
                  go_wp2_with fail
                  go_roundw
                  case rel => exact ⟨k + 1, by omega, by go_num, HN, HB2⟩
                  case measure => simp [intOf]; omega
              · have HF : Aside0 (r = true) := ⟨by
                  have := HL.out
                  rw [← HE.out, List.drop_of_length_le (by omega), List.drop_of_length_le (by omega), eqL]⟩
                go_wp2_with fail
                go_ret
                exact ⟨by rw [HF.out]; rfl, below_step HB0.out HBW.out⟩
          · have hlb : ((x.f3.length : Int) != (y.f3.length : Int)) = true := by simp [hl]; omega
            have HD := Aside0.mk HD
            have HF : Aside0 (r = false) := ⟨by rw [← HD.out, eqL_len _ _ hl]⟩
            clear HD hl
            go_enter Tryd.func9, Tryd.ntmps9
            go_wp2_with fail
            go_ret
            exact ⟨by rw [HF.out]; rfl, by repeat (first | exact Below.refl _ _ | apply below_alloc)⟩
        · have h2b : (x.f2 == y.f2) = false := by simp [h2]
          have h2c : (x.f2 != y.f2) = true := by simp [h2]
          rw [h2b, Bool.false_and] at HD
          clear h2
          subst HD
          go_enter Tryd.func9, Tryd.ntmps9
          go_wp2_with fail
          go_ret
          exact ⟨rfl, by repeat (first | exact Below.refl _ _ | apply below_alloc)⟩
      · have h1b : (x.f1.toList == y.f1.toList) = false := by simp [h1]
        have h1c : (x.f1.toList != y.f1.toList) = true := by simp [h1]
        rw [h1b, Bool.false_and] at HD
        clear h1
        subst HD
        go_enter Tryd.func9, Tryd.ntmps9
        go_wp2_with fail
        go_ret
        exact ⟨rfl, by repeat (first | exact Below.refl _ _ | apply below_alloc)⟩
    · have h0b : (x.f0 == y.f0) = false := by simp [h0]
      have h0c : (x.f0 != y.f0) = true := by simp [h0]
      rw [h0b, Bool.false_and] at HD
      clear h0
      subst HD
      go_enter Tryd.func9, Tryd.ntmps9
      go_wp2_with fail
      go_ret
      exact ⟨rfl, by repeat (first | exact Below.refl _ _ | apply below_alloc)⟩
end Go.Proofs.YtgdiodhaihmnbaaDoor.Own
namespace Go.Proofs.YtgdiodhaihmnbaaDoor.Own
open Go.RowKit Go.Proofs.YtgdiodhaihmnbaaDoorW.PrintWords Go.Proofs.YtgdiodhaihmnbaaDoorW.PrintLast Go.Proofs.YtgdiodhaihmnbaaDoorW.PrintMore Go.Proofs.YtgdiodhaihmnbaaDoor.PPrinterMatchesReference
set_option maxHeartbeats 8000000 in
set_option maxRecDepth 100000 in
theorem modest_walk (x : SpD) (w : World) (cx : List Value) (hx : SpK w x cx) : Calls Tryd.prog 7 #[.agg cx.toArray] w (Gives w (∀ p ∈ x.pr, p.f1.length ≤ 20)) := by
  obtain ⟨A0, A1, A2, A3, c0, c1, c2, c3, rfl, x0, x1, x2, x3⟩ := hx
  have l0 := row_len x0
  have l1 := row_len x1
  have l2 := row_len x2
  have l3 := row_len x3
  have X1 := Aside0.mk x1
  have X2 := Aside0.mk x2
  have X3 := Aside0.mk x3
  have hu30 := Tryd.underlying30
  have hu45 := Tryd.underlying45
  have hu50 := Tryd.underlying50
  have hu52 := Tryd.underlying52
  have hu24 := Tryd.underlying24
  clear x0 x1 x2 x3
  obtain ⟨w1, HW1⟩ : ∃ w1, Aside0 (w1 = (w.alloc (.cells #[.slice A0 x.so.length c0, .slice A1 x.fi.length c1, .slice A2 x.pr.length c2, .slice A3 x.fa.length c3] 30))) := ⟨_, ⟨rfl⟩⟩
  have HBX : Aside0 (w1.heap[w.heap.size]? = some (.cells #[.slice A0 x.so.length c0, .slice A1 x.fi.length c1, .slice A2 x.pr.length c2, .slice A3 x.fa.length c3] 30 (0, 0))) := ⟨by rw [HW1.out]; exact blk_new w _⟩
  have HB0 : Aside0 (Below w.heap.size w w1) := ⟨by rw [HW1.out]; exact below_alloc (Below.refl _ _) _⟩
  by_cases h0 : 20 < x.so.length
  · go_enter Tryd.func7, Tryd.ntmps7
    go_wp2_with fail
    rw [← HW1.out]
    go_ret
    exact ⟨false, rfl, fun h => (by cases h), HB0.out⟩
  by_cases h1 : 20 < x.fi.length
  · go_enter Tryd.func7, Tryd.ntmps7
    go_wp2_with fail
    rw [← HW1.out]
    go_ret
    exact ⟨false, rfl, fun h => (by cases h), HB0.out⟩
  by_cases h2 : 20 < x.pr.length
  · go_enter Tryd.func7, Tryd.ntmps7
    go_wp2_with fail
    rw [← HW1.out]
    go_ret
    exact ⟨false, rfl, fun h => (by cases h), HB0.out⟩
  by_cases h3 : 20 < x.fa.length
  · go_enter Tryd.func7, Tryd.ntmps7
    go_wp2_with fail
    rw [← HW1.out]
    go_ret
    exact ⟨false, rfl, fun h => (by cases h), HB0.out⟩
  go_enter Tryd.func7, Tryd.ntmps7
  go_wp2_with fail
  rw [← HW1.out]
  clear HW1 h0 h1 h2 h3
  go_loopw [3] (fun i wr => ∃ k : Nat, k ≤ x.fi.length ∧ i = .int .i64 k ∧ Aside0 (Below w1.heap.size w1 wr)) (fun i _ => x.fi.length - (intOf i).toNat)
  case atStart => exact ⟨0, Nat.zero_le _, rfl, ⟨Below.refl _ _⟩⟩
  case round =>
    obtain ⟨k, hk, rfl, HB⟩ := hrel
    have z1 := blk_cell (blk_below HBX.out HB.out) 1
    by_cases hlt : k < x.fi.length
    · obtain ⟨ad, A4, c4, e1, g0, g1, g2, gl, gi⟩ := at_T45 (Kd.C_below X1.out (below_step HB0.out HB.out)) k (by omega) (by omega)
      cases e1
      simp only [Int.toNat_natCast, rd_T45] at g0 g1 g2
      clear gl gi
      generalize x.fi.getD k z45 = u at *
      by_cases hu : 20 < u.f1.length
      · go_wp2_with fail
        go_ret
        exact ⟨false, rfl, fun h => (by cases h), below_step HB0.out HB.out⟩
      · go_wp2_with fail
        go_roundw
        case rel => exact ⟨k + 1, by omega, by go_num, HB⟩
        case measure => simp [intOf]; omega
    have HB1 := HB
    clear HB
    go_wp2_with fail
    clear z1
    go_loopw [4] (fun i wr => ∃ k : Nat, k ≤ x.pr.length ∧ i = .int .i64 k ∧ Aside0 (∀ j, j < k → (x.pr.getD j z50).f1.length ≤ 20) ∧ Aside0 (Below w1.heap.size w1 wr)) (fun i _ => x.pr.length - (intOf i).toNat)
    case atStart => exact ⟨0, Nat.zero_le _, rfl, ⟨fun j hj => absurd hj (Nat.not_lt_zero j)⟩, HB1⟩
    case round =>
      obtain ⟨k, hk, rfl, HE, HB⟩ := hrel
      have z2 := blk_cell (blk_below HBX.out HB.out) 2
      by_cases hlt : k < x.pr.length
      · obtain ⟨ad, A4, c4, A5, c5, e1, g0, g1, g2, g3, g4, g5, g6, gl, gi, gm, gj⟩ := at_T50 (Kd.C_below X2.out (below_step HB0.out HB.out)) k (by omega) (by omega)
        cases e1
        simp only [Int.toNat_natCast, rd_T50] at g0 g1 g2 g3 g4 g5 g6 gm gj
        have HS : Aside0 ((x.pr.getD k z50).f1.length ≤ 20 → ∀ j, j < k + 1 → (x.pr.getD j z50).f1.length ≤ 20) := ⟨fun h => all_step (P := fun s : S50 => s.f1.length ≤ 20) HE.out h⟩
        have KX := Aside0.mk (k24_mk wr (x.pr.getD k z50).f2 gm gj)
        clear gl gi gm gj
        generalize x.pr.getD k z50 = u at *
        go_wp2_with fail
        refine (small_walk u.f2 wr _ KX.out).mono ?_
        rintro e w2 ⟨rfl, hb2⟩
        have HB2 := Aside0.mk (below_step HB.out hb2)
        replace z2 := pw_cell_below hb2 z2
        replace g0 := pw_cell_below hb2 g0
        replace g1 := pw_cell_below hb2 g1
        clear hb2 g2 g3 g4 g5 g6
        cases smallB u.f2
        · go_wp2_with fail
          go_ret
          exact ⟨false, rfl, fun h => (by cases h), below_step HB0.out HB2.out⟩
        · by_cases hu : 20 < u.f1.length
          · go_wp2_with fail
            go_ret
            exact ⟨false, rfl, fun h => (by cases h), below_step HB0.out HB2.out⟩
          · have HN := Aside0.mk (HS.out (by omega))
            go_wp2_with fail
            go_roundw
            case rel => exact ⟨k + 1, by omega, by go_num, HN, HB2⟩
            case measure => simp [intOf]; omega
      have HN : Aside0 (∀ p ∈ x.pr, p.f1.length ≤ 20) := ⟨all_mem (P := fun p : S50 => p.f1.length ≤ 20) (z := z50) fun i hi => HE.out i (by omega)⟩
      have HB3 := HB
      clear HB HE
      go_wp2_with fail
      clear z2
      go_loopw [6] (fun i wr => ∃ k : Nat, k ≤ x.fa.length ∧ i = .int .i64 k ∧ Aside0 (Below w1.heap.size w1 wr)) (fun i _ => x.fa.length - (intOf i).toNat)
      case atStart => exact ⟨0, Nat.zero_le _, rfl, HB3⟩
      case round =>
        obtain ⟨k, hk, rfl, HB⟩ := hrel
        have z3 := blk_cell (blk_below HBX.out HB.out) 3
        by_cases hlt : k < x.fa.length
        · obtain ⟨ad, A5, c5, e1, g0, g1, g2, g3, g4, g5, gm, gj⟩ := at_T52 (Kd.C_below X3.out (below_step HB0.out HB.out)) k (by omega) (by omega)
          cases e1
          simp only [Int.toNat_natCast, rd_T52] at g0 g1 g2 g3 g4 g5 gm gj
          have KX := Aside0.mk (k24_mk wr (x.fa.getD k z52).f1 gm gj)
          clear gm gj
          generalize x.fa.getD k z52 = u at *
          go_wp2_with fail
          refine (small_walk u.f1 wr _ KX.out).mono ?_
          rintro e w2 ⟨rfl, hb2⟩
          have HB2 := Aside0.mk (below_step HB.out hb2)
          clear hb2 g0 g1 g2 g3 g4 g5 z3
          cases smallB u.f1
          · go_wp2_with fail
            go_ret
            exact ⟨false, rfl, fun h => (by cases h), below_step HB0.out HB2.out⟩
          · go_wp2_with fail
            go_roundw
            case rel => exact ⟨k + 1, by omega, by go_num, HB2⟩
            case measure => simp [intOf]; omega
        go_wp2_with fail
        go_ret
        exact ⟨true, rfl, fun _ => HN.out, below_step HB0.out HB.out⟩
end Go.Proofs.YtgdiodhaihmnbaaDoor.Own
namespace Go.Proofs.YtgdiodhaihmnbaaDoor.Own
open Go.RowKit Go.Proofs.YtgdiodhaihmnbaaDoorW.PrintWords Go.Proofs.YtgdiodhaihmnbaaDoorW.PrintLast Go.Proofs.YtgdiodhaihmnbaaDoorW.PrintMore Go.Proofs.YtgdiodhaihmnbaaDoor.PPrinterMatchesReference
section
variable {P : Program} {ops : Array Oper} {C : World → Prop} {Q : Act → Prop} {a : Act} {o : Oper} {rest : List Oper}
/-- An operation that its guard lets in. -/
theorem q_on (hw : Region.wanted o (yielded ops a.tmps) = true) (h : ∃ v, (∀ w, C w → (execOp a.eval o).run P w = .ok (.value v) w) ∧ wpQuiet P ops C Q rest (a.put o.dst v)) : wpQuiet P ops C Q (o :: rest) a :=
  wpQuiet_step fun K hK => by
    obtain ⟨v, hrun, h⟩ := h
    simp only [hw, if_true]
    exact ⟨v, fun w hw => by unfold Oper.quietAt; rw [hrun w hw]; exact ⟨rfl, rfl⟩, hK _ h⟩
end
/-- All numbers of a specification are machine numbers. -/
structure SpN (x : SpD) : Prop where
  so : ∀ s ∈ x.so, s.f0.size ≤ 9223372036854775807
  fi : ∀ f ∈ x.fi, f.f0.size ≤ 9223372036854775807 ∧ ∀ i ∈ f.f1, -9223372036854775808 ≤ i ∧ i ≤ 9223372036854775807
  pr : ∀ p ∈ x.pr, p.f0.size ≤ 9223372036854775807 ∧ numOK p.f2 ∧ ∀ i ∈ p.f1, i.f0.size ≤ 9223372036854775807 ∧ -9223372036854775808 ≤ i.f1 ∧ i.f1 ≤ 9223372036854775807
  fa : ∀ f ∈ x.fa, f.f0.size ≤ 9223372036854775807 ∧ numOK f.f1
def fldP (n : Int) (f : S45) : Prop := nameB f.f0 = true ∧ (∀ i ∈ f.f1, 0 ≤ i ∧ i < n) ∧ f.f1.length ≤ 3
def prdP (n : Int) (p : S50) : Prop := nameB p.f0 = true ∧ isForm p.f2 = true ∧ ∀ i ∈ p.f1, nameB i.f0 = true ∧ 0 ≤ i.f1 ∧ i.f1 < n
def fctP (f : S52) : Prop := nameB f.f0 = true ∧ isForm f.f1 = true
/-- What a printable specification is. -/
structure PrOK (x : SpD) : Prop where
  n0 : x.so.length ≤ 4
  n1 : x.fi.length ≤ 6
  n2 : x.pr.length ≤ 8
  n3 : x.fa.length ≤ 16
  so : ∀ s ∈ x.so, nameB s.f0 = true
  fi : ∀ f ∈ x.fi, fldP x.so.length f
  pr : ∀ p ∈ x.pr, prdP x.so.length p
  fa : ∀ f ∈ x.fa, fctP f
set_option maxHeartbeats 8000000 in
set_option maxRecDepth 100000 in
theorem printable_walk (x : SpD) (hn : SpN x) (w : World) (cx : List Value) (hx : SpK w x cx) : Calls Tryd.prog 15 #[.agg cx.toArray] w (Gives w (PrOK x)) := by
  have HX := Aside0.mk hx
  have HN := Aside0.mk hn
  obtain ⟨A0, A1, A2, A3, c0, c1, c2, c3, rfl, x0, x1, x2, x3⟩ := hx
  have l0 := row_len x0
  have l1 := row_len x1
  have l2 := row_len x2
  have l3 := row_len x3
  have X1 := Aside0.mk x1
  have X2 := Aside0.mk x2
  have X3 := Aside0.mk x3
  have hu30 := Tryd.underlying30
  have hu45 := Tryd.underlying45
  have hu50 := Tryd.underlying50
  have hu52 := Tryd.underlying52
  have hu24 := Tryd.underlying24
  clear x0 x1 x2 x3 hn
  obtain ⟨w1, HW1⟩ : ∃ w1, Aside0 (w1 = (w.alloc (.cells #[.slice A0 x.so.length c0, .slice A1 x.fi.length c1, .slice A2 x.pr.length c2, .slice A3 x.fa.length c3] 30))) := ⟨_, ⟨rfl⟩⟩
  have HBX : Aside0 (w1.heap[w.heap.size]? = some (.cells #[.slice A0 x.so.length c0, .slice A1 x.fi.length c1, .slice A2 x.pr.length c2, .slice A3 x.fa.length c3] 30 (0, 0))) := ⟨by rw [HW1.out]; exact blk_new w _⟩
  have HB0 : Aside0 (Below w.heap.size w w1) := ⟨by rw [HW1.out]; exact below_alloc (Below.refl _ _) _⟩
  by_cases h0 : 4 < x.so.length
  · go_enter Tryd.func15, Tryd.ntmps15
    go_wp2_with fail
    rw [← HW1.out]
    go_ret
    exact ⟨false, rfl, fun h => (by cases h), HB0.out⟩
  by_cases h1 : 6 < x.fi.length
  · go_enter Tryd.func15, Tryd.ntmps15
    go_wp2_with fail
    rw [← HW1.out]
    go_ret
    exact ⟨false, rfl, fun h => (by cases h), HB0.out⟩
  by_cases h2 : 8 < x.pr.length
  · go_enter Tryd.func15, Tryd.ntmps15
    go_wp2_with fail
    rw [← HW1.out]
    go_ret
    exact ⟨false, rfl, fun h => (by cases h), HB0.out⟩
  by_cases h3 : 16 < x.fa.length
  · go_enter Tryd.func15, Tryd.ntmps15
    go_wp2_with fail
    rw [← HW1.out]
    go_ret
    exact ⟨false, rfl, fun h => (by cases h), HB0.out⟩
  have HL : Aside0 (x.so.length ≤ 4 ∧ x.fi.length ≤ 6 ∧ x.pr.length ≤ 8 ∧ x.fa.length ≤ 16) := ⟨by omega⟩
  go_enter Tryd.func15, Tryd.ntmps15
  go_wp2_with fail
  rw [← HW1.out]
  clear HW1 h0 h1 h2 h3
  refine (named_walk x w1 _ (HX.out.below HB0.out) HN.out.so).mono ?_
  rintro e w2 ⟨b, rfl, hp, hb2⟩
  have HP := Aside0.mk hp
  have HB2 := Aside0.mk hb2
  clear hp hb2
  cases b
  · go_wp2_with fail
    go_ret
    exact ⟨false, rfl, fun h => (by cases h), below_step HB0.out HB2.out⟩
  have HSO := Aside0.mk (HP.out rfl)
  clear HP
  go_wp2_with fail
  go_loopw [3] (fun i wr => ∃ k : Nat, k ≤ x.fi.length ∧ i = .int .i64 k ∧ Aside0 (∀ j, j < k → fldP x.so.length (x.fi.getD j z45)) ∧ Aside0 (Below w1.heap.size w1 wr)) (fun i _ => x.fi.length - (intOf i).toNat)
  case atStart => exact ⟨0, Nat.zero_le _, rfl, ⟨fun j hj => absurd hj (Nat.not_lt_zero j)⟩, HB2⟩
  case round =>
    obtain ⟨k, hk, rfl, HE, HB⟩ := hrel
    have z0 := blk_cell (blk_below HBX.out HB.out) 0
    have z1 := blk_cell (blk_below HBX.out HB.out) 1
    have z2 := blk_cell (blk_below HBX.out HB.out) 2
    have z3 := blk_cell (blk_below HBX.out HB.out) 3
    by_cases hlt : k < x.fi.length
    · obtain ⟨ad, A4, c4, e1, g0, g1, g2, gl, gi⟩ := at_T45 (Kd.C_below X1.out (below_step HB0.out HB.out)) k (by omega) (by omega)
      cases e1
      simp only [Int.toNat_natCast, rd_T45] at g0 g1 g2 gl gi
      have HNF := Aside0.mk (HN.out.fi _ (mem_get z45 x.fi k hlt))
      have HS : Aside0 (fldP x.so.length (x.fi.getD k z45) → ∀ j, j < k + 1 → fldP x.so.length (x.fi.getD j z45)) := ⟨fun h => all_step (P := fldP x.so.length) HE.out h⟩
      have GI := Aside0.mk gi
      clear gl gi
      generalize x.fi.getD k z45 = u at *
      go_wp2_with fail
      obtain ⟨wb, HWB⟩ : ∃ wb, Aside0 (wb = wr.alloc (.cells #[.string u.f0, .slice A4 u.f1.length c4, .bool u.f2] 45)) := ⟨_, ⟨rfl⟩⟩
      have HBF : Aside0 (wb.heap[wr.heap.size]? = some (.cells #[.string u.f0, .slice A4 u.f1.length c4, .bool u.f2] 45 (0, 0))) := ⟨by rw [HWB.out]; exact blk_new wr _⟩
      have HBB : Aside0 (Below wr.heap.size wr wb) := ⟨by rw [HWB.out]; exact below_alloc (Below.refl _ _) _⟩
      rw [← HWB.out]
      clear HWB g0 g1 g2 z0 z1 z2 z3
      obtain ⟨nm, HNM⟩ : ∃ nm, Aside0 (nameB u.f0 = nm) := ⟨_, ⟨rfl⟩⟩
      refine (name_walk u.f0 wb HNF.out.1).mono ?_
      rintro e w3 ⟨rfl, hb3⟩
      rw [HNM.out]
      have HB3 := Aside0.mk (below_step HBB.out hb3)
      have q1 := blk_cell (blk_below HBF.out hb3) 1
      have HQ := Aside0.mk (blk_below HBF.out hb3)
      clear hb3
      have z0 := blk_cell (blk_below HBX.out (below_step HB.out HB3.out)) 0
      have z1 := blk_cell (blk_below HBX.out (below_step HB.out HB3.out)) 1
      have z2 := blk_cell (blk_below HBX.out (below_step HB.out HB3.out)) 2
      have z3 := blk_cell (blk_below HBX.out (below_step HB.out HB3.out)) 3
      cases nm
      · go_wp2_with fail
        go_ret
        exact ⟨false, rfl, fun h => (by cases h), below_step HB0.out (below_step HB.out HB3.out)⟩
      go_wp2_with fail
      refine (indices_walk x u.f1 A4 c4 w3 _ (HX.out.below (below_step HB0.out (below_step HB.out HB3.out))) (Kd.C_below GI.out HB3.out)).mono ?_
      rintro e w4 ⟨b, rfl, hp, hb4⟩
      have HPI := Aside0.mk hp
      have HB4 := Aside0.mk (below_step HB3.out hb4)
      replace q1 := pw_cell_below hb4 q1
      clear hp hb4 z0 z1 z2 z3
      cases b
      · go_wp2_with fail
        go_ret
        exact ⟨false, rfl, fun h => (by cases h), below_step HB0.out (below_step HB.out HB4.out)⟩
      by_cases hl1 : u.f1.length < 1
      · go_wp2_with fail
        go_ret
        exact ⟨false, rfl, fun h => (by cases h), below_step HB0.out (below_step HB.out HB4.out)⟩
      by_cases hl3 : 3 < u.f1.length
      · go_wp2_with fail
        go_ret
        exact ⟨false, rfl, fun h => (by cases h), below_step HB0.out (below_step HB.out HB4.out)⟩
      have HNX := Aside0.mk (HS.out ⟨HNM.out, HPI.out rfl, by omega⟩)
      go_wp2_with fail
      go_roundw
      case rel => exact ⟨k + 1, by omega, by go_num, HNX, ⟨below_step HB.out HB4.out⟩⟩
      case measure => simp [intOf]; omega
    have HFI : Aside0 (∀ f ∈ x.fi, fldP x.so.length f) := ⟨all_mem (P := fldP x.so.length) (z := z45) fun i hi => HE.out i (by omega)⟩
    have HBa := HB
    clear HB HE
    go_wp2_with fail
    clear z0 z1 z2 z3
    go_loopw [6] (fun i wr => ∃ k : Nat, k ≤ x.pr.length ∧ i = .int .i64 k ∧ Aside0 (∀ j, j < k → prdP x.so.length (x.pr.getD j z50)) ∧ Aside0 (Below w1.heap.size w1 wr)) (fun i _ => x.pr.length - (intOf i).toNat)
    case atStart => exact ⟨0, Nat.zero_le _, rfl, ⟨fun j hj => absurd hj (Nat.not_lt_zero j)⟩, HBa⟩
    case round =>
      obtain ⟨k, hk, rfl, HE, HB⟩ := hrel
      have z0 := blk_cell (blk_below HBX.out HB.out) 0
      have z1 := blk_cell (blk_below HBX.out HB.out) 1
      have z2 := blk_cell (blk_below HBX.out HB.out) 2
      have z3 := blk_cell (blk_below HBX.out HB.out) 3
      by_cases hlt : k < x.pr.length
      · obtain ⟨ad, A4, c4, A5, c5, e1, g0, g1, g2, g3, g4, g5, g6, gl, gi, gm, gj⟩ := at_T50 (Kd.C_below X2.out (below_step HB0.out HB.out)) k (by omega) (by omega)
        cases e1
        simp only [Int.toNat_natCast, rd_T50] at g0 g1 g2 g3 g4 g5 g6 gl gi gm gj
        have HNF := Aside0.mk (HN.out.pr _ (mem_get z50 x.pr k hlt))
        have HS : Aside0 (prdP x.so.length (x.pr.getD k z50) → ∀ j, j < k + 1 → prdP x.so.length (x.pr.getD j z50)) := ⟨fun h => all_step (P := prdP x.so.length) HE.out h⟩
        have KX := Aside0.mk (k24_mk wr (x.pr.getD k z50).f2 gm gj)
        have GI := Aside0.mk gi
        clear gl gi gm gj
        generalize x.pr.getD k z50 = u at *
        have hlt2 : (k : Int) < (x.pr.length : Int) := by omega
        go_wp2_with fail
        obtain ⟨nm, HNM⟩ : ∃ nm, Aside0 (nameB u.f0 = nm) := ⟨_, ⟨rfl⟩⟩
        refine (name_walk u.f0 wr HNF.out.1).mono ?_
        rintro e w3 ⟨rfl, hb3⟩
        rw [HNM.out]
        have HB3 := Aside0.mk hb3
        replace z0 := pw_cell_below hb3 z0
        replace z1 := pw_cell_below hb3 z1
        replace z2 := pw_cell_below hb3 z2
        replace z3 := pw_cell_below hb3 z3
        replace g0 := pw_cell_below hb3 g0
        replace g1 := pw_cell_below hb3 g1
        replace g2 := pw_cell_below hb3 g2
        replace g3 := pw_cell_below hb3 g3
        replace g4 := pw_cell_below hb3 g4
        replace g5 := pw_cell_below hb3 g5
        replace g6 := pw_cell_below hb3 g6
        clear hb3
        cases nm
        · go_wp2_with fail
          go_quiet (fail)
          go_wp2_with fail
          go_ret
          exact ⟨false, rfl, fun h => (by cases h), below_step HB0.out (below_step HB.out (pw_below_drewN HB3.out _))⟩
        go_wp2_with fail
        obtain ⟨fm, HFM⟩ : ∃ nm, Aside0 (isForm u.f2 = nm) := ⟨_, ⟨rfl⟩⟩
        refine (rform_walk u.f2 HNF.out.2.1 w3 _ (k24.K_below HB3.out KX.out)).mono ?_
        rintro e w4 ⟨rfl, hb4⟩
        rw [HFM.out]
        have HB4 := Aside0.mk (below_step HB3.out hb4)
        replace z0 := pw_cell_below hb4 z0
        replace z1 := pw_cell_below hb4 z1
        replace z2 := pw_cell_below hb4 z2
        replace z3 := pw_cell_below hb4 z3
        replace g0 := pw_cell_below hb4 g0
        replace g1 := pw_cell_below hb4 g1
        clear hb4 g2 g3 g4 g5 g6
        cases fm
        · go_wp2_with fail
          go_quiet (fail)
          go_wp2_with fail
          go_ret
          exact ⟨false, rfl, fun h => (by cases h), below_step HB0.out (below_step HB.out (pw_below_drewN HB4.out _))⟩
        go_wp2_with fail
        obtain ⟨C, hCe⟩ : ∃ C : World → Prop, C = fun W => Below w4.heap.size w4 W := ⟨_, rfl⟩
        have HC := Aside0.mk hCe
        clear hCe
        refine wp_quiet_tail C 10 (by kernel_rfl) (by kernel_rfl) (by rw [HC.out]; exact below_drew1 (Below.refl _ _)) ?_
        simp only [List.take_succ_cons, List.take_zero, List.drop_succ_cons, List.drop_zero]
        iterate 3
          refine q_ex rfl ?_
          apply Exists.intro
          refine ⟨fun W hW => ?_, ?_⟩
          · go_simp
            try rfl
          simp only [Act.put, List.setIfInBounds_toArray, List.set_cons_zero, List.set_cons_succ]
        iterate 7
          refine q_on (by rfl) ?_
          apply Exists.intro
          refine ⟨fun W hW => ?_, ?_⟩
          · have p3 : Below w4.heap.size w4 W := by rw [HC.out] at hW; exact hW
            replace z0 := pw_cell_below p3 z0
            replace z1 := pw_cell_below p3 z1
            replace z2 := pw_cell_below p3 z2
            replace z3 := pw_cell_below p3 z3
            replace g1 := pw_cell_below p3 g1
            clear p3
            go_simp
            try rfl
          simp only [Act.put, List.setIfInBounds_toArray, List.set_cons_zero, List.set_cons_succ]
        intro W hW
        rw [HC.out] at hW
        have HW := Aside0.mk hW
        clear hW HC z0 z1 z2 z3 g0 g1
        go_wp2_with fail
        refine (typed_walk x u.f1 A4 c4 W _ (HX.out.below (below_step HB0.out (below_step HB.out (below_step HB4.out HW.out)))) (Kd.C_below GI.out (below_step HB4.out HW.out)) (fun s hs => (HNF.out.2.2 s hs).1)).mono ?_
        rintro e w5 ⟨b, rfl, hp, hb5⟩
        have HPI := Aside0.mk hp
        have HB5 := Aside0.mk (below_step HB4.out (below_step HW.out hb5))
        clear hp hb5
        cases b
        · go_wp2_with fail
          go_ret
          exact ⟨false, rfl, fun h => (by cases h), below_step HB0.out (below_step HB.out HB5.out)⟩
        have HNX := Aside0.mk (HS.out ⟨HNM.out, HFM.out, HPI.out rfl⟩)
        go_wp2_with fail
        go_roundw
        case rel => exact ⟨k + 1, by omega, by go_num, HNX, ⟨below_step HB.out HB5.out⟩⟩
        case measure => simp [intOf]; omega
      have HPR : Aside0 (∀ p ∈ x.pr, prdP x.so.length p) := ⟨all_mem (P := prdP x.so.length) (z := z50) fun i hi => HE.out i (by omega)⟩
      have HBb := HB
      clear HB HE
      go_wp2_with fail
      clear z0 z1 z2 z3
      go_loopw [8] (fun i wr => ∃ k : Nat, k ≤ x.fa.length ∧ i = .int .i64 k ∧ Aside0 (∀ j, j < k → fctP (x.fa.getD j z52)) ∧ Aside0 (Below w1.heap.size w1 wr)) (fun i _ => x.fa.length - (intOf i).toNat)
      case atStart => exact ⟨0, Nat.zero_le _, rfl, ⟨fun j hj => absurd hj (Nat.not_lt_zero j)⟩, HBb⟩
      case round =>
        obtain ⟨k, hk, rfl, HE, HB⟩ := hrel
        have z3 := blk_cell (blk_below HBX.out HB.out) 3
        by_cases hlt : k < x.fa.length
        · obtain ⟨ad, A5, c5, e1, g0, g1, g2, g3, g4, g5, gm, gj⟩ := at_T52 (Kd.C_below X3.out (below_step HB0.out HB.out)) k (by omega) (by omega)
          cases e1
          simp only [Int.toNat_natCast, rd_T52] at g0 g1 g2 g3 g4 g5 gm gj
          have HNF := Aside0.mk (HN.out.fa _ (mem_get z52 x.fa k hlt))
          have HS : Aside0 (fctP (x.fa.getD k z52) → ∀ j, j < k + 1 → fctP (x.fa.getD j z52)) := ⟨fun h => all_step (P := fctP) HE.out h⟩
          have KX := Aside0.mk (k24_mk wr (x.fa.getD k z52).f1 gm gj)
          clear gm gj
          generalize x.fa.getD k z52 = u at *
          have hlt2 : (k : Int) < (x.fa.length : Int) := by omega
          go_wp2_with fail
          obtain ⟨nm, HNM⟩ : ∃ nm, Aside0 (nameB u.f0 = nm) := ⟨_, ⟨rfl⟩⟩
          refine (name_walk u.f0 wr HNF.out.1).mono ?_
          rintro e w3 ⟨rfl, hb3⟩
          rw [HNM.out]
          have HB3 := Aside0.mk hb3
          replace z3 := pw_cell_below hb3 z3
          replace g1 := pw_cell_below hb3 g1
          replace g2 := pw_cell_below hb3 g2
          replace g3 := pw_cell_below hb3 g3
          replace g4 := pw_cell_below hb3 g4
          replace g5 := pw_cell_below hb3 g5
          clear hb3 g0
          cases nm
          · go_wp2_with fail
            go_ret
            exact ⟨false, rfl, fun h => (by cases h), below_step HB0.out (below_step HB.out HB3.out)⟩
          go_wp2_with fail
          obtain ⟨fm, HFM⟩ : ∃ nm, Aside0 (isForm u.f1 = nm) := ⟨_, ⟨rfl⟩⟩
          refine (rform_walk u.f1 HNF.out.2 w3 _ (k24.K_below HB3.out KX.out)).mono ?_
          rintro e w4 ⟨rfl, hb4⟩
          rw [HFM.out]
          have HB4 := Aside0.mk (below_step HB3.out hb4)
          clear hb4 g1 g2 g3 g4 g5 z3
          cases fm
          · go_wp2_with fail
            go_ret
            exact ⟨false, rfl, fun h => (by cases h), below_step HB0.out (below_step HB.out HB4.out)⟩
          have HNX := Aside0.mk (HS.out ⟨HNM.out, HFM.out⟩)
          go_wp2_with fail
          go_roundw
          case rel => exact ⟨k + 1, by omega, by go_num, HNX, ⟨below_step HB.out HB4.out⟩⟩
          case measure => simp [intOf]; omega
        have HFA : Aside0 (∀ p ∈ x.fa, fctP p) := ⟨all_mem (P := fctP) (z := z52) fun i hi => HE.out i (by omega)⟩
        go_wp2_with fail
        go_ret
        exact ⟨true, rfl, fun _ => ⟨HL.out.1, HL.out.2.1, HL.out.2.2.1, HL.out.2.2.2, HSO.out, HFI.out, HPR.out, HFA.out⟩, below_step HB0.out HB.out⟩
end Go.Proofs.YtgdiodhaihmnbaaDoor.Own
