/- THE STATEMENT PrinterInjectiveCardSaid: two valid formulas are equal exactly if their texts are. Conditions: those of the given row (the three tables of the library as the program's text lays them; what is read is finite). -/
import Derived.Test.YtgdiodhaihmnbaaDoorInj4
import Derived.Test.YtgdiodhaihmnbaaDoorCards
import Derived.Test.YtgdiodhaihmnbaaDoorTie
import Derived.WalkKit
import Derived.ProofKit
import Derived.OpenShut
import Derived.Deep.DeepHandedRow
import Derived.Lib.LaidTab
import Derived.Stop.LaidErr
namespace Go.Proofs.YtgdiodhaihmnbaaDoor.Own
open Go.ChangeShapes Go.WideShapes Go.ChangeAt Go.RowKit Go.Proofs.YtgdiodhaihmnbaaDoor.PPrinterMatchesReference

theorem ownKnobs : ownKnob Tryd.prog.godebug = none := by kernel_rfl
theorem laidOuts : laidOutB Tryd.prog = true := by kernel_rfl
theorem recs24 : Tryd.prog.readableRec 24 = true := by kernel_rfl

/-- What the row's list gives: the table of powers. -/
theorem tab_of_laid {W : World} (h : laidMetH Tryd.prog Rows.printerInjectiveRow.laid W) : Tab W := by
  have h1 : laidMet Tryd.prog Rows.printerInjectiveRow.laid W := h
  exact Lib.tabIs_of_head (rest := []) (g := 0) (t := 120) (by kernel_rfl) (by kernel_rfl) Tryd.underlying120 (by kernel_rfl) (by kernel_rfl) (by kernel_rfl) h1.tail.tail

set_option maxRecDepth 100000 in
theorem inj_contract (H : Type) (enc : TypeId × Value → H) (W : World) (base : Nat) (args : Array Value) (ds gs : List (DataW H)) (before : List MemPlace)
    (hval : ∀ (j : Nat) t v, Tryd.f4.params[j]? = some t → args[j]? = some v → Value.okWide Tryd.prog W .any base t v)
    (hW : DataW.Whole enc Tryd.prog Tryd.f4.params.toList Rows.printerInjectiveSpec.vars false W args.toList ds gs before) (hL : laidMetH Tryd.prog Rows.printerInjectiveRow.laid W) :
    Calls Tryd.prog 4 args W fun e W' => ∃ v, e = .returned v ∧ Rows.printerInjectiveSpec.post enc Tryd.prog Tryd.f4 false true false false W args v W' := by
  have hW' := hW
  obtain ⟨p, q, hA0, hV, rfl, hfz, hnd⟩ := hW
  have hA : DataW.TrodAll enc Tryd.prog W 0 (fun _ => true) true Tryd.f4.params.toList args.toList ds p := hA0
  rw [Tryd.params4] at hA hval
  obtain ⟨v0, vs0, d0, ds0, p0, q0, hargs, rfl, rfl, h0, r0⟩ := trodAll_cons hA
  obtain ⟨v1, vs1, d1, ds1, p1, q1, rfl, rfl, rfl, h1, r1⟩ := trodAll_cons r0
  obtain ⟨rfl, rfl, rfl⟩ := trodAll_nil r1
  obtain rfl : args = #[v0, v1] := by cases args; simp_all
  obtain ⟨rfl, rfl⟩ := trodVars_none hV
  obtain ⟨c0, rfl, _⟩ := okWide_struct Tryd.underlying24 (hval 0 24 v0 rfl rfl)
  obtain ⟨c1, rfl, _⟩ := okWide_struct Tryd.underlying24 (hval 1 24 v1 rfl rfl)
  have lt0 : ∀ x ∈ p0, x.block < W.heap.size := by obtain ⟨m, hm⟩ := h0; exact DataW.trod_lt m _ _ _ hm
  have lt1 : ∀ x ∈ p1, x.block < W.heap.size := by obtain ⟨m, hm⟩ := h1; exact DataW.trod_lt m _ _ _ hm
  obtain ⟨x, kx, nx⟩ : ∃ y : S24, k24.K W y c0.toList ∧ numOK y := by obtain ⟨m, hm⟩ := h0; exact read24 m _ _ hm
  obtain ⟨y, ky, ny⟩ : ∃ y : S24, k24.K W y c1.toList ∧ numOK y := by obtain ⟨m, hm⟩ := h1; exact read24 m _ _ hm
  have walk := inj_walk x y nx ny W c0.toList c1.toList kx ky (tab_of_laid hL) (inj_ok x y)
  clear hA0
  refine walk.mono fun e W' ⟨he, bel⟩ => ?_
  subst he
  exact ⟨_, rfl, _, _, _, [], _, [], hW', trodAll_mk1 (shut_bool Tryd.underlying4 _), trodAll_cons_mk (Below.trod laidOuts recs24 (of_decide_eq_true (by kernel_rfl)) h0 bel lt0) (trodAll_cons_mk (Below.trod laidOuts recs24 (of_decide_eq_true (by kernel_rfl)) h1 bel lt1) trodAll_mk0), rfl, bel.frame _, fun h => by cases h⟩

/-- Numbers as the cells of a table. -/
def cellsOfNums (k : IntKind) (l : List Int) : Array Value := (l.map fun z => Value.int k z).toArray
def layCells (c : Array Value) : Obj → Obj
  | .cells _ t frozen => .cells c t frozen
  | o => o
def tab32 : List Int := [0, 1, 28, 2, 29, 14, 24, 3, 30, 22, 20, 15, 25, 17, 4, 8, 31, 27, 13, 23, 21, 19, 16, 7, 26, 12, 18, 6, 11, 5, 10, 9]
def tab64 : List Int := [0, 1, 56, 2, 57, 49, 28, 3, 61, 58, 42, 50, 38, 29, 17, 4, 62, 47, 59, 36, 45, 43, 51, 22, 53, 39, 33, 30, 24, 18, 12, 5, 63, 55, 48, 27, 60, 41, 37, 16, 46, 35, 44, 21, 52, 32, 23, 11, 54, 26, 40, 15, 34, 20, 31, 10, 25, 14, 19, 9, 13, 8, 7, 6]
/-- A world for the witness: the settled one, the three tables laid. -/
noncomputable def laidWorld (os : Os) : World :=
  { World.holding Tryd.prog os ⟨#[], #[], []⟩ with heap := (((World.holding Tryd.prog os ⟨#[], #[], []⟩).heap.modify 0 (layCells (cellsOfNums .u64 Lib.pow10Tab))).modify 1 (layCells (cellsOfNums .u8 tab32))).modify 2 (layCells (cellsOfNums .u8 tab64)) }
def zeroN : Value := .agg #[.int .i64 0, .string ByteArray.empty, .int .i64 0, .slice none 0 0, .int .i64 0]
theorem laid_met (os : Os) : laidMet Tryd.prog Rows.printerInjectiveRow.laid ((laidWorld os).forCall (fun _ _ => 0) ⟨#[], #[zeroN, zeroN], []⟩).memory :=
  laidMet_of_run' 8 (by kernel_rfl) (by kernel_rfl)
def zeroD {H : Type} : DataW H := .agg [.lit (.int .i64 0), .lit (.string []), .lit (.int .i64 0), .nil, .lit (.int .i64 0)]
theorem inj_reads (os : Os) {H : Type} (enc : TypeId × Value → H) : ∃ x, DataW.whole enc Tryd.prog ((laidWorld os).forCall (fun _ _ => 0) ⟨#[], #[zeroN, zeroN], []⟩).memory Tryd.f4.params.toList Rows.printerInjectiveSpec.vars false #[zeroN, zeroN].toList 8 = some x :=
  ⟨([zeroD, zeroD], [], []), by kernel_rfl⟩

set_option maxRecDepth 100000 in
theorem inj_lifted (os : Os) (started : os.Started) (H : Type) (enc : TypeId × Value → H) (F : Stop.Interp) :
    ReturnsInHanded {} Tryd.checked os 4 .any ((OpenSpec.ofChange Rows.printerInjectiveSpec).preRow enc Tryd.prog Tryd.f4 Rows.printerInjectiveRow.domain false Rows.printerInjectiveRow.laid) (((OpenSpec.ofChange Rows.printerInjectiveSpec).at F).post enc Tryd.prog Tryd.f4 false true false false) := by
  obtain ⟨x, hx⟩ := inj_reads os enc
  refine returnsInHanded_of_row (C := Tryd.checked) (s := OpenSpec.ofChange Rows.printerInjectiveSpec) ownKnobs started (by kernel_rfl) Tryd.func4
    (witness_row_at (enc := enc) (C := Tryd.checked) false (laidWorld os) #[zeroN, zeroN] rfl (by kernel_rfl) (by kernel_rfl) (by kernel_rfl)
      (OpenSpec.preRow_of_cond 8 hx (by kernel_rfl) (fun k hk => by cases hk) (by kernel_rfl) (laid_met os))) ?_
  intro W base args ds gs before hval hW _ _ _ hL _ _
  exact inj_contract H enc W base args ds gs before hval hW hL

theorem inj_said : Rows.PrinterInjectiveSaid :=
  OpenClaim.holds_of_cond 4 Tryd.f4 rfl rfl rfl rfl rfl rfl rfl ⟨rfl, rfl, rfl, rfl, rfl⟩ rfl rfl rfl rfl rfl (by kernel_rfl) Tryd.func4 (by kernel_rfl)
    (of_decide_eq_true (by kernel_rfl)) (by unfold Func.isWrapper; first | (rw [if_pos (by decide +kernel)]; kernel_rfl) | (rw [if_neg (by decide +kernel)]; exact ⟨rfl, rfl⟩))
    (fun os started H enc _ F => by rw [OpenClaim.pre_eq_preRow]; exact inj_lifted os started H enc F)

/-- No parameter wants a stand-in; the program's own looks are off: what the card asks. -/
theorem inj_plain (f : FuncId) (fn : Func) (hf : Tryd.pinned.checked.prog.funcNamed "armature/armaturelaw03.PrinterInjective" = some f) (hfn : Tryd.pinned.checked.prog.funcs[f]? = some fn) :
    false = Tryd.pinned.checked.prog.looks [] ∧ ∀ (j : Nat) t, fn.params[j]? = some t → Tryd.pinned.checked.prog.wantsStandIn t = false := by
  obtain rfl : f = 4 := Option.some.inj ((show Tryd.prog.funcNamed "armature/armaturelaw03.PrinterInjective" = some 4 by kernel_rfl).symm.trans hf) |>.symm
  obtain rfl : fn = Tryd.f4 := (Option.some.inj (Tryd.func4.symm.trans hfn)).symm
  refine ⟨by kernel_rfl, fun j t ht => ?_⟩
  rw [Tryd.params4] at ht
  obtain rfl : t = 24 := by simpa using Array.mem_of_getElem? ht
  exact (show Tryd.prog.wantsStandIn 24 = false by kernel_rfl)
end Go.Proofs.YtgdiodhaihmnbaaDoor.Own
namespace Go.Proofs.YtgdiodhaihmnbaaDoor
open Go.Proofs.YtgdiodhaihmnbaaDoor.Own
/-- THE CARD. -/
theorem printerInjective_holds : Rows.PrinterInjectiveCardSaid :=
  Claim7.holds_tied_plain_at .later [] _ _ _ _ inj_said (fun _ h => by cases h) (by kernel_rfl) (fun _ h => by cases h) printerInjective_row_tie rfl ⟨rfl, rfl⟩ (by kernel_rfl) rfl inj_plain (by kernel_rfl)
#print axioms printerInjective_holds
end Go.Proofs.YtgdiodhaihmnbaaDoor
