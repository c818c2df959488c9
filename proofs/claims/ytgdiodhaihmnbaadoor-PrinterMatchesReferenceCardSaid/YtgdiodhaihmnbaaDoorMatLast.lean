/- THE STATEMENT PrinterMatchesReferenceCardSaid: the printer's texts and equalities are those of the reference. Conditions: those of the given row (the three tables of the library as the program's text lays them; what is read is finite). -/
import Derived.Test.YtgdiodhaihmnbaaDoorMat7
import Derived.Test.YtgdiodhaihmnbaaDoorCards
import Derived.Test.YtgdiodhaihmnbaaDoorTie
import Derived.WalkKit
import Derived.ProofKit
import Derived.OpenShut
import Derived.Deep.DeepHandedRow
import Derived.Lib.LaidTab
import Derived.Stop.LaidErr
namespace Go.Proofs.YtgdiodhaihmnbaaDoor.Own
open Go.ChangeShapes Go.WideShapes Go.ChangeAt Go.RowKit Go.Proofs.YtgdiodhaihmnbaaDoor.PPrinterMatchesReference
theorem ownKnobs : ownKnob Tryd.prog.godebug = none := by kernel_rfl
theorem laidOuts : laidOutB Tryd.prog = true := by kernel_rfl
theorem recs24 : Tryd.prog.readableRec 24 = true := by kernel_rfl
theorem recs30 : Tryd.prog.readableRec 30 = true := by kernel_rfl
/-- What the row's list gives: the table of powers. -/
theorem tab_of_laid {W : World} (h : laidMetH Tryd.prog Rows.printerMatchesReferenceRow.laid W) : Tab W := by
  have h1 : laidMet Tryd.prog Rows.printerMatchesReferenceRow.laid W := h
  exact Lib.tabIs_of_head (rest := []) (g := 0) (t := 120) (by kernel_rfl) (by kernel_rfl) Tryd.underlying120 (by kernel_rfl) (by kernel_rfl) (by kernel_rfl) h1.tail.tail
set_option maxRecDepth 100000 in
theorem mat_contract (H : Type) (enc : TypeId × Value → H) (W : World) (base : Nat) (args : Array Value) (ds gs : List (DataW H)) (before : List MemPlace)
    (hval : ∀ (j : Nat) t v, Tryd.f3.params[j]? = some t → args[j]? = some v → Value.okWide Tryd.prog W .any base t v)
    (hW : DataW.Whole enc Tryd.prog Tryd.f3.params.toList Rows.printerMatchesReferenceSpec.vars false W args.toList ds gs before) (hL : laidMetH Tryd.prog Rows.printerMatchesReferenceRow.laid W) :
    Calls Tryd.prog 3 args W fun e W' => ∃ v, e = .returned v ∧ Rows.printerMatchesReferenceSpec.post enc Tryd.prog Tryd.f3 false true false false W args v W' := by
  have hW' := hW
  obtain ⟨p, q, hA0, hV, rfl, hfz, hnd⟩ := hW
  have hA : DataW.TrodAll enc Tryd.prog W 0 (fun _ => true) true Tryd.f3.params.toList args.toList ds p := hA0
  rw [Tryd.params3] at hA hval
  obtain ⟨v0, vs0, d0, ds0, p0, q0, hargs, rfl, rfl, h0, r0⟩ := trodAll_cons hA
  obtain ⟨v1, vs1, d1, ds1, p1, q1, rfl, rfl, rfl, h1, r1⟩ := trodAll_cons r0
  obtain ⟨v2, vs2, d2, ds2, p2, q2, rfl, rfl, rfl, h2, r2⟩ := trodAll_cons r1
  obtain ⟨v3, vs3, d3, ds3, p3, q3, rfl, rfl, rfl, h3, r3⟩ := trodAll_cons r2
  obtain ⟨rfl, rfl, rfl⟩ := trodAll_nil r3
  obtain rfl : args = #[v0, v1, v2, v3] := by cases args; simp_all
  obtain ⟨rfl, rfl⟩ := trodVars_none hV
  obtain ⟨c0, rfl, _⟩ := okWide_struct Tryd.underlying24 (hval 0 24 v0 rfl rfl)
  obtain ⟨c1, rfl, _⟩ := okWide_struct Tryd.underlying24 (hval 1 24 v1 rfl rfl)
  obtain ⟨c2, rfl, _⟩ := okWide_struct Tryd.underlying30 (hval 2 30 v2 rfl rfl)
  obtain ⟨c3, rfl, _⟩ := okWide_struct Tryd.underlying30 (hval 3 30 v3 rfl rfl)
  have lt0 : ∀ x ∈ p0, x.block < W.heap.size := by obtain ⟨m, hm⟩ := h0; exact DataW.trod_lt m _ _ _ hm
  have lt1 : ∀ x ∈ p1, x.block < W.heap.size := by obtain ⟨m, hm⟩ := h1; exact DataW.trod_lt m _ _ _ hm
  have lt2 : ∀ x ∈ p2, x.block < W.heap.size := by obtain ⟨m, hm⟩ := h2; exact DataW.trod_lt m _ _ _ hm
  have lt3 : ∀ x ∈ p3, x.block < W.heap.size := by obtain ⟨m, hm⟩ := h3; exact DataW.trod_lt m _ _ _ hm
  obtain ⟨a, ka, na⟩ : ∃ y : S24, k24.K W y c0.toList ∧ numOK y := by obtain ⟨m, hm⟩ := h0; exact read24 m _ _ hm
  obtain ⟨b, kb, nb⟩ : ∃ y : S24, k24.K W y c1.toList ∧ numOK y := by obtain ⟨m, hm⟩ := h1; exact read24 m _ _ hm
  obtain ⟨x, kx, nx⟩ : ∃ y : SpD, SpK W y c2.toList ∧ SpN y := by obtain ⟨m, hm⟩ := h2; exact read30 m _ _ hm
  obtain ⟨y, ky, ny⟩ : ∃ y : SpD, SpK W y c3.toList ∧ SpN y := by obtain ⟨m, hm⟩ := h3; exact read30 m _ _ hm
  have walk := match_walk a b x y na nx W c0.toList c1.toList c2.toList c3.toList ka kb kx ky (tab_of_laid hL) (fun hv => ⟨txt_some (valid_frm hv), valid_short hv⟩) (sp_ok x nx)
  clear hA0
  refine walk.mono fun e W' ⟨he, bel⟩ => ?_
  subst he
  exact ⟨_, rfl, _, _, _, [], _, [], hW', trodAll_mk1 (shut_bool Tryd.underlying4 _), trodAll_cons_mk (Below.trod laidOuts recs24 (of_decide_eq_true (by kernel_rfl)) h0 bel lt0) (trodAll_cons_mk (Below.trod laidOuts recs24 (of_decide_eq_true (by kernel_rfl)) h1 bel lt1) (trodAll_cons_mk (Below.trod laidOuts recs30 (of_decide_eq_true (by kernel_rfl)) h2 bel lt2) (trodAll_cons_mk (Below.trod laidOuts recs30 (of_decide_eq_true (by kernel_rfl)) h3 bel lt3) trodAll_mk0))), rfl, bel.frame _, fun h => by cases h⟩
/-- Numbers as the cells of a table. -/
def cellsOfNums (k : IntKind) (l : List Int) : Array Value := (l.map fun z => Value.int k z).toArray
def layCells (c : Array Value) : Obj → Obj
  | .cells _ t frozen => .cells c t frozen
  | o => o
def tab32 : List Int := [0, 1, 28, 2, 29, 14, 24, 3, 30, 22, 20, 15, 25, 17, 4, 8, 31, 27, 13, 23, 21, 19, 16, 7, 26, 12, 18, 6, 11, 5, 10, 9]
def tab64 : List Int := [0, 1, 56, 2, 57, 49, 28, 3, 61, 58, 42, 50, 38, 29, 17, 4, 62, 47, 59, 36, 45, 43, 51, 22, 53, 39, 33, 30, 24, 18, 12, 5, 63, 55, 48, 27, 60, 41, 37, 16, 46, 35, 44, 21, 52, 32, 23, 11, 54, 26, 40, 15, 34, 20, 31, 10, 25, 14, 19, 9, 13, 8, 7, 6]
/-- A world for the witness: the settled one, the three tables laid. -/
noncomputable def laidWorld (os : Os) : World :=
  { World.holding Tryd.prog os ⟨#[], #[], []⟩ with heap := (((World.holding Tryd.prog os ⟨#[], #[], []⟩).heap.modify 0 (layCells (cellsOfNums .u64 Lib.pow10Tab))).modify 1 (layCells (cellsOfNums .u8 tab32))).modify 2 (layCells (cellsOfNums .u8 tab64)) }
def zeroN : Value := .agg #[.int .i64 0, .string ByteArray.empty, .int .i64 0, .slice none 0 0, .int .i64 0]
def zeroS : Value := .agg #[.slice none 0 0, .slice none 0 0, .slice none 0 0, .slice none 0 0]
theorem laid_met (os : Os) : laidMet Tryd.prog Rows.printerMatchesReferenceRow.laid ((laidWorld os).forCall (fun _ _ => 0) ⟨#[], #[zeroN, zeroN, zeroS, zeroS], []⟩).memory :=
  laidMet_of_run' 8 (by kernel_rfl) (by kernel_rfl)
def zeroD {H : Type} : DataW H := .agg [.lit (.int .i64 0), .lit (.string []), .lit (.int .i64 0), .nil, .lit (.int .i64 0)]
def zeroE {H : Type} : DataW H := .agg [.nil, .nil, .nil, .nil]
theorem mat_reads (os : Os) {H : Type} (enc : TypeId × Value → H) : ∃ x, DataW.whole enc Tryd.prog ((laidWorld os).forCall (fun _ _ => 0) ⟨#[], #[zeroN, zeroN, zeroS, zeroS], []⟩).memory Tryd.f3.params.toList Rows.printerMatchesReferenceSpec.vars false #[zeroN, zeroN, zeroS, zeroS].toList 8 = some x :=
  ⟨([zeroD, zeroD, zeroE, zeroE], [], []), by kernel_rfl⟩
set_option maxRecDepth 100000 in
theorem mat_lifted (os : Os) (started : os.Started) (H : Type) (enc : TypeId × Value → H) (F : Stop.Interp) :
    ReturnsInHanded {} Tryd.checked os 3 .any ((OpenSpec.ofChange Rows.printerMatchesReferenceSpec).preRow enc Tryd.prog Tryd.f3 Rows.printerMatchesReferenceRow.domain false Rows.printerMatchesReferenceRow.laid) (((OpenSpec.ofChange Rows.printerMatchesReferenceSpec).at F).post enc Tryd.prog Tryd.f3 false true false false) := by
  obtain ⟨x, hx⟩ := mat_reads os enc
  refine returnsInHanded_of_row (C := Tryd.checked) (s := OpenSpec.ofChange Rows.printerMatchesReferenceSpec) ownKnobs started (by kernel_rfl) Tryd.func3
    (witness_row_at (enc := enc) (C := Tryd.checked) false (laidWorld os) #[zeroN, zeroN, zeroS, zeroS] rfl (by kernel_rfl) (by kernel_rfl) (by kernel_rfl)
      (OpenSpec.preRow_of_cond 8 hx (by kernel_rfl) (fun k hk => by cases hk) (by kernel_rfl) (laid_met os))) ?_
  intro W base args ds gs before hval hW _ _ _ hL _ _
  exact mat_contract H enc W base args ds gs before hval hW hL
theorem mat_said : Rows.PrinterMatchesReferenceSaid :=
  OpenClaim.holds_of_cond 3 Tryd.f3 rfl rfl rfl rfl rfl rfl rfl ⟨rfl, rfl, rfl, rfl, rfl⟩ rfl rfl rfl rfl rfl (by kernel_rfl) Tryd.func3 (by kernel_rfl)
    (of_decide_eq_true (by kernel_rfl)) (by unfold Func.isWrapper; first | (rw [if_pos (by decide +kernel)]; kernel_rfl) | (rw [if_neg (by decide +kernel)]; exact ⟨rfl, rfl⟩))
    (fun os started H enc _ F => by rw [OpenClaim.pre_eq_preRow]; exact mat_lifted os started H enc F)
/-- No parameter wants a stand-in; the program's own looks are off: what the card asks. -/
theorem mat_plain (f : FuncId) (fn : Func) (hf : Tryd.pinned.checked.prog.funcNamed "armature/armaturelaw03.PrinterMatchesReference" = some f) (hfn : Tryd.pinned.checked.prog.funcs[f]? = some fn) :
    false = Tryd.pinned.checked.prog.looks [] ∧ ∀ (j : Nat) t, fn.params[j]? = some t → Tryd.pinned.checked.prog.wantsStandIn t = false := by
  obtain rfl : f = 3 := Option.some.inj ((show Tryd.prog.funcNamed "armature/armaturelaw03.PrinterMatchesReference" = some 3 by kernel_rfl).symm.trans hf) |>.symm
  obtain rfl : fn = Tryd.f3 := (Option.some.inj (Tryd.func3.symm.trans hfn)).symm
  refine ⟨by kernel_rfl, fun j t ht => ?_⟩
  rw [Tryd.params3] at ht
  have hm : t = 24 ∨ t = 30 := by
    have := Array.mem_of_getElem? ht
    simp at this
    omega
  rcases hm with rfl | rfl
  · exact (show Tryd.prog.wantsStandIn 24 = false by kernel_rfl)
  · exact (show Tryd.prog.wantsStandIn 30 = false by kernel_rfl)
end Go.Proofs.YtgdiodhaihmnbaaDoor.Own
namespace Go.Proofs.YtgdiodhaihmnbaaDoor
open Go.Proofs.YtgdiodhaihmnbaaDoor.Own
/-- THE CARD. -/
theorem printerMatchesReference_holds : Rows.PrinterMatchesReferenceCardSaid :=
  Claim7.holds_tied_plain_at .later [] _ _ _ _ mat_said (fun _ h => by cases h) (by kernel_rfl) (fun _ h => by cases h) printerMatchesReference_row_tie rfl ⟨rfl, rfl⟩ (by kernel_rfl) rfl mat_plain (by kernel_rfl)
#print axioms printerMatchesReference_holds
end Go.Proofs.YtgdiodhaihmnbaaDoor
