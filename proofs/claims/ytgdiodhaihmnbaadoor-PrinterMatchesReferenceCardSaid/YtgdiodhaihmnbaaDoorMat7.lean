/- Steps towards the statement: the printer's texts and equalities are the reference's, and two valid formulas are equal exactly if their texts are; walks of the program's functions and the plain law behind them. This text: part 7 of 7. No condition of its own. -/
import Derived.Test.YtgdiodhaihmnbaaDoorMat2
import Derived.Test.YtgdiodhaihmnbaaDoorMat5
import Derived.Test.YtgdiodhaihmnbaaDoorMat6
set_option linter.unusedSimpArgs false
set_option linter.unusedVariables false
namespace Go.Proofs.YtgdiodhaihmnbaaDoor.Own
open Go.ChangeShapes Go.WideShapes Go.RowKit Go.Deep Go.Proofs.YtgdiodhaihmnbaaDoorW.PrintWords Go.Proofs.YtgdiodhaihmnbaaDoorW.PrintLast Go.Proofs.YtgdiodhaihmnbaaDoorW.PrintMore Go.Proofs.YtgdiodhaihmnbaaDoor.PPrinterMatchesReference
section
variable {H : Type} {enc : TypeId × Value → H} {w : World} {base : Nat} {spare : Nat → Bool} {held : Bool}
/-- A slice whose elements are read by d. -/
theorem read_row {α : Type} (z : α) (d : Kd α) (P : α → Prop) {e t : TypeId} (ht : Tryd.prog.underlying t = some (.slice e)) (hc : Tryd.prog.cellsOf e = d.sz)
    (rd : ∀ (m : Nat) (cs : List Value) (x : DataW H × List MemPlace), DataW.trod enc Tryd.prog w base spare held m e cs = some x → ∃ y, d.K w y cs ∧ P y)
    {m : Nat} {cs : List Value} {x : DataW H × List MemPlace} (h : DataW.trod enc Tryd.prog w base spare held m t cs = some x) :
    ∃ (A : Option Addr) (cap : Nat) (xs : List α), cs = [.slice A xs.length cap] ∧ xs.length ≤ cap ∧ d.C w A xs.length xs ∧ ∀ y ∈ xs, P y := by
  rcases DataW.trod_slice ht h with ⟨q3, _⟩ | ⟨a, len, cap, elems, rest, m, rfl, q3, _, _, hlc, hcm, hel, hi, _, _⟩
  · exact ⟨none, 0, [], q3, Nat.le_refl _, ⟨rfl, Nat.zero_le _, fun h => absurd h (Nat.lt_irrefl 0)⟩, fun y hy => by cases hy⟩
  · have hk : ∀ i, i < len → ∃ y : α, (∃ c, c.length = d.sz ∧ d.K w y c ∧ ∀ k u, c[k]? = some u → w.cell? (a.add (i * d.sz + k)) = some u) ∧ P y := by
      intro i hil
      have hb := hi i hil
      rw [List.getElem?_eq_getElem (by omega)] at hb
      obtain ⟨c, hc', ht'⟩ := Option.bind_eq_some_iff.1 hb
      rw [hc] at hc'
      obtain ⟨hlc, hcc⟩ := cells_at hc'
      obtain ⟨y, hy, hn⟩ := rd m c _ ht'
      exact ⟨y, ⟨c, hlc, hy, hcc⟩, hn⟩
    haveI : Inhabited α := ⟨z⟩
    obtain ⟨f, hfy⟩ := choose_lt hk
    have hlen : ((List.range len).map f).length = len := by simp
    refine ⟨some a, cap, (List.range len).map f, by rw [hlen]; exact q3, by rw [hlen]; exact hlc, ?_, fun y hy => ?_⟩
    · refine C_of_cells rfl (by rw [hlen]; have := maxLen_le; omega) fun j y hy => ?_
      rw [List.getElem?_map, Option.map_eq_some_iff] at hy
      obtain ⟨k, hk, rfl⟩ := hy
      obtain ⟨hj, hk⟩ := List.getElem?_eq_some_iff.1 hk
      rw [List.getElem_range] at hk
      subst hk
      rw [List.length_range] at hj
      obtain ⟨c, h1, h2, h3⟩ := (hfy j hj).1
      exact ⟨c, h1, h2, h3⟩
    · obtain ⟨i, hi, rfl⟩ := List.mem_map.1 hy
      exact (hfy i (List.mem_range.1 hi)).2
theorem two {α : Type} {l : List α} (h : l.length = 2) : ∃ a b, l = [a, b] := by
  match l, h with
  | [a, b], _ => exact ⟨a, b, rfl⟩
theorem three {α : Type} {l : List α} (h : l.length = 3) : ∃ a b c, l = [a, b, c] := by
  match l, h with
  | [a, b, c], _ => exact ⟨a, b, c, rfl⟩
theorem four {α : Type} {l : List α} (h : l.length = 4) : ∃ a b c d, l = [a, b, c, d] := by
  match l, h with
  | [a, b, c, d], _ => exact ⟨a, b, c, d, rfl⟩
theorem six {α : Type} {l : List α} (h : l.length = 6) : ∃ a b c d e f, l = [a, b, c, d, e, f] := by
  match l, h with
  | [a, b, c, d, e, f], _ => exact ⟨a, b, c, d, e, f, rfl⟩
theorem seven {α : Type} {l : List α} (h : l.length = 7) : ∃ a b c d e f g, l = [a, b, c, d, e, f, g] := by
  match l, h with
  | [a, b, c, d, e, f, g], _ => exact ⟨a, b, c, d, e, f, g, rfl⟩
theorem co3 : Tryd.prog.cellsOf 3 = 1 := by kernel_rfl
theorem co4 : Tryd.prog.cellsOf 4 = 1 := by kernel_rfl
theorem co9 : Tryd.prog.cellsOf 9 = 1 := by kernel_rfl
theorem co25 : Tryd.prog.cellsOf 25 = 1 := by kernel_rfl
theorem co26 : Tryd.prog.cellsOf 26 = 1 := by kernel_rfl
theorem co27 : Tryd.prog.cellsOf 27 = 1 := by kernel_rfl
theorem co28 : Tryd.prog.cellsOf 28 = 1 := by kernel_rfl
theorem co30 : Tryd.prog.cellsOf 30 = 4 := by kernel_rfl
theorem co42 : Tryd.prog.cellsOf 42 = 2 := by kernel_rfl
theorem co43 : Tryd.prog.cellsOf 43 = 1 := by kernel_rfl
theorem co45 : Tryd.prog.cellsOf 45 = 3 := by kernel_rfl
theorem co47 : Tryd.prog.cellsOf 47 = 2 := by kernel_rfl
theorem co48 : Tryd.prog.cellsOf 48 = 1 := by kernel_rfl
theorem co50 : Tryd.prog.cellsOf 50 = 7 := by kernel_rfl
theorem co52 : Tryd.prog.cellsOf 52 = 6 := by kernel_rfl
theorem readInt (m : Nat) (cs : List Value) (x : DataW H × List MemPlace) (h : DataW.trod enc Tryd.prog w base spare held m 3 cs = some x) : ∃ y, (Kd.int .i64).K w y cs ∧ (-9223372036854775808 ≤ y ∧ y ≤ 9223372036854775807) := by
  obtain ⟨n, rfl, _, hw⟩ := DataW.trod_int Tryd.underlying3 h
  exact ⟨n, rfl, wf_range hw⟩
theorem read42 (m : Nat) (cs : List Value) (x : DataW H × List MemPlace) (h : DataW.trod enc Tryd.prog w base spare held m 42 cs = some x) : ∃ y : S42, k42.K w y cs ∧ y.f0.size ≤ 9223372036854775807 := by
  obtain ⟨xs, n, rfl, _, hl, hxl, hf⟩ := DataW.trod_struct Tryd.underlying42 h
  rw [co42] at hl
  obtain ⟨v0, v1, rfl⟩ := two hl
  obtain ⟨x0, x1, rfl⟩ := two hxl
  have h0 : DataW.trod enc Tryd.prog w base spare held n 9 [v0] = some x0 := by simpa [co9] using hf 0 _ rfl
  have h1 : DataW.trod enc Tryd.prog w base spare held n 4 [v1] = some x1 := by simpa [co4] using hf 1 _ rfl
  obtain ⟨a0, q0, _, w0⟩ := DataW.trod_string Tryd.underlying9 h0
  obtain ⟨a1, q1, _⟩ := DataW.trod_bool Tryd.underlying4 h1
  cases q0; cases q1
  exact ⟨⟨a0, a1⟩, k42_mk w ⟨a0, a1⟩, Nat.le_trans w0 maxLen_le⟩
theorem read47 (m : Nat) (cs : List Value) (x : DataW H × List MemPlace) (h : DataW.trod enc Tryd.prog w base spare held m 47 cs = some x) : ∃ y : S47, k47.K w y cs ∧ (y.f0.size ≤ 9223372036854775807 ∧ -9223372036854775808 ≤ y.f1 ∧ y.f1 ≤ 9223372036854775807) := by
  obtain ⟨xs, n, rfl, _, hl, hxl, hf⟩ := DataW.trod_struct Tryd.underlying47 h
  rw [co47] at hl
  obtain ⟨v0, v1, rfl⟩ := two hl
  obtain ⟨x0, x1, rfl⟩ := two hxl
  have h0 : DataW.trod enc Tryd.prog w base spare held n 9 [v0] = some x0 := by simpa [co9] using hf 0 _ rfl
  have h1 : DataW.trod enc Tryd.prog w base spare held n 3 [v1] = some x1 := by simpa [co3] using hf 1 _ rfl
  obtain ⟨a0, q0, _, w0⟩ := DataW.trod_string Tryd.underlying9 h0
  obtain ⟨a1, q1, _, w1⟩ := DataW.trod_int Tryd.underlying3 h1
  cases q0; cases q1
  exact ⟨⟨a0, a1⟩, k47_mk w ⟨a0, a1⟩, Nat.le_trans w0 maxLen_le, wf_range w1⟩
theorem read45 (m : Nat) (cs : List Value) (x : DataW H × List MemPlace) (h : DataW.trod enc Tryd.prog w base spare held m 45 cs = some x) : ∃ y : S45, k45.K w y cs ∧ (y.f0.size ≤ 9223372036854775807 ∧ ∀ i ∈ y.f1, -9223372036854775808 ≤ i ∧ i ≤ 9223372036854775807) := by
  obtain ⟨xs, n, rfl, _, hl, hxl, hf⟩ := DataW.trod_struct Tryd.underlying45 h
  rw [co45] at hl
  obtain ⟨v0, v1, v2, rfl⟩ := three hl
  obtain ⟨x0, x1, x2, rfl⟩ := three hxl
  have h0 : DataW.trod enc Tryd.prog w base spare held n 9 [v0] = some x0 := by simpa [co9] using hf 0 _ rfl
  have h1 : DataW.trod enc Tryd.prog w base spare held n 43 [v1] = some x1 := by simpa [co43] using hf 1 _ rfl
  have h2 : DataW.trod enc Tryd.prog w base spare held n 4 [v2] = some x2 := by simpa [co4] using hf 2 _ rfl
  obtain ⟨a0, q0, _, w0⟩ := DataW.trod_string Tryd.underlying9 h0
  obtain ⟨A, c, l, q1, hlc, hC, hP⟩ := read_row (0 : Int) (Kd.int .i64) _ Tryd.underlying43 co3 readInt h1
  obtain ⟨a2, q2, _⟩ := DataW.trod_bool Tryd.underlying4 h2
  cases q0; cases q1; cases q2
  exact ⟨⟨a0, l, a2⟩, k45_mk w ⟨a0, l, a2⟩ hlc hC, Nat.le_trans w0 maxLen_le, hP⟩
theorem read50 (m : Nat) (cs : List Value) (x : DataW H × List MemPlace) (h : DataW.trod enc Tryd.prog w base spare held m 50 cs = some x) : ∃ y : S50, k50.K w y cs ∧ (y.f0.size ≤ 9223372036854775807 ∧ numOK y.f2 ∧ ∀ i ∈ y.f1, i.f0.size ≤ 9223372036854775807 ∧ -9223372036854775808 ≤ i.f1 ∧ i.f1 ≤ 9223372036854775807) := by
  obtain ⟨xs, n, rfl, _, hl, hxl, hf⟩ := DataW.trod_struct Tryd.underlying50 h
  rw [co50] at hl
  obtain ⟨v0, v1, v2, v3, v4, v5, v6, rfl⟩ := seven hl
  obtain ⟨x0, x1, x2, rfl⟩ := three hxl
  have h0 : DataW.trod enc Tryd.prog w base spare held n 9 [v0] = some x0 := by simpa [co9] using hf 0 _ rfl
  have h1 : DataW.trod enc Tryd.prog w base spare held n 48 [v1] = some x1 := by simpa [co48] using hf 1 _ rfl
  have h2 : DataW.trod enc Tryd.prog w base spare held n 24 [v2, v3, v4, v5, v6] = some x2 := by simpa [cellsOf24] using hf 2 _ rfl
  obtain ⟨a0, q0, _, w0⟩ := DataW.trod_string Tryd.underlying9 h0
  obtain ⟨A, c, l, q1, hlc, hC, hP⟩ := read_row z47 k47 _ Tryd.underlying48 co47 read47 h1
  obtain ⟨y, hy, hn⟩ := read24 n _ _ h2
  cases q0; cases q1
  obtain ⟨B, d, e, hld, hB⟩ := k24_open hy
  rw [e]
  exact ⟨⟨a0, l, y⟩, k50_mk w ⟨a0, l, y⟩ hlc hC hld hB, Nat.le_trans w0 maxLen_le, hn, hP⟩
theorem read52 (m : Nat) (cs : List Value) (x : DataW H × List MemPlace) (h : DataW.trod enc Tryd.prog w base spare held m 52 cs = some x) : ∃ y : S52, k52.K w y cs ∧ (y.f0.size ≤ 9223372036854775807 ∧ numOK y.f1) := by
  obtain ⟨xs, n, rfl, _, hl, hxl, hf⟩ := DataW.trod_struct Tryd.underlying52 h
  rw [co52] at hl
  obtain ⟨v0, v2, v3, v4, v5, v6, rfl⟩ := six hl
  obtain ⟨x0, x2, rfl⟩ := two hxl
  have h0 : DataW.trod enc Tryd.prog w base spare held n 9 [v0] = some x0 := by simpa [co9] using hf 0 _ rfl
  have h2 : DataW.trod enc Tryd.prog w base spare held n 24 [v2, v3, v4, v5, v6] = some x2 := by simpa [cellsOf24] using hf 1 _ rfl
  obtain ⟨a0, q0, _, w0⟩ := DataW.trod_string Tryd.underlying9 h0
  obtain ⟨y, hy, hn⟩ := read24 n _ _ h2
  cases q0
  obtain ⟨B, d, e, hld, hB⟩ := k24_open hy
  rw [e]
  exact ⟨⟨a0, y⟩, k52_mk w ⟨a0, y⟩ hld hB, Nat.le_trans w0 maxLen_le, hn⟩
theorem read30 (m : Nat) (cs : List Value) (x : DataW H × List MemPlace) (h : DataW.trod enc Tryd.prog w base spare held m 30 cs = some x) : ∃ y : SpD, SpK w y cs ∧ SpN y := by
  obtain ⟨xs, n, rfl, _, hl, hxl, hf⟩ := DataW.trod_struct Tryd.underlying30 h
  rw [co30] at hl
  obtain ⟨v0, v1, v2, v3, rfl⟩ := four hl
  obtain ⟨x0, x1, x2, x3, rfl⟩ := four hxl
  have h0 : DataW.trod enc Tryd.prog w base spare held n 25 [v0] = some x0 := by simpa [co25] using hf 0 _ rfl
  have h1 : DataW.trod enc Tryd.prog w base spare held n 26 [v1] = some x1 := by simpa [co26] using hf 1 _ rfl
  have h2 : DataW.trod enc Tryd.prog w base spare held n 27 [v2] = some x2 := by simpa [co27] using hf 2 _ rfl
  have h3 : DataW.trod enc Tryd.prog w base spare held n 28 [v3] = some x3 := by simpa [co28] using hf 3 _ rfl
  obtain ⟨A0, c0, l0, q0, _, C0, P0⟩ := read_row z42 k42 _ Tryd.underlying25 co42 read42 h0
  obtain ⟨A1, c1, l1, q1, _, C1, P1⟩ := read_row z45 k45 _ Tryd.underlying26 co45 read45 h1
  obtain ⟨A2, c2, l2, q2, _, C2, P2⟩ := read_row z50 k50 _ Tryd.underlying27 co50 read50 h2
  obtain ⟨A3, c3, l3, q3, _, C3, P3⟩ := read_row z52 k52 _ Tryd.underlying28 co52 read52 h3
  cases q0; cases q1; cases q2; cases q3
  exact ⟨⟨l0, l1, l2, l3⟩, ⟨A0, A1, A2, A3, c0, c1, c2, c3, rfl, C0, C1, C2, C3⟩, P0, P1, P2, P3⟩
end
end Go.Proofs.YtgdiodhaihmnbaaDoor.Own
namespace Go.Proofs.YtgdiodhaihmnbaaDoor.Own
open Go.RowKit Go.Proofs.YtgdiodhaihmnbaaDoorW.PrintWords Go.Proofs.YtgdiodhaihmnbaaDoorW.PrintLast Go.Proofs.YtgdiodhaihmnbaaDoorW.PrintMore Go.Proofs.YtgdiodhaihmnbaaDoor.PPrinterMatchesReference
theorem sortName_in {so : List S42} {i : Int} (h0 : 0 ≤ i) (h1 : i < (so.length : Int)) : sortName so i = (so.getD i.toNat z42).f0 := by
  unfold sortName
  rw [if_neg (by omega)]
theorem sep_step {α : Type} (f : α → List UInt8) (s : List UInt8) (z : α) (xs : List α) (k : Nat) (hk : k < xs.length) (b : Bool) :
    sepT f s (xs.drop k) b = (if b then [] else s) ++ f (xs.getD k z) ++ sepT f s (xs.drop (k + 1)) false := by
  rw [drop_get z xs k hk, sepT]
theorem dec_succ (k : Nat) : decide (k + 1 = 0) = false := decide_eq_false (by omega)
set_option maxHeartbeats 8000000 in
set_option maxRecDepth 100000 in
theorem rfield_walk (x : SpD) (f : S45) (w : World) (cx cf : List Value) (hx : SpK w x cx) (hf : k45.K w f cf) (hin : ∀ i ∈ f.f1, 0 ≤ i ∧ i < (x.so.length : Int)) (hlen : (fldT x.so f).length ≤ 100000000) : Calls Tryd.prog 52 #[.agg cx.toArray, .agg cf.toArray] w (SaysS w (fldT x.so f)) := by
  obtain ⟨A0, A1, A2, A3, c0, c1, c2, c3, rfl, x0, x1, x2, x3⟩ := hx
  obtain ⟨A4, c4, rfl, hl4, h4⟩ := k45_open hf
  have X0 := Aside0.mk x0
  have H4 := Aside0.mk h4
  have l0 := row_len x0
  have l4 := row_len h4
  have HIN := Aside0.mk hin
  have HLN := Aside0.mk hlen
  have hu30 := Tryd.underlying30
  have hu42 := Tryd.underlying42
  have hu45 := Tryd.underlying45
  clear x0 x1 x2 x3 hf hl4 h4 hin
  have e0 : f.f0.size ≤ 100000000 := by
    unfold fldT at hlen; simp only [List.length_append, data_length] at hlen; omega
  clear hlen
  have a1 : ¬ 9223372036854775807 < 6 + f.f0.size := by omega
  have a2 : ¬ 9223372036854775807 < 6 + f.f0.size + 2 := by omega
  have a3 : ¬ 9223372036854775807 < 4 + (6 + f.f0.size + 2) := by omega
  clear e0
  obtain ⟨w1, HW1⟩ : ∃ w1, Aside0 (w1 = ((w.alloc (.cells #[.slice A0 x.so.length c0, .slice A1 x.fi.length c1, .slice A2 x.pr.length c2, .slice A3 x.fa.length c3] 30)).alloc (.cells #[.string f.f0, .slice A4 f.f1.length c4, .bool f.f2] 45))) := ⟨_, ⟨rfl⟩⟩
  have HBX : Aside0 (w1.heap[w.heap.size]? = some (.cells #[.slice A0 x.so.length c0, .slice A1 x.fi.length c1, .slice A2 x.pr.length c2, .slice A3 x.fa.length c3] 30 (0, 0))) := ⟨by rw [HW1.out]; exact blk_alloc (blk_new w _) _⟩
  have HBF : Aside0 (w1.heap[w.heap.size + 1]? = some (.cells #[.string f.f0, .slice A4 f.f1.length c4, .bool f.f2] 45 (0, 0))) := ⟨by rw [HW1.out]; exact blk_two w _ _⟩
  have HB0 : Aside0 (Below w.heap.size w w1) := ⟨by rw [HW1.out]; exact below_alloc (below_alloc (Below.refl _ _) _) _⟩
  obtain ⟨pre, hpre⟩ : ∃ pre, pre = (if f.f2 then [118, 97, 114, 32] else []) ++ ([102, 105, 101, 108, 100, 32] ++ f.f0.data.toList ++ [58, 32]) := ⟨_, rfl⟩
  have HFT : Aside0 (fldT x.so f = pre ++ sepT (fun i => (sortName x.so i).data.toList) [32, 45, 62, 32] f.f1 true ++ [59, 10]) := ⟨by rw [hpre]; rfl⟩
  have main : ∀ (y : ByteArray) (a : Act), True := fun _ _ => trivial
  clear main
  have HY0 : Aside0 ((⟨#[102, 105, 101, 108, 100, 32]⟩ : ByteArray) ++ f.f0 ++ (⟨#[58, 32]⟩ : ByteArray) = mkS ([102, 105, 101, 108, 100, 32] ++ f.f0.data.toList ++ [58, 32])) := ⟨by rw [← mkS_app, ← mkS_app, mkS_data]; rfl⟩
  have HPRE := Aside0.mk hpre
  clear hpre
  generalize hv : f.f2 = vb at *
  cases vb
  all_goals
    go_enter Tryd.func52, Tryd.ntmps52
    go_wp2_with fail
    rw [← HW1.out]
    clear HW1
    go_loopw [5, 6] (fun v i wr => ∃ (k : Nat) (y : ByteArray) (d : List UInt8), k ≤ f.f1.length ∧ i = .int .i64 k ∧ v = .string y ∧ Aside0 (y = mkS d) ∧ Aside0 (d ++ sepT (fun i => (sortName x.so i).data.toList) [32, 45, 62, 32] (f.f1.drop k) (decide (k = 0)) ++ [59, 10] = fldT x.so f) ∧ Aside0 (Below w1.heap.size w1 wr)) (fun _ i _ => f.f1.length - (intOf i).toNat)
    case atStart =>
      refine ⟨0, _, pre, Nat.zero_le _, rfl, rfl, ⟨?_⟩, ⟨by rw [HFT.out]; simp⟩, ⟨Below.refl _ _⟩⟩
      rw [HPRE.out, HY0.out]
      first
        | (rw [mkS_app]; rfl)
        | rfl
        | (show (⟨#[118, 97, 114, 32]⟩ : ByteArray) ++ mkS _ = _; rw [show (⟨#[118, 97, 114, 32]⟩ : ByteArray) = mkS [118, 97, 114, 32] from rfl, mkS_app]; rfl)
    case round =>
      obtain ⟨k, y, d, hk, rfl, rfl, HY, HE, HB⟩ := hrel
      have hy : y.size = d.length := by rw [HY.out, mkS_size]
      have z0 := blk_cell (blk_below HBX.out HB.out) 0
      have q0 := blk_cell (blk_below HBF.out HB.out) 0
      have q1 := blk_cell (blk_below HBF.out HB.out) 1
      by_cases hlt : k < f.f1.length
      · obtain ⟨ad, e1, g0⟩ := int_at (Kd.C_below H4.out (below_step HB0.out HB.out)) k hlt
        cases e1
        have hvin := HIN.out _ (mem_get 0 f.f1 k hlt)
        have HST := Aside0.mk (sep_step (fun i => (sortName x.so i).data.toList) [32, 45, 62, 32] 0 f.f1 k hlt (decide (k = 0)))
        generalize f.f1.getD k 0 = v at *
        obtain ⟨bd, e2, f0, f1⟩ := at_T42 (Kd.C_below X0.out (below_step HB0.out HB.out)) v hvin.1 hvin.2
        cases e2
        simp only [rd_T42] at f0 f1
        have HSN := Aside0.mk (sortName_in hvin.1 hvin.2)
        obtain ⟨hv0, hv1⟩ := hvin
        have hvn : v.toNat < x.so.length := by omega
        generalize x.so.getD v.toNat z42 = u at *
        have hsz : y.size + 4 + u.f0.size ≤ 200000000 := by
          have h1 := HLN.out
          rw [← HE.out, HST.out, HSN.out] at h1
          simp only [List.length_append, data_length] at h1
          omega
        clear hy
        by_cases hk0 : k = 0
        · have HK0 := Aside0.mk hk0
          have hkb : ¬ 0 < k := by omega
          have b1 : ¬ 9223372036854775807 < y.size + u.f0.size := by omega
          clear hk0 hsz
          go_wp2_with fail
          go_quiet (fail)
          go_wp2_with fail
          go_roundw
          case rel => exact ⟨k + 1, _, d ++ u.f0.data.toList, by omega, by go_num, rfl, ⟨by rw [← mkS_app, mkS_data, HY.out]⟩, ⟨by
            have h1 := HE.out
            rw [HST.out, HSN.out, decide_eq_true HK0.out] at h1
            rw [dec_succ, ← h1]; simp⟩, ⟨pw_below_drewN HB.out _⟩⟩
          case measure => simp [intOf]; omega
        · have HK0 := Aside0.mk hk0
          have hkb : 0 < k := by omega
          have b1 : ¬ 9223372036854775807 < y.size + 4 := by omega
          have b2 : ¬ 9223372036854775807 < y.size + 4 + u.f0.size := by omega
          clear hk0 hsz
          go_wp2_with fail
          go_quiet (fail)
          go_wp2_with fail
          go_roundw
          case rel => exact ⟨k + 1, _, d ++ [32, 45, 62, 32] ++ u.f0.data.toList, by omega, by go_num, rfl, ⟨by rw [← mkS_app, ← mkS_app, mkS_data, HY.out]; rfl⟩, ⟨by
            have h1 := HE.out
            rw [HST.out, HSN.out, decide_eq_false HK0.out] at h1
            rw [dec_succ, ← h1]; simp⟩, ⟨pw_below_drewN HB.out _⟩⟩
          case measure => simp [intOf]; omega
      · have HD : Aside0 (d ++ [59, 10] = fldT x.so f) := ⟨by
          rw [← HE.out, List.drop_of_length_le (by omega)]; simp [sepT]⟩
        have b1 : ¬ 9223372036854775807 < y.size + 2 := by
          have h1 := HLN.out
          rw [← HD.out] at h1
          simp only [List.length_append, List.length_cons, List.length_nil] at h1
          omega
        clear hy
        go_wp2_with fail
        go_ret
        exact ⟨by rw [← HD.out, ← mkS_app, ← HY.out]; rfl, below_step HB0.out HB.out⟩
end Go.Proofs.YtgdiodhaihmnbaaDoor.Own
namespace Go.Proofs.YtgdiodhaihmnbaaDoor.Own
open Go.RowKit Go.Proofs.YtgdiodhaihmnbaaDoorW.PrintWords Go.Proofs.YtgdiodhaihmnbaaDoorW.PrintLast Go.Proofs.YtgdiodhaihmnbaaDoorW.PrintMore Go.Proofs.YtgdiodhaihmnbaaDoor.PPrinterMatchesReference
set_option maxHeartbeats 8000000 in
set_option maxRecDepth 100000 in
theorem rpred_walk (x : SpD) (f : S50) (w : World) (cx cf : List Value) (hx : SpK w x cx) (hf : k50.K w f cf) (hin : ∀ i ∈ f.f1, 0 ≤ i.f1 ∧ i.f1 < (x.so.length : Int)) (hv : validB f.f2 = true) (hlen : (predT x.so f).length ≤ 100000000) : Calls Tryd.prog 53 #[.agg cx.toArray, .agg cf.toArray] w (SaysS w (predT x.so f)) := by
  obtain ⟨A0, A1, A2, A3, c0, c1, c2, c3, rfl, x0, x1, x2, x3⟩ := hx
  obtain ⟨A4, c4, A5, c5, rfl, hl4, h4, hl5, h5⟩ := k50_open hf
  have X0 := Aside0.mk x0
  have H4 := Aside0.mk h4
  have KB := Aside0.mk (k24_mk w f.f2 hl5 h5)
  have HV := Aside0.mk hv
  have l0 := row_len x0
  have l4 := row_len h4
  have HIN := Aside0.mk hin
  have HLN := Aside0.mk hlen
  have hu30 := Tryd.underlying30
  have hu42 := Tryd.underlying42
  have hu47 := Tryd.underlying47
  have hu50 := Tryd.underlying50
  have hu24 := Tryd.underlying24
  clear x0 x1 x2 x3 hf hl4 h4 hin hl5 h5 hv
  have e0 : f.f0.size ≤ 100000000 := by
    unfold predT at hlen; simp only [List.length_append, data_length] at hlen; omega
  clear hlen
  have a1 : ¬ 9223372036854775807 < 5 + f.f0.size := by omega
  have a2 : ¬ 9223372036854775807 < 5 + f.f0.size + 1 := by omega
  clear e0
  obtain ⟨w1, HW1⟩ : ∃ w1, Aside0 (w1 = ((w.alloc (.cells #[.slice A0 x.so.length c0, .slice A1 x.fi.length c1, .slice A2 x.pr.length c2, .slice A3 x.fa.length c3] 30)).alloc (.cells #[.string f.f0, .slice A4 f.f1.length c4, .int .i64 f.f2.f0, .string f.f2.f1, .int .i64 f.f2.f2, .slice A5 f.f2.f3.length c5, .int .i64 f.f2.f4] 50))) := ⟨_, ⟨rfl⟩⟩
  have HBX : Aside0 (w1.heap[w.heap.size]? = some (.cells #[.slice A0 x.so.length c0, .slice A1 x.fi.length c1, .slice A2 x.pr.length c2, .slice A3 x.fa.length c3] 30 (0, 0))) := ⟨by rw [HW1.out]; exact blk_alloc (blk_new w _) _⟩
  have HBF : Aside0 (w1.heap[w.heap.size + 1]? = some (.cells #[.string f.f0, .slice A4 f.f1.length c4, .int .i64 f.f2.f0, .string f.f2.f1, .int .i64 f.f2.f2, .slice A5 f.f2.f3.length c5, .int .i64 f.f2.f4] 50 (0, 0))) := ⟨by rw [HW1.out]; exact blk_two w _ _⟩
  have HB0 : Aside0 (Below w.heap.size w w1) := ⟨by rw [HW1.out]; exact below_alloc (below_alloc (Below.refl _ _) _) _⟩
  have HY0 : Aside0 ((⟨#[112, 114, 101, 100, 32]⟩ : ByteArray) ++ f.f0 ++ (⟨#[91]⟩ : ByteArray) = mkS ([112, 114, 101, 100, 32] ++ f.f0.data.toList ++ [91])) := ⟨by rw [← mkS_app, ← mkS_app, mkS_data]; rfl⟩
  have HFT : Aside0 (predT x.so f = ([112, 114, 101, 100, 32] ++ f.f0.data.toList ++ [91]) ++ sepT (parT x.so) [44, 32] f.f1 true ++ ([93, 32, 123, 32] ++ txt f.f2 true ++ [32, 125, 10])) := ⟨rfl⟩
  go_enter Tryd.func53, Tryd.ntmps53
  go_wp2_with fail
  rw [← HW1.out]
  clear HW1
  go_loopw [5, 6] (fun v i wr => ∃ (k : Nat) (y : ByteArray) (d : List UInt8), k ≤ f.f1.length ∧ i = .int .i64 k ∧ v = .string y ∧ Aside0 (y = mkS d) ∧ Aside0 (d ++ sepT (parT x.so) [44, 32] (f.f1.drop k) (decide (k = 0)) ++ ([93, 32, 123, 32] ++ txt f.f2 true ++ [32, 125, 10]) = predT x.so f) ∧ Aside0 (Below w1.heap.size w1 wr)) (fun _ i _ => f.f1.length - (intOf i).toNat)
  case atStart => exact ⟨0, _, _, Nat.zero_le _, rfl, rfl, HY0, ⟨by rw [HFT.out]; simp⟩, ⟨Below.refl _ _⟩⟩
  case round =>
    obtain ⟨k, y, d, hk, rfl, rfl, HY, HE, HB⟩ := hrel
    have hy : y.size = d.length := by rw [HY.out, mkS_size]
    have z0 := blk_cell (blk_below HBX.out HB.out) 0
    have q1 := blk_cell (blk_below HBF.out HB.out) 1
    by_cases hlt : k < f.f1.length
    · obtain ⟨ad, e1, g0, g1⟩ := at_T47 (Kd.C_below H4.out (below_step HB0.out HB.out)) k (by omega) (by omega)
      cases e1
      simp only [Int.toNat_natCast, rd_T47] at g0 g1
      have hvin := HIN.out _ (mem_get z47 f.f1 k hlt)
      have HST := Aside0.mk (sep_step (parT x.so) [44, 32] z47 f.f1 k hlt (decide (k = 0)))
      generalize f.f1.getD k z47 = p at *
      obtain ⟨bd, e2, f0, f1⟩ := at_T42 (Kd.C_below X0.out (below_step HB0.out HB.out)) p.f1 hvin.1 hvin.2
      cases e2
      simp only [rd_T42] at f0 f1
      have HSN := Aside0.mk (sortName_in hvin.1 hvin.2)
      obtain ⟨hv0, hv1⟩ := hvin
      have hvn : p.f1.toNat < x.so.length := by omega
      generalize x.so.getD p.f1.toNat z42 = u at *
      have HPT : Aside0 (parT x.so p = p.f0.data.toList ++ [58, 32] ++ u.f0.data.toList) := ⟨by rw [parT, HSN.out]⟩
      have hsz : y.size + 2 + p.f0.size + 2 + u.f0.size ≤ 200000000 := by
        have h1 := HLN.out
        rw [← HE.out, HST.out, HPT.out] at h1
        simp only [List.length_append, data_length, List.length_cons, List.length_nil] at h1
        omega
      clear hy
      have hlt2 : (k : Int) < (f.f1.length : Int) := by omega
      by_cases hk0 : k = 0
      · have HK0 := Aside0.mk hk0
        have hkb : ¬ 0 < k := by omega
        have b1 : ¬ 9223372036854775807 < y.size + p.f0.size := by omega
        have b2 : ¬ 9223372036854775807 < y.size + p.f0.size + 2 := by omega
        have b3 : ¬ 9223372036854775807 < y.size + p.f0.size + 2 + u.f0.size := by omega
        clear hk0 hsz
        go_wp2_with fail
        go_quiet (fail)
        go_wp2_with fail
        go_roundw
        case rel => exact ⟨k + 1, _, d ++ p.f0.data.toList ++ [58, 32] ++ u.f0.data.toList, by omega, by go_num, rfl, ⟨by rw [← mkS_app, ← mkS_app, ← mkS_app, mkS_data, mkS_data, HY.out]; rfl⟩, ⟨by
          have h1 := HE.out
          rw [HST.out, HPT.out, decide_eq_true HK0.out] at h1
          rw [dec_succ, ← h1]; simp⟩, ⟨pw_below_drewN HB.out _⟩⟩
        case measure => simp [intOf]; omega
      · have HK0 := Aside0.mk hk0
        have hkb : 0 < k := by omega
        have b0 : ¬ 9223372036854775807 < y.size + 2 := by omega
        have b1 : ¬ 9223372036854775807 < y.size + 2 + p.f0.size := by omega
        have b2 : ¬ 9223372036854775807 < y.size + 2 + p.f0.size + 2 := by omega
        have b3 : ¬ 9223372036854775807 < y.size + 2 + p.f0.size + 2 + u.f0.size := by omega
        clear hk0 hsz
        go_wp2_with fail
        go_quiet (fail)
        go_wp2_with fail
        go_roundw
        case rel => exact ⟨k + 1, _, d ++ [44, 32] ++ p.f0.data.toList ++ [58, 32] ++ u.f0.data.toList, by omega, by go_num, rfl, ⟨by rw [← mkS_app, ← mkS_app, ← mkS_app, ← mkS_app, mkS_data, mkS_data, HY.out]; rfl⟩, ⟨by
          have h1 := HE.out
          rw [HST.out, HPT.out, decide_eq_false HK0.out] at h1
          rw [dec_succ, ← h1]; simp⟩, ⟨pw_below_drewN HB.out _⟩⟩
        case measure => simp [intOf]; omega
    · have HD : Aside0 (d ++ ([93, 32, 123, 32] ++ txt f.f2 true ++ [32, 125, 10]) = predT x.so f) := ⟨by
        rw [← HE.out, List.drop_of_length_le (by omega)]; simp [sepT]⟩
      obtain ⟨s1, H1⟩ : ∃ z, Aside0 (mkS (txt f.f2 true) = z) := ⟨_, ⟨rfl⟩⟩
      have hs1 : s1.size = (txt f.f2 true).length := by rw [← H1.out, mkS_size]
      have hsz : y.size + s1.size + 7 ≤ 200000000 := by
        have h1 := HLN.out
        rw [← HD.out] at h1
        simp only [List.length_append, List.length_cons, List.length_nil] at h1
        omega
      have b1 : ¬ 9223372036854775807 < y.size + 4 := by omega
      have b2 : ¬ 9223372036854775807 < y.size + 4 + s1.size := by omega
      have b3 : ¬ 9223372036854775807 < y.size + 4 + s1.size + 3 := by omega
      have q2 := blk_cell (blk_below HBF.out HB.out) 2
      have q3 := blk_cell (blk_below HBF.out HB.out) 3
      have q4 := blk_cell (blk_below HBF.out HB.out) 4
      have q5 := blk_cell (blk_below HBF.out HB.out) 5
      have q6 := blk_cell (blk_below HBF.out HB.out) 6
      clear hy hs1 hsz
      go_wp2_with fail
      refine (ref_formula f.f2 HV.out wr _ (k24.K_below (below_step HB0.out HB.out) KB.out)).mono ?_
      rintro e w2 ⟨rfl, hb2⟩
      rw [H1.out]
      have HB2 := Aside0.mk (below_step HB.out hb2)
      clear hb2 q1 q2 q3 q4 q5 q6 z0
      go_wp2_with fail
      go_ret
      exact ⟨by rw [← HD.out, ← mkS_app, ← mkS_app, ← mkS_app, ← HY.out, H1.out, ByteArray.append_assoc, ByteArray.append_assoc]; first | rfl | (rw [ByteArray.append_assoc, ByteArray.append_assoc]; rfl), below_step HB0.out HB2.out⟩
end Go.Proofs.YtgdiodhaihmnbaaDoor.Own
namespace Go.Proofs.YtgdiodhaihmnbaaDoor.Own
open Go.RowKit Go.Proofs.YtgdiodhaihmnbaaDoorW.PrintWords Go.Proofs.YtgdiodhaihmnbaaDoorW.PrintLast Go.Proofs.YtgdiodhaihmnbaaDoorW.PrintMore Go.Proofs.YtgdiodhaihmnbaaDoor.PPrinterMatchesReference
/-- What the reference asks of a specification before it writes it. -/
structure RefOK (x : SpD) : Prop where
  fi : ∀ f ∈ x.fi, ∀ i ∈ f.f1, 0 ≤ i ∧ i < (x.so.length : Int)
  pr : ∀ p ∈ x.pr, ∀ i ∈ p.f1, 0 ≤ i.f1 ∧ i.f1 < (x.so.length : Int)
  pb : ∀ p ∈ x.pr, validB p.f2 = true
  fb : ∀ p ∈ x.fa, validB p.f1 = true
theorem cat_step {α : Type} (f : α → List UInt8) (z : α) (xs : List α) (k : Nat) (hk : k < xs.length) : catT f (xs.drop k) = f (xs.getD k z) ++ catT f (xs.drop (k + 1)) := by
  rw [drop_get z xs k hk, catT]
set_option maxHeartbeats 8000000 in
set_option maxRecDepth 100000 in
theorem rspec_walk (x : SpD) (hr : RefOK x) (w : World) (cx : List Value) (hx : SpK w x cx) (hlen : (specT x).length ≤ 100000000) : Calls Tryd.prog 17 #[.agg cx.toArray] w (SaysS w (specT x)) := by
  have HX := Aside0.mk hx
  obtain ⟨A0, A1, A2, A3, c0, c1, c2, c3, rfl, x0, x1, x2, x3⟩ := hx
  have X0 := Aside0.mk x0
  have l0 := row_len x0
  have X1 := Aside0.mk x1
  have l1 := row_len x1
  have X2 := Aside0.mk x2
  have l2 := row_len x2
  have X3 := Aside0.mk x3
  have l3 := row_len x3
  have hu30 := Tryd.underlying30
  have hu42 := Tryd.underlying42
  have hu45 := Tryd.underlying45
  have hu47 := Tryd.underlying47
  have hu50 := Tryd.underlying50
  have hu52 := Tryd.underlying52
  have hu24 := Tryd.underlying24
  have HR := Aside0.mk hr
  have HLN := Aside0.mk hlen
  have HSP : Aside0 (specT x = catT sortT x.so ++ catT (fldT x.so) x.fi ++ catT (predT x.so) x.pr ++ catT factT x.fa) := ⟨rfl⟩
  clear x0 x1 x2 x3 hr hlen
  obtain ⟨w1, HW1⟩ : ∃ w1, Aside0 (w1 = (w.alloc (.cells #[.slice A0 x.so.length c0, .slice A1 x.fi.length c1, .slice A2 x.pr.length c2, .slice A3 x.fa.length c3] 30))) := ⟨_, ⟨rfl⟩⟩
  have HBX : Aside0 (w1.heap[w.heap.size]? = some (.cells #[.slice A0 x.so.length c0, .slice A1 x.fi.length c1, .slice A2 x.pr.length c2, .slice A3 x.fa.length c3] 30 (0, 0))) := ⟨by rw [HW1.out]; exact blk_new w _⟩
  have HB0 : Aside0 (Below w.heap.size w w1) := ⟨by rw [HW1.out]; exact below_alloc (Below.refl _ _) _⟩
  go_enter Tryd.func17, Tryd.ntmps17
  go_wp2_with fail
  rw [← HW1.out]
  clear HW1
  go_loopw [3, 4] (fun v i wr => ∃ (k : Nat) (y : ByteArray) (d : List UInt8), k ≤ x.so.length ∧ i = .int .i64 k ∧ v = .string y ∧ Aside0 (y = mkS d) ∧ Aside0 (d ++ catT sortT (x.so.drop k) ++ (catT (fldT x.so) x.fi ++ catT (predT x.so) x.pr ++ catT factT x.fa) = specT x) ∧ Aside0 (Below w1.heap.size w1 wr)) (fun _ i _ => x.so.length - (intOf i).toNat)
  case atStart => exact ⟨0, _, [], Nat.zero_le _, rfl, rfl, ⟨rfl⟩, ⟨by rw [HSP.out]; simp⟩, ⟨Below.refl _ _⟩⟩
  case round =>
    obtain ⟨k, y, d, hk, rfl, rfl, HY, HE, HB⟩ := hrel
    have hy : y.size = d.length := by rw [HY.out, mkS_size]
    have z0 := blk_cell (blk_below HBX.out HB.out) 0
    have z1 := blk_cell (blk_below HBX.out HB.out) 1
    have z2 := blk_cell (blk_below HBX.out HB.out) 2
    have z3 := blk_cell (blk_below HBX.out HB.out) 3
    by_cases hlt : k < x.so.length
    · obtain ⟨ad, e1, g0, g1⟩ := at_T42 (Kd.C_below X0.out (below_step HB0.out HB.out)) k (by omega) (by omega)
      cases e1
      simp only [Int.toNat_natCast, rd_T42] at g0 g1
      have HM := Aside0.mk (mem_get z42 x.so k hlt)
      have HST := Aside0.mk (cat_step sortT z42 x.so k hlt)
      generalize x.so.getD k z42 = u at *
      have hsz : y.size + 5 + u.f0.size + 8 + 2 ≤ 200000000 := by
        have h1 := HLN.out
        rw [← HE.out, HST.out, sortT] at h1
        simp only [List.length_append, data_length, List.length_cons, List.length_nil] at h1
        omega
      have hlt2 : (k : Int) < (x.so.length : Int) := by omega
      have b1 : ¬ 9223372036854775807 < y.size + 5 := by omega
      have b2 : ¬ 9223372036854775807 < y.size + 5 + u.f0.size := by omega
      have b3 : ¬ 9223372036854775807 < y.size + 5 + u.f0.size + 8 := by omega
      have b4 : ¬ 9223372036854775807 < y.size + 5 + u.f0.size + 8 + 2 := by omega
      have b5 : ¬ 9223372036854775807 < y.size + 5 + u.f0.size + 2 := by omega
      have HSO : Aside0 (sortT u = [115, 111, 114, 116, 32] ++ u.f0.data.toList ++ (if u.f1 then [32, 111, 114, 100, 101, 114, 101, 100] else []) ++ [59, 10]) := ⟨rfl⟩
      clear hy hsz
      generalize u.f1 = ub at *
      cases ub
      · go_wp2_with fail
        go_roundw
        case rel => exact ⟨k + 1, _, d ++ [115, 111, 114, 116, 32] ++ u.f0.data.toList ++ [59, 10], by omega, by go_num, rfl, ⟨by rw [← mkS_app, ← mkS_app, ← mkS_app, mkS_data, HY.out]; rfl⟩, ⟨by
          rw [← HE.out, HST.out, HSO.out]; simp⟩, HB⟩
        case measure => simp [intOf]; omega
      · go_wp2_with fail
        go_roundw
        case rel => exact ⟨k + 1, _, d ++ [115, 111, 114, 116, 32] ++ u.f0.data.toList ++ [32, 111, 114, 100, 101, 114, 101, 100] ++ [59, 10], by omega, by go_num, rfl, ⟨by rw [← mkS_app, ← mkS_app, ← mkS_app, ← mkS_app, mkS_data, HY.out]; rfl⟩, ⟨by
          rw [← HE.out, HST.out, HSO.out]; simp⟩, HB⟩
        case measure => simp [intOf]; omega
    have HD0 : Aside0 (d ++ (catT (fldT x.so) x.fi ++ catT (predT x.so) x.pr ++ catT factT x.fa) = specT x) := ⟨by rw [← HE.out, List.drop_of_length_le (by omega)]; simp [catT]⟩
    clear hy HE
    go_wp2_with fail
    clear z0 z1 z2 z3
    go_loopw [3, 5] (fun v i wr => ∃ (k : Nat) (y : ByteArray) (d : List UInt8), k ≤ x.fi.length ∧ i = .int .i64 k ∧ v = .string y ∧ Aside0 (y = mkS d) ∧ Aside0 (d ++ catT (fldT x.so) (x.fi.drop k) ++ (catT (predT x.so) x.pr ++ catT factT x.fa) = specT x) ∧ Aside0 (Below w1.heap.size w1 wr)) (fun _ i _ => x.fi.length - (intOf i).toNat)
    case atStart => exact ⟨0, _, d, Nat.zero_le _, rfl, rfl, HY, ⟨by rw [← HD0.out]; simp⟩, HB⟩
    case round =>
      obtain ⟨k, y, d, hk, rfl, rfl, HY, HE, HB⟩ := hrel
      have hy : y.size = d.length := by rw [HY.out, mkS_size]
      have z0 := blk_cell (blk_below HBX.out HB.out) 0
      have z1 := blk_cell (blk_below HBX.out HB.out) 1
      have z2 := blk_cell (blk_below HBX.out HB.out) 2
      have z3 := blk_cell (blk_below HBX.out HB.out) 3
      by_cases hlt : k < x.fi.length
      · obtain ⟨ad, A4, c4, e1, g0, g1, g2, gl, gi⟩ := at_T45 (Kd.C_below X1.out (below_step HB0.out HB.out)) k (by omega) (by omega)
        cases e1
        simp only [Int.toNat_natCast, rd_T45] at g0 g1 g2 gl gi
        have HM := Aside0.mk (mem_get z45 x.fi k hlt)
        have HST := Aside0.mk (cat_step (fldT x.so) z45 x.fi k hlt)
        have HF := Aside0.mk (HR.out.fi _ HM.out)
        generalize x.fi.getD k z45 = u at *
        have KX := Aside0.mk (k45_mk wr u gl gi)
        clear gl gi
        have hlt2 : (k : Int) < (x.fi.length : Int) := by omega
        obtain ⟨s1, H1⟩ : ∃ z, Aside0 (mkS (fldT x.so u) = z) := ⟨_, ⟨rfl⟩⟩
        have hs1 : s1.size = (fldT x.so u).length := by rw [← H1.out, mkS_size]
        have hsz : y.size + s1.size ≤ 200000000 := by
          have h1 := HLN.out
          rw [← HE.out, HST.out] at h1
          simp only [List.length_append] at h1
          omega
        have HL1 : Aside0 ((fldT x.so u).length ≤ 100000000) := ⟨by
          have h1 := HLN.out
          rw [← HE.out, HST.out] at h1
          simp only [List.length_append] at h1
          omega⟩
        have b1 : ¬ 9223372036854775807 < y.size + s1.size := by omega
        clear hy hs1 hsz
        go_wp2_with fail
        obtain ⟨C, hCe⟩ : ∃ C : World → Prop, C = fun W => Below wr.heap.size wr W := ⟨_, rfl⟩
        have HC := Aside0.mk hCe
        clear hCe
        refine wp_quiet_tail C 9 (by kernel_rfl) (by kernel_rfl) (by rw [HC.out]; exact below_drew1 (Below.refl _ _)) ?_
        simp only [List.take_succ_cons, List.take_zero, List.drop_succ_cons, List.drop_zero]
        iterate 7
          refine q_ex rfl ?_
          apply Exists.intro
          refine ⟨fun W hW => ?_, ?_⟩
          · have p3 : Below wr.heap.size wr W := by rw [HC.out] at hW; exact hW
            replace g0 := pw_cell_below p3 g0
            replace g1 := pw_cell_below p3 g1
            replace g2 := pw_cell_below p3 g2
            replace z0 := pw_cell_below p3 z0
            replace z1 := pw_cell_below p3 z1
            replace z2 := pw_cell_below p3 z2
            replace z3 := pw_cell_below p3 z3
            clear p3
            go_simp
            try rfl
          simp only [Act.put, List.setIfInBounds_toArray, List.set_cons_zero, List.set_cons_succ]
        refine q_callX (f := 52) (v := .string s1) rfl ?_ ?_
        · apply Exists.intro
          refine ⟨fun W hW => (by go_simp; try rfl), fun W hW => ?_⟩
          rw [HC.out] at hW ⊢
          refine (rfield_walk x u W _ _ (HX.out.below (below_step HB0.out (below_step HB.out hW))) (k45.K_below hW KX.out) HF.out HL1.out).mono ?_
          rintro e w2 ⟨rfl, hb2⟩
          exact ⟨by rw [H1.out], below_step hW hb2⟩
        simp only [Act.put, List.setIfInBounds_toArray, List.set_cons_zero, List.set_cons_succ]
        iterate 1
          refine q_ex rfl ?_
          apply Exists.intro
          refine ⟨fun W hW => ?_, ?_⟩
          · go_simp
            try rfl
          simp only [Act.put, List.setIfInBounds_toArray, List.set_cons_zero, List.set_cons_succ]
        intro W hW
        rw [HC.out] at hW
        have HB2 := Aside0.mk (below_step HB.out hW)
        clear hW HC g0 g1 g2 z0 z1 z2 z3
        go_wp2_with fail
        go_roundw
        case rel => exact ⟨k + 1, _, d ++ (fldT x.so u), by omega, by go_num, rfl, ⟨by rw [← mkS_app, HY.out, H1.out]⟩, ⟨by rw [← HE.out, HST.out]; simp⟩, HB2⟩
        case measure => simp [intOf]; omega
      have HD1 : Aside0 (d ++ (catT (predT x.so) x.pr ++ catT factT x.fa) = specT x) := ⟨by rw [← HE.out, List.drop_of_length_le (by omega)]; simp [catT]⟩
      clear hy HE
      go_wp2_with fail
      clear z0 z1 z2 z3
      go_loopw [3, 6] (fun v i wr => ∃ (k : Nat) (y : ByteArray) (d : List UInt8), k ≤ x.pr.length ∧ i = .int .i64 k ∧ v = .string y ∧ Aside0 (y = mkS d) ∧ Aside0 (d ++ catT (predT x.so) (x.pr.drop k) ++ (catT factT x.fa) = specT x) ∧ Aside0 (Below w1.heap.size w1 wr)) (fun _ i _ => x.pr.length - (intOf i).toNat)
      case atStart => exact ⟨0, _, d, Nat.zero_le _, rfl, rfl, HY, ⟨by rw [← HD1.out]; simp⟩, HB⟩
      case round =>
        obtain ⟨k, y, d, hk, rfl, rfl, HY, HE, HB⟩ := hrel
        have hy : y.size = d.length := by rw [HY.out, mkS_size]
        have z0 := blk_cell (blk_below HBX.out HB.out) 0
        have z1 := blk_cell (blk_below HBX.out HB.out) 1
        have z2 := blk_cell (blk_below HBX.out HB.out) 2
        have z3 := blk_cell (blk_below HBX.out HB.out) 3
        by_cases hlt : k < x.pr.length
        · obtain ⟨ad, A4, c4, A5, c5, e1, g0, g1, g2, g3, g4, g5, g6, gl, gi, gm, gj⟩ := at_T50 (Kd.C_below X2.out (below_step HB0.out HB.out)) k (by omega) (by omega)
          cases e1
          simp only [Int.toNat_natCast, rd_T50] at g0 g1 g2 g3 g4 g5 g6 gl gi gm gj
          have HM := Aside0.mk (mem_get z50 x.pr k hlt)
          have HST := Aside0.mk (cat_step (predT x.so) z50 x.pr k hlt)
          have HF := Aside0.mk (HR.out.pr _ HM.out)
          have HV := Aside0.mk (HR.out.pb _ HM.out)
          generalize x.pr.getD k z50 = u at *
          have KX := Aside0.mk (k50_mk wr u gl gi gm gj)
          clear gl gi gm gj
          have hlt2 : (k : Int) < (x.pr.length : Int) := by omega
          obtain ⟨s1, H1⟩ : ∃ z, Aside0 (mkS (predT x.so u) = z) := ⟨_, ⟨rfl⟩⟩
          have hs1 : s1.size = (predT x.so u).length := by rw [← H1.out, mkS_size]
          have hsz : y.size + s1.size ≤ 200000000 := by
            have h1 := HLN.out
            rw [← HE.out, HST.out] at h1
            simp only [List.length_append] at h1
            omega
          have HL1 : Aside0 ((predT x.so u).length ≤ 100000000) := ⟨by
            have h1 := HLN.out
            rw [← HE.out, HST.out] at h1
            simp only [List.length_append] at h1
            omega⟩
          have b1 : ¬ 9223372036854775807 < y.size + s1.size := by omega
          clear hy hs1 hsz
          go_wp2_with fail
          obtain ⟨C, hCe⟩ : ∃ C : World → Prop, C = fun W => Below wr.heap.size wr W := ⟨_, rfl⟩
          have HC := Aside0.mk hCe
          clear hCe
          refine wp_quiet_tail C 9 (by kernel_rfl) (by kernel_rfl) (by rw [HC.out]; exact below_drew1 (Below.refl _ _)) ?_
          simp only [List.take_succ_cons, List.take_zero, List.drop_succ_cons, List.drop_zero]
          iterate 7
            refine q_ex rfl ?_
            apply Exists.intro
            refine ⟨fun W hW => ?_, ?_⟩
            · have p3 : Below wr.heap.size wr W := by rw [HC.out] at hW; exact hW
              replace g0 := pw_cell_below p3 g0
              replace g1 := pw_cell_below p3 g1
              replace g2 := pw_cell_below p3 g2
              replace g3 := pw_cell_below p3 g3
              replace g4 := pw_cell_below p3 g4
              replace g5 := pw_cell_below p3 g5
              replace g6 := pw_cell_below p3 g6
              replace z0 := pw_cell_below p3 z0
              replace z1 := pw_cell_below p3 z1
              replace z2 := pw_cell_below p3 z2
              replace z3 := pw_cell_below p3 z3
              clear p3
              go_simp
              try rfl
            simp only [Act.put, List.setIfInBounds_toArray, List.set_cons_zero, List.set_cons_succ]
          refine q_callX (f := 53) (v := .string s1) rfl ?_ ?_
          · apply Exists.intro
            refine ⟨fun W hW => (by go_simp; try rfl), fun W hW => ?_⟩
            rw [HC.out] at hW ⊢
            refine (rpred_walk x u W _ _ (HX.out.below (below_step HB0.out (below_step HB.out hW))) (k50.K_below hW KX.out) HF.out HV.out HL1.out).mono ?_
            rintro e w2 ⟨rfl, hb2⟩
            exact ⟨by rw [H1.out], below_step hW hb2⟩
          simp only [Act.put, List.setIfInBounds_toArray, List.set_cons_zero, List.set_cons_succ]
          iterate 1
            refine q_ex rfl ?_
            apply Exists.intro
            refine ⟨fun W hW => ?_, ?_⟩
            · go_simp
              try rfl
            simp only [Act.put, List.setIfInBounds_toArray, List.set_cons_zero, List.set_cons_succ]
          intro W hW
          rw [HC.out] at hW
          have HB2 := Aside0.mk (below_step HB.out hW)
          clear hW HC g0 g1 g2 g3 g4 g5 g6 z0 z1 z2 z3
          go_wp2_with fail
          go_roundw
          case rel => exact ⟨k + 1, _, d ++ (predT x.so u), by omega, by go_num, rfl, ⟨by rw [← mkS_app, HY.out, H1.out]⟩, ⟨by rw [← HE.out, HST.out]; simp⟩, HB2⟩
          case measure => simp [intOf]; omega
        have HD2 : Aside0 (d ++ (catT factT x.fa) = specT x) := ⟨by rw [← HE.out, List.drop_of_length_le (by omega)]; simp [catT]⟩
        clear hy HE
        go_wp2_with fail
        clear z0 z1 z2 z3
        go_loopw [3, 7] (fun v i wr => ∃ (k : Nat) (y : ByteArray) (d : List UInt8), k ≤ x.fa.length ∧ i = .int .i64 k ∧ v = .string y ∧ Aside0 (y = mkS d) ∧ Aside0 (d ++ catT factT (x.fa.drop k) ++ (([] : List UInt8)) = specT x) ∧ Aside0 (Below w1.heap.size w1 wr)) (fun _ i _ => x.fa.length - (intOf i).toNat)
        case atStart => exact ⟨0, _, d, Nat.zero_le _, rfl, rfl, HY, ⟨by rw [← HD2.out]; simp⟩, HB⟩
        case round =>
          obtain ⟨k, y, d, hk, rfl, rfl, HY, HE, HB⟩ := hrel
          have hy : y.size = d.length := by rw [HY.out, mkS_size]
          have z0 := blk_cell (blk_below HBX.out HB.out) 0
          have z1 := blk_cell (blk_below HBX.out HB.out) 1
          have z2 := blk_cell (blk_below HBX.out HB.out) 2
          have z3 := blk_cell (blk_below HBX.out HB.out) 3
          by_cases hlt : k < x.fa.length
          · obtain ⟨ad, A5, c5, e1, g0, g1, g2, g3, g4, g5, gm, gj⟩ := at_T52 (Kd.C_below X3.out (below_step HB0.out HB.out)) k (by omega) (by omega)
            cases e1
            simp only [Int.toNat_natCast, rd_T52] at g0 g1 g2 g3 g4 g5 gm gj
            have HM := Aside0.mk (mem_get z52 x.fa k hlt)
            have HST := Aside0.mk (cat_step factT z52 x.fa k hlt)
            have HV := Aside0.mk (HR.out.fb _ HM.out)
            generalize x.fa.getD k z52 = u at *
            have KX := Aside0.mk (k24_mk wr u.f1 gm gj)
            clear gm gj
            have hlt2 : (k : Int) < (x.fa.length : Int) := by omega
            obtain ⟨s1, H1⟩ : ∃ z, Aside0 (mkS (txt u.f1 true) = z) := ⟨_, ⟨rfl⟩⟩
            have hs1 : s1.size = (txt u.f1 true).length := by rw [← H1.out, mkS_size]
            have hsz : y.size + 5 + u.f0.size + 3 + s1.size + 3 ≤ 200000000 := by
              have h1 := HLN.out
              rw [← HE.out, HST.out, factT] at h1
              simp only [List.length_append, data_length, List.length_cons, List.length_nil] at h1
              omega
            have b1 : ¬ 9223372036854775807 < y.size + 5 := by omega
            have b2 : ¬ 9223372036854775807 < y.size + 5 + u.f0.size := by omega
            have b3 : ¬ 9223372036854775807 < y.size + 5 + u.f0.size + 3 := by omega
            have b4 : ¬ 9223372036854775807 < y.size + 5 + u.f0.size + 3 + s1.size := by omega
            have b5 : ¬ 9223372036854775807 < y.size + 5 + u.f0.size + 3 + s1.size + 3 := by omega
            have HFA : Aside0 (factT u = [102, 97, 99, 116, 32] ++ u.f0.data.toList ++ [32, 123, 32] ++ txt u.f1 true ++ [32, 125, 10]) := ⟨rfl⟩
            clear hy hs1 hsz
            go_wp2_with fail
            obtain ⟨C, hCe⟩ : ∃ C : World → Prop, C = fun W => Below wr.heap.size wr W := ⟨_, rfl⟩
            have HC := Aside0.mk hCe
            clear hCe
            refine wp_quiet_tail C 19 (by kernel_rfl) (by kernel_rfl) (by rw [HC.out]; exact below_drew1 (Below.refl _ _)) ?_
            simp only [List.take_succ_cons, List.take_zero, List.drop_succ_cons, List.drop_zero]
            iterate 16
              refine q_ex rfl ?_
              apply Exists.intro
              refine ⟨fun W hW => ?_, ?_⟩
              · have p3 : Below wr.heap.size wr W := by rw [HC.out] at hW; exact hW
                replace g0 := pw_cell_below p3 g0
                replace g1 := pw_cell_below p3 g1
                replace g2 := pw_cell_below p3 g2
                replace g3 := pw_cell_below p3 g3
                replace g4 := pw_cell_below p3 g4
                replace g5 := pw_cell_below p3 g5
                replace z0 := pw_cell_below p3 z0
                replace z1 := pw_cell_below p3 z1
                replace z2 := pw_cell_below p3 z2
                replace z3 := pw_cell_below p3 z3
                clear p3
                go_simp
                try rfl
              simp only [Act.put, List.setIfInBounds_toArray, List.set_cons_zero, List.set_cons_succ]
            refine q_callX (f := 14) (v := .string s1) rfl ?_ ?_
            · apply Exists.intro
              refine ⟨fun W hW => (by go_simp; try rfl), fun W hW => ?_⟩
              rw [HC.out] at hW ⊢
              refine (ref_formula u.f1 HV.out W _ (k24.K_below hW KX.out)).mono ?_
              rintro e w2 ⟨rfl, hb2⟩
              exact ⟨by rw [H1.out], below_step hW hb2⟩
            simp only [Act.put, List.setIfInBounds_toArray, List.set_cons_zero, List.set_cons_succ]
            iterate 2
              refine q_ex rfl ?_
              apply Exists.intro
              refine ⟨fun W hW => ?_, ?_⟩
              · go_simp
                try rfl
              simp only [Act.put, List.setIfInBounds_toArray, List.set_cons_zero, List.set_cons_succ]
            intro W hW
            rw [HC.out] at hW
            have HB2 := Aside0.mk (below_step HB.out hW)
            clear hW HC g0 g1 g2 g3 g4 g5 z0 z1 z2 z3
            go_wp2_with fail
            go_roundw
            case rel => exact ⟨k + 1, _, d ++ [102, 97, 99, 116, 32] ++ u.f0.data.toList ++ [32, 123, 32] ++ txt u.f1 true ++ [32, 125, 10], by omega, by go_num, rfl, ⟨by rw [← mkS_app, ← mkS_app, ← mkS_app, ← mkS_app, ← mkS_app, mkS_data, HY.out, H1.out]; rfl⟩, ⟨by rw [← HE.out, HST.out, HFA.out]; simp⟩, HB2⟩
            case measure => simp [intOf]; omega
          have HD3 : Aside0 (d ++ (([] : List UInt8)) = specT x) := ⟨by rw [← HE.out, List.drop_of_length_le (by omega)]; simp [catT]⟩
          clear hy HE
          go_wp2_with fail
          clear z0 z1 z2 z3
          go_ret
          exact ⟨by rw [← HD3.out, List.append_nil, ← HY.out]; rfl, below_step HB0.out HB.out⟩
end Go.Proofs.YtgdiodhaihmnbaaDoor.Own
namespace Go.Proofs.YtgdiodhaihmnbaaDoor.Own
open Go.RowKit Go.Proofs.YtgdiodhaihmnbaaDoorW.PrintWords Go.Proofs.YtgdiodhaihmnbaaDoorW.PrintLast Go.Proofs.YtgdiodhaihmnbaaDoorW.PrintMore Go.Proofs.YtgdiodhaihmnbaaDoor.PPrinterMatchesReference
attribute [local go_sem high] eqA42 eqA47
set_option maxHeartbeats 4000000 in
set_option maxRecDepth 100000 in
theorem rints_walk (xs ys : List Int) (A B : Option Addr) (c d : Nat) (w : World) (hx : (Kd.int .i64).C w A xs.length xs) (hy : (Kd.int .i64).C w B ys.length ys) : Calls Tryd.prog 33 #[.slice A xs.length c, .slice B ys.length d] w (SaysB w (eqBy eqInt xs ys)) := by
  have hlx := row_len hx
  have hly := row_len hy
  have HX := Aside0.mk hx
  have HY := Aside0.mk hy
  have hu42 := Tryd.underlying42
  have hu47 := Tryd.underlying47
  clear hx hy
  by_cases hl : xs.length = ys.length
  · have hlb : ((xs.length : Int) != (ys.length : Int)) = false := by simp [hl]
    have HL := Aside0.mk hl
    clear hl
    go_enter Tryd.func33, Tryd.ntmps33
    go_wp2_with fail
    go_loopw [5] (fun v wr => ∃ k : Nat, k ≤ xs.length ∧ v = .int .i64 k ∧ Aside0 (eqBy eqInt (xs.drop k) (ys.drop k) = eqBy eqInt xs ys) ∧ Aside0 (Below w.heap.size w wr)) (fun v _ => xs.length - (intOf v).toNat)
    case atStart => exact ⟨0, Nat.zero_le _, rfl, ⟨by simp⟩, ⟨Below.refl _ _⟩⟩
    case round =>
      obtain ⟨k, hk, rfl, HE, HB⟩ := hrel
      by_cases hlt : k < xs.length
      · have hlt2 : (k : Int) < (ys.length : Int) := by have := HL.out; omega
        have hlt3 : k < ys.length := by have := HL.out; omega
        have HST := Aside0.mk (eqBy_step eqInt 0 xs ys k hlt (by have := HL.out; omega))
        obtain ⟨ad, e1, g0⟩ := int_at (Kd.C_below HX.out HB.out) k (by omega)
        cases e1
        obtain ⟨bd, e2, f0⟩ := int_at (Kd.C_below HY.out HB.out) k (by omega)
        cases e2
        obtain ⟨r, HR⟩ : ∃ r, Aside0 (eqInt (xs.getD k 0) (ys.getD k 0) = r) := ⟨_, ⟨rfl⟩⟩
        generalize xs.getD k 0 = u at *
        generalize ys.getD k 0 = v at *
        cases r
        · have hq : (u != v) = true := by have := HR.out; unfold eqInt at this; rw [bne, this]; rfl
          go_wp2_with fail
          go_quiet (fail)
          go_wp2_with fail
          go_ret
          exact ⟨by rw [← HE.out, HST.out, HR.out]; rfl, pw_below_drewN HB.out _⟩
        · have hq : (u != v) = false := by have := HR.out; unfold eqInt at this; rw [bne, this]; rfl
          go_wp2_with fail
          go_quiet (fail)
          go_wp2_with fail
          go_roundw
          case rel => exact ⟨k + 1, by omega, by go_num, ⟨by rw [← HE.out, HST.out, HR.out]; rfl⟩, ⟨pw_below_drewN HB.out _⟩⟩
          case measure => simp [intOf]; omega
      · have HF : Aside0 (eqBy eqInt xs ys = true) := ⟨by rw [← HE.out, List.drop_of_length_le (by omega), List.drop_of_length_le (by have := HL.out; omega)]; rfl⟩
        go_wp2_with fail
        go_ret
        exact ⟨by rw [HF.out]; rfl, HB.out⟩
  · have hlb : ((xs.length : Int) != (ys.length : Int)) = true := by rw [bne_iff_ne]; omega
    rw [eqBy_len _ _ _ hl]
    clear hl
    go_enter Tryd.func33, Tryd.ntmps33
    go_wp2_with fail
    go_ret
    exact ⟨rfl, Below.refl _ _⟩
set_option maxHeartbeats 4000000 in
set_option maxRecDepth 100000 in
theorem rparams_walk (xs ys : List S47) (A B : Option Addr) (c d : Nat) (w : World) (hx : k47.C w A xs.length xs) (hy : k47.C w B ys.length ys) : Calls Tryd.prog 34 #[.slice A xs.length c, .slice B ys.length d] w (SaysB w (eqBy eqParam xs ys)) := by
  have hlx := row_len hx
  have hly := row_len hy
  have HX := Aside0.mk hx
  have HY := Aside0.mk hy
  have hu42 := Tryd.underlying42
  have hu47 := Tryd.underlying47
  clear hx hy
  by_cases hl : xs.length = ys.length
  · have hlb : ((xs.length : Int) != (ys.length : Int)) = false := by simp [hl]
    have HL := Aside0.mk hl
    clear hl
    go_enter Tryd.func34, Tryd.ntmps34
    go_wp2_with fail
    go_loopw [5] (fun v wr => ∃ k : Nat, k ≤ xs.length ∧ v = .int .i64 k ∧ Aside0 (eqBy eqParam (xs.drop k) (ys.drop k) = eqBy eqParam xs ys) ∧ Aside0 (Below w.heap.size w wr)) (fun v _ => xs.length - (intOf v).toNat)
    case atStart => exact ⟨0, Nat.zero_le _, rfl, ⟨by simp⟩, ⟨Below.refl _ _⟩⟩
    case round =>
      obtain ⟨k, hk, rfl, HE, HB⟩ := hrel
      by_cases hlt : k < xs.length
      · have hlt2 : (k : Int) < (ys.length : Int) := by have := HL.out; omega
        have hlt3 : k < ys.length := by have := HL.out; omega
        have HST := Aside0.mk (eqBy_step eqParam z47 xs ys k hlt (by have := HL.out; omega))
        obtain ⟨ad, eg, g0, g1⟩ := at_T47 (Kd.C_below HX.out HB.out) k (by omega) (by omega)
        cases eg
        simp only [Int.toNat_natCast] at g0 g1
        change _ = some (Value.string (xs.getD k z47).f0) at g0
        change _ = some (Value.int .i64 (xs.getD k z47).f1) at g1
        obtain ⟨bd, ef, f0, f1⟩ := at_T47 (Kd.C_below HY.out HB.out) k (by omega) (by omega)
        cases ef
        simp only [Int.toNat_natCast] at f0 f1
        change _ = some (Value.string (ys.getD k z47).f0) at f0
        change _ = some (Value.int .i64 (ys.getD k z47).f1) at f1
        obtain ⟨r, HR⟩ : ∃ r, Aside0 (eqParam (xs.getD k z47) (ys.getD k z47) = r) := ⟨_, ⟨rfl⟩⟩
        generalize xs.getD k z47 = u at *
        generalize ys.getD k z47 = v at *
        cases r
        · have hq : (!(u.f0.toList == v.f0.toList && (u.f1 == v.f1))) = true := by have := HR.out; unfold eqParam at this; rw [this]; rfl
          go_wp2_with fail
          go_quiet (fail)
          go_wp2_with fail
          go_ret
          exact ⟨by rw [← HE.out, HST.out, HR.out]; rfl, pw_below_drewN HB.out _⟩
        · have hq : (!(u.f0.toList == v.f0.toList && (u.f1 == v.f1))) = false := by have := HR.out; unfold eqParam at this; rw [this]; rfl
          go_wp2_with fail
          go_quiet (fail)
          go_wp2_with fail
          go_roundw
          case rel => exact ⟨k + 1, by omega, by go_num, ⟨by rw [← HE.out, HST.out, HR.out]; rfl⟩, ⟨pw_below_drewN HB.out _⟩⟩
          case measure => simp [intOf]; omega
      · have HF : Aside0 (eqBy eqParam xs ys = true) := ⟨by rw [← HE.out, List.drop_of_length_le (by omega), List.drop_of_length_le (by have := HL.out; omega)]; rfl⟩
        go_wp2_with fail
        go_ret
        exact ⟨by rw [HF.out]; rfl, HB.out⟩
  · have hlb : ((xs.length : Int) != (ys.length : Int)) = true := by rw [bne_iff_ne]; omega
    rw [eqBy_len _ _ _ hl]
    clear hl
    go_enter Tryd.func34, Tryd.ntmps34
    go_wp2_with fail
    go_ret
    exact ⟨rfl, Below.refl _ _⟩
set_option maxHeartbeats 4000000 in
set_option maxRecDepth 100000 in
theorem reqSpec_walk (x y : SpD) (w : World) (cx cy : List Value) (hx : SpK w x cx) (hy : SpK w y cy) : Calls Tryd.prog 11 #[.agg cx.toArray, .agg cy.toArray] w (SaysB w (eqSpec x y)) := by
  obtain ⟨A0, A1, A2, A3, c0, c1, c2, c3, rfl, x0, x1, x2, x3⟩ := hx
  obtain ⟨B0, B1, B2, B3, d0, d1, d2, d3, rfl, y0, y1, y2, y3⟩ := hy
  have X0 := Aside0.mk x0
  have Y0 := Aside0.mk y0
  have lx0 := row_len x0
  have ly0 := row_len y0
  have X1 := Aside0.mk x1
  have Y1 := Aside0.mk y1
  have lx1 := row_len x1
  have ly1 := row_len y1
  have X2 := Aside0.mk x2
  have Y2 := Aside0.mk y2
  have lx2 := row_len x2
  have ly2 := row_len y2
  have X3 := Aside0.mk x3
  have Y3 := Aside0.mk y3
  have lx3 := row_len x3
  have ly3 := row_len y3
  have hu30 := Tryd.underlying30
  have hu42 := Tryd.underlying42
  have hu45 := Tryd.underlying45
  have hu47 := Tryd.underlying47
  have hu50 := Tryd.underlying50
  have hu52 := Tryd.underlying52
  have hu24 := Tryd.underlying24
  clear x0 x1 x2 x3 y0 y1 y2 y3
  have HE : Aside0 (eqSpec x y = (eqBy eqSort x.so y.so && eqBy eqFld x.fi y.fi && eqBy eqPred x.pr y.pr && eqBy eqFact x.fa y.fa)) := ⟨rfl⟩
  by_cases hl0 : x.so.length ≠ y.so.length
  · have hb0 : ((x.so.length : Int) != (y.so.length : Int)) = true := by rw [bne_iff_ne]; omega
    have HF : Aside0 (eqSpec x y = false) := ⟨by rw [HE.out, eqBy_len _ _ _ hl0]; simp⟩
    clear hl0
    go_enter Tryd.func11, Tryd.ntmps11
    go_wp2_with fail
    go_ret
    exact ⟨by rw [HF.out]; rfl, by repeat (first | exact Below.refl _ _ | apply below_alloc)⟩
  have hb0 : ((x.so.length : Int) != (y.so.length : Int)) = false := by simp; omega
  have HL0 : Aside0 (x.so.length = y.so.length) := ⟨by omega⟩
  clear hl0
  by_cases hl1 : x.fi.length ≠ y.fi.length
  · have hb1 : ((x.fi.length : Int) != (y.fi.length : Int)) = true := by rw [bne_iff_ne]; omega
    have HF : Aside0 (eqSpec x y = false) := ⟨by rw [HE.out, eqBy_len _ _ _ hl1]; simp⟩
    clear hl1
    go_enter Tryd.func11, Tryd.ntmps11
    go_wp2_with fail
    go_ret
    exact ⟨by rw [HF.out]; rfl, by repeat (first | exact Below.refl _ _ | apply below_alloc)⟩
  have hb1 : ((x.fi.length : Int) != (y.fi.length : Int)) = false := by simp; omega
  have HL1 : Aside0 (x.fi.length = y.fi.length) := ⟨by omega⟩
  clear hl1
  by_cases hl2 : x.pr.length ≠ y.pr.length
  · have hb2 : ((x.pr.length : Int) != (y.pr.length : Int)) = true := by rw [bne_iff_ne]; omega
    have HF : Aside0 (eqSpec x y = false) := ⟨by rw [HE.out, eqBy_len _ _ _ hl2]; simp⟩
    clear hl2
    go_enter Tryd.func11, Tryd.ntmps11
    go_wp2_with fail
    go_ret
    exact ⟨by rw [HF.out]; rfl, by repeat (first | exact Below.refl _ _ | apply below_alloc)⟩
  have hb2 : ((x.pr.length : Int) != (y.pr.length : Int)) = false := by simp; omega
  have HL2 : Aside0 (x.pr.length = y.pr.length) := ⟨by omega⟩
  clear hl2
  by_cases hl3 : x.fa.length ≠ y.fa.length
  · have hb3 : ((x.fa.length : Int) != (y.fa.length : Int)) = true := by rw [bne_iff_ne]; omega
    have HF : Aside0 (eqSpec x y = false) := ⟨by rw [HE.out, eqBy_len _ _ _ hl3]; simp⟩
    clear hl3
    go_enter Tryd.func11, Tryd.ntmps11
    go_wp2_with fail
    go_ret
    exact ⟨by rw [HF.out]; rfl, by repeat (first | exact Below.refl _ _ | apply below_alloc)⟩
  have hb3 : ((x.fa.length : Int) != (y.fa.length : Int)) = false := by simp; omega
  have HL3 : Aside0 (x.fa.length = y.fa.length) := ⟨by omega⟩
  clear hl3
  go_enter Tryd.func11, Tryd.ntmps11
  go_wp2_with fail
  have HBX := Aside0.mk (blk_alloc (blk_new w (.cells #[.slice A0 x.so.length c0, .slice A1 x.fi.length c1, .slice A2 x.pr.length c2, .slice A3 x.fa.length c3] 30)) (.cells #[.slice B0 y.so.length d0, .slice B1 y.fi.length d1, .slice B2 y.pr.length d2, .slice B3 y.fa.length d3] 30))
  have HBY := Aside0.mk (blk_two w (.cells #[.slice A0 x.so.length c0, .slice A1 x.fi.length c1, .slice A2 x.pr.length c2, .slice A3 x.fa.length c3] 30) (.cells #[.slice B0 y.so.length d0, .slice B1 y.fi.length d1, .slice B2 y.pr.length d2, .slice B3 y.fa.length d3] 30))
  have HB0 : Aside0 (Below w.heap.size w ((w.alloc (.cells #[.slice A0 x.so.length c0, .slice A1 x.fi.length c1, .slice A2 x.pr.length c2, .slice A3 x.fa.length c3] 30)).alloc (.cells #[.slice B0 y.so.length d0, .slice B1 y.fi.length d1, .slice B2 y.pr.length d2, .slice B3 y.fa.length d3] 30))) := ⟨below_alloc (below_alloc (Below.refl _ _) _) _⟩
  obtain ⟨w1, HW1⟩ : ∃ w1, w1 = ((w.alloc (.cells #[.slice A0 x.so.length c0, .slice A1 x.fi.length c1, .slice A2 x.pr.length c2, .slice A3 x.fa.length c3] 30)).alloc (.cells #[.slice B0 y.so.length d0, .slice B1 y.fi.length d1, .slice B2 y.pr.length d2, .slice B3 y.fa.length d3] 30)) := ⟨_, rfl⟩
  rw [← HW1] at HBX HBY HB0 ⊢
  clear HW1
  go_loopw [5] (fun v wr => ∃ k : Nat, k ≤ x.so.length ∧ v = .int .i64 k ∧ Aside0 (eqBy eqSort (x.so.drop k) (y.so.drop k) = eqBy eqSort x.so y.so) ∧ Aside0 (Below w1.heap.size w1 wr)) (fun v _ => x.so.length - (intOf v).toNat)
  case atStart => exact ⟨0, Nat.zero_le _, rfl, ⟨by simp⟩, ⟨Below.refl _ _⟩⟩
  case round =>
    obtain ⟨k0, hk0, rfl, HE0, HBW⟩ := hrel
    have zx := blk_cell (blk_below HBX.out HBW.out) 0
    have zy := blk_cell (blk_below HBY.out HBW.out) 0
    by_cases hlt : k0 < x.so.length
    · have hlt2 : (k0 : Int) < (y.so.length : Int) := by have := HL0.out; omega
      have hlt3 : k0 < y.so.length := by have := HL0.out; omega
      have HST := Aside0.mk (eqBy_step eqSort z42 x.so y.so k0 hlt hlt3)
      obtain ⟨ad, e1, g0, g1⟩ := at_T42 (Kd.C_below X0.out (below_step HB0.out HBW.out)) k0 (by omega) (by omega)
      obtain ⟨bd, e2, f0, f1⟩ := at_T42 (Kd.C_below Y0.out (below_step HB0.out HBW.out)) k0 (by omega) (by omega)
      cases e1
      cases e2
      simp only [Int.toNat_natCast, rd_T42] at g0 g1 f0 f1
      obtain ⟨q, HQ⟩ : ∃ q, Aside0 (eqSort (x.so.getD k0 z42) (y.so.getD k0 z42) = q) := ⟨_, ⟨rfl⟩⟩
      have HF0 : q = false → Aside0 (eqSpec x y = false) := fun h => ⟨by rw [HE.out, ← HE0.out, HST.out, HQ.out, h]; simp⟩
      have HN : q = true → Aside0 (eqBy eqSort (x.so.drop (k0 + 1)) (y.so.drop (k0 + 1)) = eqBy eqSort x.so y.so) := fun h => ⟨by rw [← HE0.out, HST.out, HQ.out, h]; rfl⟩
      clear HST
      generalize x.so.getD k0 z42 = u at *
      generalize y.so.getD k0 z42 = v at *
      cases q
      · have hq : (!(u.f0.toList == v.f0.toList && (u.f1 == v.f1))) = true := by have := HQ.out; unfold eqSort at this; rw [this]; rfl
        have HF := HF0 rfl
        clear HF0 HN
        go_wp2_with fail
        go_quiet (fail)
        go_wp2_with fail
        go_ret
        exact ⟨by rw [HF.out]; rfl, below_step HB0.out (pw_below_drewN HBW.out _)⟩
      · have hq : (!(u.f0.toList == v.f0.toList && (u.f1 == v.f1))) = false := by have := HQ.out; unfold eqSort at this; rw [this]; rfl
        have HN1 := HN rfl
        clear HF0 HN
        go_wp2_with fail
        go_quiet (fail)
        go_wp2_with fail
        go_roundw
        case rel => exact ⟨k0 + 1, by omega, by go_num, HN1, ⟨pw_below_drewN HBW.out _⟩⟩
        case measure => simp [intOf]; omega
    have HD0 : Aside0 (eqBy eqSort x.so y.so = true) := ⟨by rw [← HE0.out, List.drop_of_length_le (by omega), List.drop_of_length_le (by have := HL0.out; omega)]; rfl⟩
    have HB0w := HBW
    clear HBW HE0
    go_wp2_with fail
    go_loopw [6] (fun v wr => ∃ k : Nat, k ≤ x.fi.length ∧ v = .int .i64 k ∧ Aside0 (eqBy eqFld (x.fi.drop k) (y.fi.drop k) = eqBy eqFld x.fi y.fi) ∧ Aside0 (Below w1.heap.size w1 wr)) (fun v _ => x.fi.length - (intOf v).toNat)
    case atStart => exact ⟨0, Nat.zero_le _, rfl, ⟨by simp⟩, ⟨HB0w.out⟩⟩
    case round =>
      obtain ⟨k1, hk1, rfl, HE1, HBW⟩ := hrel
      have zx := blk_cell (blk_below HBX.out HBW.out) 1
      have zy := blk_cell (blk_below HBY.out HBW.out) 1
      by_cases hlt : k1 < x.fi.length
      · have hlt2 : (k1 : Int) < (y.fi.length : Int) := by have := HL1.out; omega
        have hlt3 : k1 < y.fi.length := by have := HL1.out; omega
        have HST := Aside0.mk (eqBy_step eqFld z45 x.fi y.fi k1 hlt hlt3)
        obtain ⟨ad, A4, c4, e1, g0, g1, g2, gl, gi⟩ := at_T45 (Kd.C_below X1.out (below_step HB0.out HBW.out)) k1 (by omega) (by omega)
        obtain ⟨bd, B4, d4, e2, f0, f1, f2, fl, fi⟩ := at_T45 (Kd.C_below Y1.out (below_step HB0.out HBW.out)) k1 (by omega) (by omega)
        cases e1
        cases e2
        simp only [Int.toNat_natCast, rd_T45] at g0 g1 g2 f0 f1 f2 gl gi fl fi
        obtain ⟨q, HQ⟩ : ∃ q, Aside0 (eqFld (x.fi.getD k1 z45) (y.fi.getD k1 z45) = q) := ⟨_, ⟨rfl⟩⟩
        have HF0 : q = false → Aside0 (eqSpec x y = false) := fun h => ⟨by rw [HE.out, ← HE1.out, HST.out, HQ.out, h]; simp⟩
        have HN : q = true → Aside0 (eqBy eqFld (x.fi.drop (k1 + 1)) (y.fi.drop (k1 + 1)) = eqBy eqFld x.fi y.fi) := fun h => ⟨by rw [← HE1.out, HST.out, HQ.out, h]; rfl⟩
        clear HST
        generalize x.fi.getD k1 z45 = u at *
        generalize y.fi.getD k1 z45 = v at *
        have Agi := Aside0.mk gi
        have Afi := Aside0.mk fi
        clear gl gi fl fi
        go_wp2_with fail
        obtain ⟨C10, hC10e⟩ : ∃ C : World → Prop, C = fun W => Below wr.heap.size wr W := ⟨_, rfl⟩
        have HC10 := Aside0.mk hC10e
        clear hC10e
        refine wp_quiet_tail C10 12 (by kernel_rfl) (by kernel_rfl) (by rw [HC10.out]; exact below_drew1 (Below.refl _ _)) ?_
        simp only [List.take_succ_cons, List.take_zero, List.drop_succ_cons, List.drop_zero]
        iterate 12
          refine q_ex rfl ?_
          apply Exists.intro
          refine ⟨fun W hW => ?_, ?_⟩
          · have p3 : Below wr.heap.size wr W := by rw [HC10.out] at hW; exact hW
            replace g0 := pw_cell_below p3 g0
            replace g1 := pw_cell_below p3 g1
            replace g2 := pw_cell_below p3 g2
            replace f0 := pw_cell_below p3 f0
            replace f1 := pw_cell_below p3 f1
            replace f2 := pw_cell_below p3 f2
            replace zx := pw_cell_below p3 zx
            replace zy := pw_cell_below p3 zy
            clear p3
            go_simp
            try rfl
          simp only [Act.put, List.setIfInBounds_toArray, List.set_cons_zero, List.set_cons_succ]
        intro WC10 hW
        rw [HC10.out] at hW
        have HQC10 := Aside0.mk hW
        replace g0 := pw_cell_below hW g0
        replace g1 := pw_cell_below hW g1
        replace g2 := pw_cell_below hW g2
        replace f0 := pw_cell_below hW f0
        replace f1 := pw_cell_below hW f1
        replace f2 := pw_cell_below hW f2
        replace zx := pw_cell_below hW zx
        replace zy := pw_cell_below hW zy
        clear hW HC10
        go_wp2_with fail
        have HBC10 := Aside0.mk (below_step HBW.out HQC10.out)
        obtain ⟨r0, HR0⟩ : ∃ r, Aside0 ((eqBy eqInt u.f1 v.f1) = r) := ⟨_, ⟨rfl⟩⟩
        refine (rints_walk u.f1 v.f1 _ _ _ _ _ (Kd.C_below Agi.out HQC10.out) (Kd.C_below Afi.out HQC10.out)).mono ?_
        rintro e ww0 ⟨rfl, hb2⟩
        rw [HR0.out]
        replace g0 := pw_cell_below hb2 g0
        replace g1 := pw_cell_below hb2 g1
        replace g2 := pw_cell_below hb2 g2
        replace f0 := pw_cell_below hb2 f0
        replace f1 := pw_cell_below hb2 f1
        replace f2 := pw_cell_below hb2 f2
        replace zx := pw_cell_below hb2 zx
        replace zy := pw_cell_below hb2 zy
        have HB20 := Aside0.mk (below_step HBC10.out hb2)
        have HS0 := Aside0.mk (below_step HQC10.out hb2)
        clear hb2
        go_wp2_with fail
        obtain ⟨nm, HNM⟩ : ∃ b, Aside0 ((u.f0.toList == v.f0.toList) = b) := ⟨_, ⟨rfl⟩⟩
        have hnm : (u.f0.toList != v.f0.toList) = !nm := by rw [bne, HNM.out]
        have hnb : (u.f0.toList == v.f0.toList) = nm := HNM.out
        have hq : (nm && (u.f2 == v.f2) && r0) = q := by rw [← HQ.out, eqFld, HNM.out, HR0.out]
        clear HQ
        generalize u.f2 = b1 at *
        generalize v.f2 = b2 at *
        cases r0
        · skip
          have HF := HF0 (by rw [← hq]; simp)
          clear hq HF0 HN
          try simp only [Bool.not_true, Bool.not_false] at hnm
          go_quiet (fail)
          go_wp2_with fail
          go_ret
          exact ⟨by rw [HF.out]; rfl, below_step HB0.out (pw_below_drewN HB20.out _)⟩
        cases nm
        · skip
          have HF := HF0 (by rw [← hq]; simp)
          clear hq HF0 HN
          try simp only [Bool.not_true, Bool.not_false] at hnm
          go_quiet (fail)
          go_wp2_with fail
          go_ret
          exact ⟨by rw [HF.out]; rfl, below_step HB0.out (pw_below_drewN HB20.out _)⟩
        cases b1
        · cases b2
          · skip
            have HN1 := HN (by rw [← hq]; rfl)
            clear hq HF0 HN
            simp only [Bool.not_true] at hnm
            go_quiet (fail)
            go_wp2_with fail
            go_roundw
            case rel => exact ⟨k1 + 1, by omega, by go_num, HN1, ⟨pw_below_drewN HB20.out _⟩⟩
            case measure => simp [intOf]; omega
          · skip
            have HF := HF0 (by rw [← hq]; simp)
            clear hq HF0 HN
            try simp only [Bool.not_true, Bool.not_false] at hnm
            go_quiet (fail)
            go_wp2_with fail
            go_ret
            exact ⟨by rw [HF.out]; rfl, below_step HB0.out (pw_below_drewN HB20.out _)⟩
        · cases b2
          · skip
            have HF := HF0 (by rw [← hq]; simp)
            clear hq HF0 HN
            try simp only [Bool.not_true, Bool.not_false] at hnm
            go_quiet (fail)
            go_wp2_with fail
            go_ret
            exact ⟨by rw [HF.out]; rfl, below_step HB0.out (pw_below_drewN HB20.out _)⟩
          · skip
            have HN1 := HN (by rw [← hq]; rfl)
            clear hq HF0 HN
            simp only [Bool.not_true] at hnm
            go_quiet (fail)
            go_wp2_with fail
            go_roundw
            case rel => exact ⟨k1 + 1, by omega, by go_num, HN1, ⟨pw_below_drewN HB20.out _⟩⟩
            case measure => simp [intOf]; omega
      have HD1 : Aside0 (eqBy eqFld x.fi y.fi = true) := ⟨by rw [← HE1.out, List.drop_of_length_le (by omega), List.drop_of_length_le (by have := HL1.out; omega)]; rfl⟩
      have HB1w := HBW
      clear HBW HE1
      go_wp2_with fail
      go_loopw [8] (fun v wr => ∃ k : Nat, k ≤ x.pr.length ∧ v = .int .i64 k ∧ Aside0 (eqBy eqPred (x.pr.drop k) (y.pr.drop k) = eqBy eqPred x.pr y.pr) ∧ Aside0 (Below w1.heap.size w1 wr)) (fun v _ => x.pr.length - (intOf v).toNat)
      case atStart => exact ⟨0, Nat.zero_le _, rfl, ⟨by simp⟩, ⟨HB1w.out⟩⟩
      case round =>
        obtain ⟨k2, hk2, rfl, HE2, HBW⟩ := hrel
        have zx := blk_cell (blk_below HBX.out HBW.out) 2
        have zy := blk_cell (blk_below HBY.out HBW.out) 2
        by_cases hlt : k2 < x.pr.length
        · have hlt2 : (k2 : Int) < (y.pr.length : Int) := by have := HL2.out; omega
          have hlt3 : k2 < y.pr.length := by have := HL2.out; omega
          have HST := Aside0.mk (eqBy_step eqPred z50 x.pr y.pr k2 hlt hlt3)
          obtain ⟨ad, A4, c4, A5, c5, e1, g0, g1, g2, g3, g4, g5, g6, gl, gi, gm, gj⟩ := at_T50 (Kd.C_below X2.out (below_step HB0.out HBW.out)) k2 (by omega) (by omega)
          obtain ⟨bd, B4, d4, B5, d5, e2, f0, f1, f2, f3, f4, f5, f6, fl, fi, fm, fj⟩ := at_T50 (Kd.C_below Y2.out (below_step HB0.out HBW.out)) k2 (by omega) (by omega)
          cases e1
          cases e2
          simp only [Int.toNat_natCast, rd_T50] at g0 g1 g2 g3 g4 g5 g6 f0 f1 f2 f3 f4 f5 f6 gl gi gm gj fl fi fm fj
          obtain ⟨q, HQ⟩ : ∃ q, Aside0 (eqPred (x.pr.getD k2 z50) (y.pr.getD k2 z50) = q) := ⟨_, ⟨rfl⟩⟩
          have HF0 : q = false → Aside0 (eqSpec x y = false) := fun h => ⟨by rw [HE.out, ← HE2.out, HST.out, HQ.out, h]; simp⟩
          have HN : q = true → Aside0 (eqBy eqPred (x.pr.drop (k2 + 1)) (y.pr.drop (k2 + 1)) = eqBy eqPred x.pr y.pr) := fun h => ⟨by rw [← HE2.out, HST.out, HQ.out, h]; rfl⟩
          clear HST
          generalize x.pr.getD k2 z50 = u at *
          generalize y.pr.getD k2 z50 = v at *
          have KX := k24_mk wr u.f2 gm gj
          have KY := k24_mk wr v.f2 fm fj
          have Agi := Aside0.mk gi
          have Afi := Aside0.mk fi
          have AKX := Aside0.mk KX
          have AKY := Aside0.mk KY
          clear gl gi gm gj fl fi fm fj KX KY
          go_wp2_with fail
          obtain ⟨C20, hC20e⟩ : ∃ C : World → Prop, C = fun W => Below wr.heap.size wr W := ⟨_, rfl⟩
          have HC20 := Aside0.mk hC20e
          clear hC20e
          refine wp_quiet_tail C20 12 (by kernel_rfl) (by kernel_rfl) (by rw [HC20.out]; exact below_drew1 (Below.refl _ _)) ?_
          simp only [List.take_succ_cons, List.take_zero, List.drop_succ_cons, List.drop_zero]
          iterate 12
            refine q_ex rfl ?_
            apply Exists.intro
            refine ⟨fun W hW => ?_, ?_⟩
            · have p3 : Below wr.heap.size wr W := by rw [HC20.out] at hW; exact hW
              replace g0 := pw_cell_below p3 g0
              replace g1 := pw_cell_below p3 g1
              replace g2 := pw_cell_below p3 g2
              replace g3 := pw_cell_below p3 g3
              replace g4 := pw_cell_below p3 g4
              replace g5 := pw_cell_below p3 g5
              replace g6 := pw_cell_below p3 g6
              replace f0 := pw_cell_below p3 f0
              replace f1 := pw_cell_below p3 f1
              replace f2 := pw_cell_below p3 f2
              replace f3 := pw_cell_below p3 f3
              replace f4 := pw_cell_below p3 f4
              replace f5 := pw_cell_below p3 f5
              replace f6 := pw_cell_below p3 f6
              replace zx := pw_cell_below p3 zx
              replace zy := pw_cell_below p3 zy
              clear p3
              go_simp
              try rfl
            simp only [Act.put, List.setIfInBounds_toArray, List.set_cons_zero, List.set_cons_succ]
          intro WC20 hW
          rw [HC20.out] at hW
          have HQC20 := Aside0.mk hW
          replace g0 := pw_cell_below hW g0
          replace g1 := pw_cell_below hW g1
          replace g2 := pw_cell_below hW g2
          replace g3 := pw_cell_below hW g3
          replace g4 := pw_cell_below hW g4
          replace g5 := pw_cell_below hW g5
          replace g6 := pw_cell_below hW g6
          replace f0 := pw_cell_below hW f0
          replace f1 := pw_cell_below hW f1
          replace f2 := pw_cell_below hW f2
          replace f3 := pw_cell_below hW f3
          replace f4 := pw_cell_below hW f4
          replace f5 := pw_cell_below hW f5
          replace f6 := pw_cell_below hW f6
          replace zx := pw_cell_below hW zx
          replace zy := pw_cell_below hW zy
          clear hW HC20
          go_wp2_with fail
          have HBC20 := Aside0.mk (below_step HBW.out HQC20.out)
          obtain ⟨r0, HR0⟩ : ∃ r, Aside0 ((eqBy eqParam u.f1 v.f1) = r) := ⟨_, ⟨rfl⟩⟩
          refine (rparams_walk u.f1 v.f1 _ _ _ _ _ (Kd.C_below Agi.out HQC20.out) (Kd.C_below Afi.out HQC20.out)).mono ?_
          rintro e ww0 ⟨rfl, hb2⟩
          rw [HR0.out]
          replace g0 := pw_cell_below hb2 g0
          replace g1 := pw_cell_below hb2 g1
          replace g2 := pw_cell_below hb2 g2
          replace g3 := pw_cell_below hb2 g3
          replace g4 := pw_cell_below hb2 g4
          replace g5 := pw_cell_below hb2 g5
          replace g6 := pw_cell_below hb2 g6
          replace f0 := pw_cell_below hb2 f0
          replace f1 := pw_cell_below hb2 f1
          replace f2 := pw_cell_below hb2 f2
          replace f3 := pw_cell_below hb2 f3
          replace f4 := pw_cell_below hb2 f4
          replace f5 := pw_cell_below hb2 f5
          replace f6 := pw_cell_below hb2 f6
          replace zx := pw_cell_below hb2 zx
          replace zy := pw_cell_below hb2 zy
          have HB20 := Aside0.mk (below_step HBC20.out hb2)
          have HS0 := Aside0.mk (below_step HQC20.out hb2)
          clear hb2
          go_wp2_with fail
          obtain ⟨C21, hC21e⟩ : ∃ C : World → Prop, C = fun W => Below ww0.heap.size ww0 W := ⟨_, rfl⟩
          have HC21 := Aside0.mk hC21e
          clear hC21e
          refine wp_quiet_tail C21 12 (by kernel_rfl) (by kernel_rfl) (by rw [HC21.out]; exact below_drew1 (Below.refl _ _)) ?_
          simp only [List.take_succ_cons, List.take_zero, List.drop_succ_cons, List.drop_zero]
          iterate 12
            refine q_ex rfl ?_
            apply Exists.intro
            refine ⟨fun W hW => ?_, ?_⟩
            · have p3 : Below ww0.heap.size ww0 W := by rw [HC21.out] at hW; exact hW
              replace g0 := pw_cell_below p3 g0
              replace g1 := pw_cell_below p3 g1
              replace g2 := pw_cell_below p3 g2
              replace g3 := pw_cell_below p3 g3
              replace g4 := pw_cell_below p3 g4
              replace g5 := pw_cell_below p3 g5
              replace g6 := pw_cell_below p3 g6
              replace f0 := pw_cell_below p3 f0
              replace f1 := pw_cell_below p3 f1
              replace f2 := pw_cell_below p3 f2
              replace f3 := pw_cell_below p3 f3
              replace f4 := pw_cell_below p3 f4
              replace f5 := pw_cell_below p3 f5
              replace f6 := pw_cell_below p3 f6
              replace zx := pw_cell_below p3 zx
              replace zy := pw_cell_below p3 zy
              clear p3
              go_simp
              try rfl
            simp only [Act.put, List.setIfInBounds_toArray, List.set_cons_zero, List.set_cons_succ]
          intro WC21 hW
          rw [HC21.out] at hW
          have HQC21 := Aside0.mk hW
          replace g0 := pw_cell_below hW g0
          replace g1 := pw_cell_below hW g1
          replace g2 := pw_cell_below hW g2
          replace g3 := pw_cell_below hW g3
          replace g4 := pw_cell_below hW g4
          replace g5 := pw_cell_below hW g5
          replace g6 := pw_cell_below hW g6
          replace f0 := pw_cell_below hW f0
          replace f1 := pw_cell_below hW f1
          replace f2 := pw_cell_below hW f2
          replace f3 := pw_cell_below hW f3
          replace f4 := pw_cell_below hW f4
          replace f5 := pw_cell_below hW f5
          replace f6 := pw_cell_below hW f6
          replace zx := pw_cell_below hW zx
          replace zy := pw_cell_below hW zy
          clear hW HC21
          go_wp2_with fail
          have HBC21 := Aside0.mk (below_step HB20.out HQC21.out)
          obtain ⟨r1, HR1⟩ : ∃ r, Aside0 ((eqN u.f2 v.f2) = r) := ⟨_, ⟨rfl⟩⟩
          refine (reqN_walk _ u.f2 v.f2 _ _ _ (Nat.lt_succ_self _) (k24.K_below (below_step HS0.out HQC21.out) AKX.out) (k24.K_below (below_step HS0.out HQC21.out) AKY.out)).mono ?_
          rintro e ww1 ⟨rfl, hb2⟩
          rw [HR1.out]
          replace g0 := pw_cell_below hb2 g0
          replace g1 := pw_cell_below hb2 g1
          replace g2 := pw_cell_below hb2 g2
          replace g3 := pw_cell_below hb2 g3
          replace g4 := pw_cell_below hb2 g4
          replace g5 := pw_cell_below hb2 g5
          replace g6 := pw_cell_below hb2 g6
          replace f0 := pw_cell_below hb2 f0
          replace f1 := pw_cell_below hb2 f1
          replace f2 := pw_cell_below hb2 f2
          replace f3 := pw_cell_below hb2 f3
          replace f4 := pw_cell_below hb2 f4
          replace f5 := pw_cell_below hb2 f5
          replace f6 := pw_cell_below hb2 f6
          replace zx := pw_cell_below hb2 zx
          replace zy := pw_cell_below hb2 zy
          have HB21 := Aside0.mk (below_step HBC21.out hb2)
          clear hb2
          go_wp2_with fail
          obtain ⟨nm, HNM⟩ : ∃ b, Aside0 ((u.f0.toList == v.f0.toList) = b) := ⟨_, ⟨rfl⟩⟩
          have hnm : (u.f0.toList != v.f0.toList) = !nm := by rw [bne, HNM.out]
          have hnb : (u.f0.toList == v.f0.toList) = nm := HNM.out
          have hq : (nm && r0 && r1) = q := by rw [← HQ.out, eqPred, HNM.out, HR0.out, HR1.out]
          cases r0
          · skip
            have HF := HF0 (by rw [← hq]; simp)
            clear hq HF0 HN
            try simp only [Bool.not_true, Bool.not_false] at hnm
            go_quiet (fail)
            go_wp2_with fail
            go_ret
            exact ⟨by rw [HF.out]; rfl, below_step HB0.out (pw_below_drewN HB21.out _)⟩
          cases r1
          · skip
            have HF := HF0 (by rw [← hq]; simp)
            clear hq HF0 HN
            try simp only [Bool.not_true, Bool.not_false] at hnm
            go_quiet (fail)
            go_wp2_with fail
            go_ret
            exact ⟨by rw [HF.out]; rfl, below_step HB0.out (pw_below_drewN HB21.out _)⟩
          cases nm
          · skip
            have HF := HF0 (by rw [← hq]; simp)
            clear hq HF0 HN
            try simp only [Bool.not_true, Bool.not_false] at hnm
            go_quiet (fail)
            go_wp2_with fail
            go_ret
            exact ⟨by rw [HF.out]; rfl, below_step HB0.out (pw_below_drewN HB21.out _)⟩
          have HN1 := HN (by rw [← hq]; rfl)
          clear hq HF0 HN
          simp only [Bool.not_true] at hnm
          go_quiet (fail)
          go_wp2_with fail
          go_roundw
          case rel => exact ⟨k2 + 1, by omega, by go_num, HN1, ⟨pw_below_drewN HB21.out _⟩⟩
          case measure => simp [intOf]; omega
        have HD2 : Aside0 (eqBy eqPred x.pr y.pr = true) := ⟨by rw [← HE2.out, List.drop_of_length_le (by omega), List.drop_of_length_le (by have := HL2.out; omega)]; rfl⟩
        have HB2w := HBW
        clear HBW HE2
        go_wp2_with fail
        go_loopw [11] (fun v wr => ∃ k : Nat, k ≤ x.fa.length ∧ v = .int .i64 k ∧ Aside0 (eqBy eqFact (x.fa.drop k) (y.fa.drop k) = eqBy eqFact x.fa y.fa) ∧ Aside0 (Below w1.heap.size w1 wr)) (fun v _ => x.fa.length - (intOf v).toNat)
        case atStart => exact ⟨0, Nat.zero_le _, rfl, ⟨by simp⟩, ⟨HB2w.out⟩⟩
        case round =>
          obtain ⟨k3, hk3, rfl, HE3, HBW⟩ := hrel
          have zx := blk_cell (blk_below HBX.out HBW.out) 3
          have zy := blk_cell (blk_below HBY.out HBW.out) 3
          by_cases hlt : k3 < x.fa.length
          · have hlt2 : (k3 : Int) < (y.fa.length : Int) := by have := HL3.out; omega
            have hlt3 : k3 < y.fa.length := by have := HL3.out; omega
            have HST := Aside0.mk (eqBy_step eqFact z52 x.fa y.fa k3 hlt hlt3)
            obtain ⟨ad, A5, c5, e1, g0, g1, g2, g3, g4, g5, gm, gj⟩ := at_T52 (Kd.C_below X3.out (below_step HB0.out HBW.out)) k3 (by omega) (by omega)
            obtain ⟨bd, B5, d5, e2, f0, f1, f2, f3, f4, f5, fm, fj⟩ := at_T52 (Kd.C_below Y3.out (below_step HB0.out HBW.out)) k3 (by omega) (by omega)
            cases e1
            cases e2
            simp only [Int.toNat_natCast, rd_T52] at g0 g1 g2 g3 g4 g5 f0 f1 f2 f3 f4 f5 gm gj fm fj
            obtain ⟨q, HQ⟩ : ∃ q, Aside0 (eqFact (x.fa.getD k3 z52) (y.fa.getD k3 z52) = q) := ⟨_, ⟨rfl⟩⟩
            have HF0 : q = false → Aside0 (eqSpec x y = false) := fun h => ⟨by rw [HE.out, ← HE3.out, HST.out, HQ.out, h]; simp⟩
            have HN : q = true → Aside0 (eqBy eqFact (x.fa.drop (k3 + 1)) (y.fa.drop (k3 + 1)) = eqBy eqFact x.fa y.fa) := fun h => ⟨by rw [← HE3.out, HST.out, HQ.out, h]; rfl⟩
            clear HST
            generalize x.fa.getD k3 z52 = u at *
            generalize y.fa.getD k3 z52 = v at *
            have KX := k24_mk wr u.f1 gm gj
            have KY := k24_mk wr v.f1 fm fj
            have AKX := Aside0.mk KX
            have AKY := Aside0.mk KY
            clear gm gj fm fj KX KY
            go_wp2_with fail
            obtain ⟨C30, hC30e⟩ : ∃ C : World → Prop, C = fun W => Below wr.heap.size wr W := ⟨_, rfl⟩
            have HC30 := Aside0.mk hC30e
            clear hC30e
            refine wp_quiet_tail C30 12 (by kernel_rfl) (by kernel_rfl) (by rw [HC30.out]; exact below_drew1 (Below.refl _ _)) ?_
            simp only [List.take_succ_cons, List.take_zero, List.drop_succ_cons, List.drop_zero]
            iterate 12
              refine q_ex rfl ?_
              apply Exists.intro
              refine ⟨fun W hW => ?_, ?_⟩
              · have p3 : Below wr.heap.size wr W := by rw [HC30.out] at hW; exact hW
                replace g0 := pw_cell_below p3 g0
                replace g1 := pw_cell_below p3 g1
                replace g2 := pw_cell_below p3 g2
                replace g3 := pw_cell_below p3 g3
                replace g4 := pw_cell_below p3 g4
                replace g5 := pw_cell_below p3 g5
                replace f0 := pw_cell_below p3 f0
                replace f1 := pw_cell_below p3 f1
                replace f2 := pw_cell_below p3 f2
                replace f3 := pw_cell_below p3 f3
                replace f4 := pw_cell_below p3 f4
                replace f5 := pw_cell_below p3 f5
                replace zx := pw_cell_below p3 zx
                replace zy := pw_cell_below p3 zy
                clear p3
                go_simp
                try rfl
              simp only [Act.put, List.setIfInBounds_toArray, List.set_cons_zero, List.set_cons_succ]
            intro WC30 hW
            rw [HC30.out] at hW
            have HQC30 := Aside0.mk hW
            replace g0 := pw_cell_below hW g0
            replace g1 := pw_cell_below hW g1
            replace g2 := pw_cell_below hW g2
            replace g3 := pw_cell_below hW g3
            replace g4 := pw_cell_below hW g4
            replace g5 := pw_cell_below hW g5
            replace f0 := pw_cell_below hW f0
            replace f1 := pw_cell_below hW f1
            replace f2 := pw_cell_below hW f2
            replace f3 := pw_cell_below hW f3
            replace f4 := pw_cell_below hW f4
            replace f5 := pw_cell_below hW f5
            replace zx := pw_cell_below hW zx
            replace zy := pw_cell_below hW zy
            clear hW HC30
            go_wp2_with fail
            have HBC30 := Aside0.mk (below_step HBW.out HQC30.out)
            obtain ⟨r0, HR0⟩ : ∃ r, Aside0 ((eqN u.f1 v.f1) = r) := ⟨_, ⟨rfl⟩⟩
            refine (reqN_walk _ u.f1 v.f1 _ _ _ (Nat.lt_succ_self _) (k24.K_below HQC30.out AKX.out) (k24.K_below HQC30.out AKY.out)).mono ?_
            rintro e ww0 ⟨rfl, hb2⟩
            rw [HR0.out]
            replace g0 := pw_cell_below hb2 g0
            replace g1 := pw_cell_below hb2 g1
            replace g2 := pw_cell_below hb2 g2
            replace g3 := pw_cell_below hb2 g3
            replace g4 := pw_cell_below hb2 g4
            replace g5 := pw_cell_below hb2 g5
            replace f0 := pw_cell_below hb2 f0
            replace f1 := pw_cell_below hb2 f1
            replace f2 := pw_cell_below hb2 f2
            replace f3 := pw_cell_below hb2 f3
            replace f4 := pw_cell_below hb2 f4
            replace f5 := pw_cell_below hb2 f5
            replace zx := pw_cell_below hb2 zx
            replace zy := pw_cell_below hb2 zy
            have HB20 := Aside0.mk (below_step HBC30.out hb2)
            have HS0 := Aside0.mk (below_step HQC30.out hb2)
            clear hb2
            go_wp2_with fail
            obtain ⟨nm, HNM⟩ : ∃ b, Aside0 ((u.f0.toList == v.f0.toList) = b) := ⟨_, ⟨rfl⟩⟩
            have hnm : (u.f0.toList != v.f0.toList) = !nm := by rw [bne, HNM.out]
            have hnb : (u.f0.toList == v.f0.toList) = nm := HNM.out
            have hq : (nm && r0) = q := by rw [← HQ.out, eqFact, HNM.out, HR0.out]
            cases r0
            · skip
              have HF := HF0 (by rw [← hq]; simp)
              clear hq HF0 HN
              try simp only [Bool.not_true, Bool.not_false] at hnm
              go_quiet (fail)
              go_wp2_with fail
              go_ret
              exact ⟨by rw [HF.out]; rfl, below_step HB0.out (pw_below_drewN HB20.out _)⟩
            cases nm
            · skip
              have HF := HF0 (by rw [← hq]; simp)
              clear hq HF0 HN
              try simp only [Bool.not_true, Bool.not_false] at hnm
              go_quiet (fail)
              go_wp2_with fail
              go_ret
              exact ⟨by rw [HF.out]; rfl, below_step HB0.out (pw_below_drewN HB20.out _)⟩
            have HN1 := HN (by rw [← hq]; rfl)
            clear hq HF0 HN
            simp only [Bool.not_true] at hnm
            go_quiet (fail)
            go_wp2_with fail
            go_roundw
            case rel => exact ⟨k3 + 1, by omega, by go_num, HN1, ⟨pw_below_drewN HB20.out _⟩⟩
            case measure => simp [intOf]; omega
          have HD3 : Aside0 (eqBy eqFact x.fa y.fa = true) := ⟨by rw [← HE3.out, List.drop_of_length_le (by omega), List.drop_of_length_le (by have := HL3.out; omega)]; rfl⟩
          have HB3w := HBW
          clear HBW HE3
          go_wp2_with fail
          go_ret
          exact ⟨by rw [HE.out, HD0.out, HD1.out, HD2.out, HD3.out]; rfl, below_step HB0.out HB3w.out⟩
end Go.Proofs.YtgdiodhaihmnbaaDoor.Own
namespace Go.Proofs.YtgdiodhaihmnbaaDoor.Own
open Go.RowKit Go.Proofs.YtgdiodhaihmnbaaDoorW.PrintWords Go.Proofs.YtgdiodhaihmnbaaDoorW.PrintLast Go.Proofs.YtgdiodhaihmnbaaDoorW.PrintMore Go.Proofs.YtgdiodhaihmnbaaDoor.PPrinterMatchesReference
section
variable {P : Program} {ops : Array Oper} {C : World → Prop} {Q : Act → Prop} {a : Act} {o : Oper} {rest : List Oper}
/-- A call that its guard lets in. -/
theorem q_callG {v : Value} {f : FuncId} (hw : Region.wanted o (yielded ops a.tmps) = true) (h : ∃ args, (∀ w, C w → (execOp a.eval o).run P w = .ok (.enter f args) w) ∧ ∀ w, C w → Calls P f args w fun e w' => e = .returned v ∧ C w') (k : wpQuiet P ops C Q rest (a.put o.dst v)) : wpQuiet P ops C Q (o :: rest) a :=
  wpQuiet_step fun K hK => by
    obtain ⟨args, hrun, hc⟩ := h
    simp only [hw, if_true]
    exact ⟨v, fun w hw => by unfold Oper.quietAt; rw [hrun w hw]; exact ⟨rfl, hc w hw⟩, hK _ k⟩
end
/-- The four boxes that the law lays its arguments in. -/
theorem blk4 (w : World) (o1 o2 o3 o4 : Obj) : let w1 := (((w.alloc o1).alloc o2).alloc o3).alloc o4
    w1.heap[w.heap.size]? = some o1 ∧ w1.heap[w.heap.size + 1]? = some o2 ∧ w1.heap[w.heap.size + 2]? = some o3 ∧ w1.heap[w.heap.size + 3]? = some o4 := by
  have e1 : (w.alloc o1).heap.size = w.heap.size + 1 := by simp
  have e2 : ((w.alloc o1).alloc o2).heap.size = w.heap.size + 2 := by simp
  have e3 : (((w.alloc o1).alloc o2).alloc o3).heap.size = w.heap.size + 3 := by simp
  refine ⟨blk_alloc (blk_alloc (blk_alloc (blk_new w o1) _) _) _, ?_, ?_, ?_⟩
  · have := blk_alloc (blk_alloc (blk_new (w.alloc o1) o2) o3) o4; rwa [e1] at this
  · have := blk_alloc (blk_new ((w.alloc o1).alloc o2) o3) o4; rwa [e2] at this
  · have := blk_new (((w.alloc o1).alloc o2).alloc o3) o4; rwa [e3] at this
set_option maxHeartbeats 8000000 in
set_option maxRecDepth 100000 in
theorem match_walk (a b : S24) (x y : SpD) (ha : numOK a) (hx : SpN x) (w : World) (xa xb xx xy : List Value) (ka : k24.K w a xa) (kb : k24.K w b xb) (kx : SpK w x xx) (ky : SpK w y xy) (ht : Tab w)
    (hva : validB a = true → txt a true ≠ [] ∧ (txt a true).length ≤ most) (hsp : PrOK x → (∀ p ∈ x.pr, p.f1.length ≤ 20) → SpOK x ∧ RefOK x ∧ (specT x).length ≤ 100000000) :
    Calls Tryd.prog 3 #[.agg xa.toArray, .agg xb.toArray, .agg xx.toArray, .agg xy.toArray] w fun e w' => e = .returned (.bool true) ∧ Below w.heap.size w w' := by
  have HA := Aside0.mk ha
  have HX := Aside0.mk hx
  have KA := Aside0.mk ka
  have KB := Aside0.mk kb
  have KX := Aside0.mk kx
  have KY := Aside0.mk ky
  have HT := Aside0.mk ht
  have HVA := Aside0.mk hva
  have HSP := Aside0.mk hsp
  obtain ⟨A, ca, rfl, _, _⟩ := k24_open ka
  obtain ⟨B, cb, rfl, _, _⟩ := k24_open kb
  obtain ⟨A0, A1, A2, A3, c0, c1, c2, c3, rfl, _, _, _, _⟩ := kx
  obtain ⟨B0, B1, B2, B3, d0, d1, d2, d3, rfl, _, _, _, _⟩ := ky
  have hu24 := Tryd.underlying24
  have hu30 := Tryd.underlying30
  clear ha hx ka kb ht hva hsp
  obtain ⟨w1, HW1⟩ : ∃ w1, Aside0 (w1 = ((((w.alloc (.cells #[.int .i64 a.f0, .string a.f1, .int .i64 a.f2, .slice A a.f3.length ca, .int .i64 a.f4] 24)).alloc (.cells #[.int .i64 b.f0, .string b.f1, .int .i64 b.f2, .slice B b.f3.length cb, .int .i64 b.f4] 24)).alloc (.cells #[.slice A0 x.so.length c0, .slice A1 x.fi.length c1, .slice A2 x.pr.length c2, .slice A3 x.fa.length c3] 30)).alloc (.cells #[.slice B0 y.so.length d0, .slice B1 y.fi.length d1, .slice B2 y.pr.length d2, .slice B3 y.fa.length d3] 30))) := ⟨_, ⟨rfl⟩⟩
  have HB0 : Aside0 (Below w.heap.size w w1) := ⟨by rw [HW1.out]; exact below_alloc (below_alloc (below_alloc (below_alloc (Below.refl _ _) _) _) _) _⟩
  have HK : Aside0 (w1.heap[w.heap.size]? = some (.cells #[.int .i64 a.f0, .string a.f1, .int .i64 a.f2, .slice A a.f3.length ca, .int .i64 a.f4] 24 (0, 0)) ∧ w1.heap[w.heap.size + 1]? = some (.cells #[.int .i64 b.f0, .string b.f1, .int .i64 b.f2, .slice B b.f3.length cb, .int .i64 b.f4] 24 (0, 0)) ∧ w1.heap[w.heap.size + 2]? = some (.cells #[.slice A0 x.so.length c0, .slice A1 x.fi.length c1, .slice A2 x.pr.length c2, .slice A3 x.fa.length c3] 30 (0, 0)) ∧ w1.heap[w.heap.size + 3]? = some (.cells #[.slice B0 y.so.length d0, .slice B1 y.fi.length d1, .slice B2 y.pr.length d2, .slice B3 y.fa.length d3] 30 (0, 0))) := ⟨by rw [HW1.out]; exact blk4 w _ _ _ _⟩
  obtain ⟨⟨h1, h2, h3, h4⟩⟩ := HK
  have K1 := Aside0.mk h1
  have K2 := Aside0.mk h2
  have K3 := Aside0.mk h3
  have K4 := Aside0.mk h4
  clear h1 h2 h3 h4
  go_enter Tryd.func3, Tryd.ntmps3
  go_wp2_with fail
  rw [← HW1.out]
  clear HW1
  refine (head_walk w1 (HT.out.below HB0.out)).mono ?_
  rintro e v1 ⟨rfl, hb⟩
  have E1 := Aside0.mk hb
  clear hb
  have z10 := blk_cell (blk_below K1.out E1.out) 0
  have z11 := blk_cell (blk_below K1.out E1.out) 1
  have z12 := blk_cell (blk_below K1.out E1.out) 2
  have z13 := blk_cell (blk_below K1.out E1.out) 3
  have z14 := blk_cell (blk_below K1.out E1.out) 4
  go_wp2_with fail
  refine (small_walk a v1 _ (k24.K_below (below_step HB0.out E1.out) KA.out)).mono ?_
  rintro e v2 ⟨rfl, hb⟩
  have E2 := Aside0.mk (below_step E1.out hb)
  clear hb z10 z11 z12 z13 z14
  cases smallB a
  · go_wp2_with fail
    go_ret
    exact ⟨rfl, below_step HB0.out E2.out⟩
  have z20 := blk_cell (blk_below K2.out E2.out) 0
  have z21 := blk_cell (blk_below K2.out E2.out) 1
  have z22 := blk_cell (blk_below K2.out E2.out) 2
  have z23 := blk_cell (blk_below K2.out E2.out) 3
  have z24 := blk_cell (blk_below K2.out E2.out) 4
  go_wp2_with fail
  refine (small_walk b v2 _ (k24.K_below (below_step HB0.out E2.out) KB.out)).mono ?_
  rintro e v3 ⟨rfl, hb⟩
  have E3 := Aside0.mk (below_step E2.out hb)
  clear hb z20 z21 z22 z23 z24
  cases smallB b
  · go_wp2_with fail
    go_ret
    exact ⟨rfl, below_step HB0.out E3.out⟩
  have z30 := blk_cell (blk_below K3.out E3.out) 0
  have z31 := blk_cell (blk_below K3.out E3.out) 1
  have z32 := blk_cell (blk_below K3.out E3.out) 2
  have z33 := blk_cell (blk_below K3.out E3.out) 3
  go_wp2_with fail
  refine (modest_walk x v3 _ (KX.out.below (below_step HB0.out E3.out))).mono ?_
  rintro e v4 ⟨g3, rfl, hp, hb⟩
  have E4 := Aside0.mk (below_step E3.out hb)
  have P3 := Aside0.mk hp
  clear hp
  clear hb z30 z31 z32 z33
  cases g3
  · go_wp2_with fail
    go_ret
    exact ⟨rfl, below_step HB0.out E4.out⟩
  have z40 := blk_cell (blk_below K4.out E4.out) 0
  have z41 := blk_cell (blk_below K4.out E4.out) 1
  have z42 := blk_cell (blk_below K4.out E4.out) 2
  have z43 := blk_cell (blk_below K4.out E4.out) 3
  go_wp2_with fail
  refine (modest_walk y v4 _ (KY.out.below (below_step HB0.out E4.out))).mono ?_
  rintro e v5 ⟨g4, rfl, hp, hb⟩
  have E5 := Aside0.mk (below_step E4.out hb)
  have P4 := Aside0.mk hp
  clear hp
  clear hb z40 z41 z42 z43
  cases g4
  · go_wp2_with fail
    go_ret
    exact ⟨rfl, below_step HB0.out E5.out⟩
  go_wp2_with fail
  obtain ⟨q, HQ⟩ : ∃ q, Aside0 (eqN a b = q) := ⟨_, ⟨rfl⟩⟩
  obtain ⟨r, HR⟩ : ∃ q, Aside0 (eqSpec x y = q) := ⟨_, ⟨rfl⟩⟩
  have hqq : (q != q) = false := by cases q <;> rfl
  have hrr : (r != r) = false := by cases r <;> rfl
  have hq2 : (!(q == q)) = false := by cases q <;> rfl
  have hr2 : (!(r == r)) = false := by cases r <;> rfl
  obtain ⟨C5, hC5e⟩ : ∃ C : World → Prop, C = fun W => Below v5.heap.size v5 W := ⟨_, rfl⟩
  have HC5 := Aside0.mk hC5e
  clear hC5e
  refine wp_quiet_tail C5 15 (by kernel_rfl) (by kernel_rfl) (by rw [HC5.out]; exact below_drew1 (Below.refl _ _)) ?_
  simp only [List.take_succ_cons, List.take_zero, List.drop_succ_cons, List.drop_zero]
  refine q_ex rfl ?_
  apply Exists.intro
  refine ⟨fun W hW => ?_, ?_⟩
  · have p3 : Below v5.heap.size v5 W := by rw [HC5.out] at hW; exact hW
    have z10 := blk_cell (blk_below (blk_below K1.out E5.out) p3) 0
    have z11 := blk_cell (blk_below (blk_below K1.out E5.out) p3) 1
    have z12 := blk_cell (blk_below (blk_below K1.out E5.out) p3) 2
    have z13 := blk_cell (blk_below (blk_below K1.out E5.out) p3) 3
    have z14 := blk_cell (blk_below (blk_below K1.out E5.out) p3) 4
    clear p3
    go_simp
    try rfl
  simp only [Act.put, List.setIfInBounds_toArray, List.set_cons_zero, List.set_cons_succ]
  refine q_ex rfl ?_
  apply Exists.intro
  refine ⟨fun W hW => ?_, ?_⟩
  · have p3 : Below v5.heap.size v5 W := by rw [HC5.out] at hW; exact hW
    have z20 := blk_cell (blk_below (blk_below K2.out E5.out) p3) 0
    have z21 := blk_cell (blk_below (blk_below K2.out E5.out) p3) 1
    have z22 := blk_cell (blk_below (blk_below K2.out E5.out) p3) 2
    have z23 := blk_cell (blk_below (blk_below K2.out E5.out) p3) 3
    have z24 := blk_cell (blk_below (blk_below K2.out E5.out) p3) 4
    clear p3
    go_simp
    try rfl
  simp only [Act.put, List.setIfInBounds_toArray, List.set_cons_zero, List.set_cons_succ]
  refine q_callX (f := 8) (v := .bool q) rfl ?_ ?_
  · apply Exists.intro
    refine ⟨fun W hW => (by go_simp; try rfl), fun W hW => ?_⟩
    rw [HC5.out] at hW ⊢
    refine (eqN_walk _ a b W _ _ (Nat.lt_succ_self _) (k24.K_below (below_step HB0.out (below_step E5.out hW)) KA.out) (k24.K_below (below_step HB0.out (below_step E5.out hW)) KB.out)).mono ?_
    rintro e w2 ⟨rfl, hb⟩
    exact ⟨by rw [HQ.out], below_step hW hb⟩
  simp only [Act.put, List.setIfInBounds_toArray, List.set_cons_zero, List.set_cons_succ]
  refine q_ex rfl ?_
  apply Exists.intro
  refine ⟨fun W hW => ?_, ?_⟩
  · have p3 : Below v5.heap.size v5 W := by rw [HC5.out] at hW; exact hW
    have z10 := blk_cell (blk_below (blk_below K1.out E5.out) p3) 0
    have z11 := blk_cell (blk_below (blk_below K1.out E5.out) p3) 1
    have z12 := blk_cell (blk_below (blk_below K1.out E5.out) p3) 2
    have z13 := blk_cell (blk_below (blk_below K1.out E5.out) p3) 3
    have z14 := blk_cell (blk_below (blk_below K1.out E5.out) p3) 4
    clear p3
    go_simp
    try rfl
  simp only [Act.put, List.setIfInBounds_toArray, List.set_cons_zero, List.set_cons_succ]
  refine q_ex rfl ?_
  apply Exists.intro
  refine ⟨fun W hW => ?_, ?_⟩
  · have p3 : Below v5.heap.size v5 W := by rw [HC5.out] at hW; exact hW
    have z20 := blk_cell (blk_below (blk_below K2.out E5.out) p3) 0
    have z21 := blk_cell (blk_below (blk_below K2.out E5.out) p3) 1
    have z22 := blk_cell (blk_below (blk_below K2.out E5.out) p3) 2
    have z23 := blk_cell (blk_below (blk_below K2.out E5.out) p3) 3
    have z24 := blk_cell (blk_below (blk_below K2.out E5.out) p3) 4
    clear p3
    go_simp
    try rfl
  simp only [Act.put, List.setIfInBounds_toArray, List.set_cons_zero, List.set_cons_succ]
  refine q_callX (f := 9) (v := .bool q) rfl ?_ ?_
  · apply Exists.intro
    refine ⟨fun W hW => (by go_simp; try rfl), fun W hW => ?_⟩
    rw [HC5.out] at hW ⊢
    refine (reqN_walk _ a b W _ _ (Nat.lt_succ_self _) (k24.K_below (below_step HB0.out (below_step E5.out hW)) KA.out) (k24.K_below (below_step HB0.out (below_step E5.out hW)) KB.out)).mono ?_
    rintro e w2 ⟨rfl, hb⟩
    exact ⟨by rw [HQ.out], below_step hW hb⟩
  simp only [Act.put, List.setIfInBounds_toArray, List.set_cons_zero, List.set_cons_succ]
  refine q_ex rfl ?_
  apply Exists.intro
  refine ⟨fun W hW => ?_, ?_⟩
  · go_simp
    try rfl
  simp only [Act.put, List.setIfInBounds_toArray, List.set_cons_zero, List.set_cons_succ]
  refine q_ex rfl ?_
  apply Exists.intro
  refine ⟨fun W hW => ?_, ?_⟩
  · go_simp
    try rfl
  simp only [Act.put, List.setIfInBounds_toArray, List.set_cons_zero, List.set_cons_succ]
  refine q_on (by rfl) ?_
  apply Exists.intro
  refine ⟨fun W hW => ?_, ?_⟩
  · have p3 : Below v5.heap.size v5 W := by rw [HC5.out] at hW; exact hW
    have z30 := blk_cell (blk_below (blk_below K3.out E5.out) p3) 0
    have z31 := blk_cell (blk_below (blk_below K3.out E5.out) p3) 1
    have z32 := blk_cell (blk_below (blk_below K3.out E5.out) p3) 2
    have z33 := blk_cell (blk_below (blk_below K3.out E5.out) p3) 3
    clear p3
    go_simp
    try rfl
  simp only [Act.put, List.setIfInBounds_toArray, List.set_cons_zero, List.set_cons_succ]
  refine q_on (by rfl) ?_
  apply Exists.intro
  refine ⟨fun W hW => ?_, ?_⟩
  · have p3 : Below v5.heap.size v5 W := by rw [HC5.out] at hW; exact hW
    have z40 := blk_cell (blk_below (blk_below K4.out E5.out) p3) 0
    have z41 := blk_cell (blk_below (blk_below K4.out E5.out) p3) 1
    have z42 := blk_cell (blk_below (blk_below K4.out E5.out) p3) 2
    have z43 := blk_cell (blk_below (blk_below K4.out E5.out) p3) 3
    clear p3
    go_simp
    try rfl
  simp only [Act.put, List.setIfInBounds_toArray, List.set_cons_zero, List.set_cons_succ]
  refine q_callG (f := 10) (v := .bool r) (by rfl) ?_ ?_
  · apply Exists.intro
    refine ⟨fun W hW => (by go_simp; try rfl), fun W hW => ?_⟩
    rw [HC5.out] at hW ⊢
    refine (eqSpec_walk x y W _ _ (KX.out.below (below_step HB0.out (below_step E5.out hW))) (KY.out.below (below_step HB0.out (below_step E5.out hW)))).mono ?_
    rintro e w2 ⟨rfl, hb⟩
    exact ⟨by rw [HR.out], below_step hW hb⟩
  simp only [Act.put, List.setIfInBounds_toArray, List.set_cons_zero, List.set_cons_succ]
  refine q_on (by rfl) ?_
  apply Exists.intro
  refine ⟨fun W hW => ?_, ?_⟩
  · have p3 : Below v5.heap.size v5 W := by rw [HC5.out] at hW; exact hW
    have z30 := blk_cell (blk_below (blk_below K3.out E5.out) p3) 0
    have z31 := blk_cell (blk_below (blk_below K3.out E5.out) p3) 1
    have z32 := blk_cell (blk_below (blk_below K3.out E5.out) p3) 2
    have z33 := blk_cell (blk_below (blk_below K3.out E5.out) p3) 3
    clear p3
    go_simp
    try rfl
  simp only [Act.put, List.setIfInBounds_toArray, List.set_cons_zero, List.set_cons_succ]
  refine q_on (by rfl) ?_
  apply Exists.intro
  refine ⟨fun W hW => ?_, ?_⟩
  · have p3 : Below v5.heap.size v5 W := by rw [HC5.out] at hW; exact hW
    have z40 := blk_cell (blk_below (blk_below K4.out E5.out) p3) 0
    have z41 := blk_cell (blk_below (blk_below K4.out E5.out) p3) 1
    have z42 := blk_cell (blk_below (blk_below K4.out E5.out) p3) 2
    have z43 := blk_cell (blk_below (blk_below K4.out E5.out) p3) 3
    clear p3
    go_simp
    try rfl
  simp only [Act.put, List.setIfInBounds_toArray, List.set_cons_zero, List.set_cons_succ]
  refine q_callG (f := 11) (v := .bool r) (by rfl) ?_ ?_
  · apply Exists.intro
    refine ⟨fun W hW => (by go_simp; try rfl), fun W hW => ?_⟩
    rw [HC5.out] at hW ⊢
    refine (reqSpec_walk x y W _ _ (KX.out.below (below_step HB0.out (below_step E5.out hW))) (KY.out.below (below_step HB0.out (below_step E5.out hW)))).mono ?_
    rintro e w2 ⟨rfl, hb⟩
    exact ⟨by rw [HR.out], below_step hW hb⟩
  simp only [Act.put, List.setIfInBounds_toArray, List.set_cons_zero, List.set_cons_succ]
  refine q_on (by rfl) ?_
  apply Exists.intro
  refine ⟨fun W hW => ?_, ?_⟩
  · go_simp
    try rfl
  simp only [Act.put, List.setIfInBounds_toArray, List.set_cons_zero, List.set_cons_succ]
  intro W hW
  rw [HC5.out] at hW
  have F5 := Aside0.mk (below_step E5.out hW)
  clear hW HC5
  have z10 := blk_cell (blk_below K1.out F5.out) 0
  have z11 := blk_cell (blk_below K1.out F5.out) 1
  have z12 := blk_cell (blk_below K1.out F5.out) 2
  have z13 := blk_cell (blk_below K1.out F5.out) 3
  have z14 := blk_cell (blk_below K1.out F5.out) 4
  go_wp2_with fail
  refine (valid_walk a HA.out W _ (k24.K_below (below_step HB0.out F5.out) KA.out)).mono ?_
  rintro e v6 ⟨rfl, hb⟩
  have E6 := Aside0.mk (below_step F5.out hb)
  clear hb z10 z11 z12 z13 z14
  obtain ⟨va, HVA2⟩ : ∃ q, Aside0 (validB a = q) := ⟨_, ⟨rfl⟩⟩
  rw [HVA2.out]
  obtain ⟨s1, H1⟩ : ∃ z, Aside0 ((⟨(txt a true).toArray⟩ : ByteArray) = z) := ⟨_, ⟨rfl⟩⟩
  have hss : (s1.toList != s1.toList) = false := by simp
  have hss2 : (s1.toList == s1.toList) = true := by simp
  have last : True := trivial
  cases va
  · go_wp2_with fail
    obtain ⟨C6, hC6e⟩ : ∃ C : World → Prop, C = fun W => Below v6.heap.size v6 W := ⟨_, rfl⟩
    have HC6 := Aside0.mk hC6e
    clear hC6e
    refine wp_quiet_tail C6 7 (by kernel_rfl) (by kernel_rfl) (by rw [HC6.out]; exact below_drew1 (Below.refl _ _)) ?_
    simp only [List.take_succ_cons, List.take_zero, List.drop_succ_cons, List.drop_zero]
    refine q_ex rfl ?_
    apply Exists.intro
    refine ⟨fun W hW => ?_, ?_⟩
    · go_simp
      try rfl
    simp only [Act.put, List.setIfInBounds_toArray, List.set_cons_zero, List.set_cons_succ]
    refine q_ex rfl ?_
    apply Exists.intro
    refine ⟨fun W hW => ?_, ?_⟩
    · go_simp
      try rfl
    simp only [Act.put, List.setIfInBounds_toArray, List.set_cons_zero, List.set_cons_succ]
    refine q_off (by rfl) ?_
    simp only [Act.put, List.setIfInBounds_toArray, List.set_cons_zero, List.set_cons_succ]
    refine q_off (by rfl) ?_
    simp only [Act.put, List.setIfInBounds_toArray, List.set_cons_zero, List.set_cons_succ]
    refine q_off (by rfl) ?_
    simp only [Act.put, List.setIfInBounds_toArray, List.set_cons_zero, List.set_cons_succ]
    refine q_off (by rfl) ?_
    simp only [Act.put, List.setIfInBounds_toArray, List.set_cons_zero, List.set_cons_succ]
    refine q_off (by rfl) ?_
    simp only [Act.put, List.setIfInBounds_toArray, List.set_cons_zero, List.set_cons_succ]
    intro W hW
    rw [HC6.out] at hW
    have F6 := Aside0.mk (below_step E6.out hW)
    clear hW HC6
    have z30 := blk_cell (blk_below K3.out F6.out) 0
    have z31 := blk_cell (blk_below K3.out F6.out) 1
    have z32 := blk_cell (blk_below K3.out F6.out) 2
    have z33 := blk_cell (blk_below K3.out F6.out) 3
    go_wp2_with fail
    have E7 := F6
    clear F6
    refine (printable_walk x HX.out W _ (KX.out.below (below_step HB0.out E7.out))).mono ?_
    rintro e v8 ⟨pb, rfl, hp, hb⟩
    have E8 := Aside0.mk (below_step E7.out hb)
    have HPP := Aside0.mk hp
    clear hb hp z30 z31 z32 z33
    cases pb
    · go_wp2_with fail
      obtain ⟨C8, hC8e⟩ : ∃ C : World → Prop, C = fun W => Below v8.heap.size v8 W := ⟨_, rfl⟩
      have HC8 := Aside0.mk hC8e
      clear hC8e
      refine wp_quiet_tail C8 12 (by kernel_rfl) (by kernel_rfl) (by rw [HC8.out]; exact below_drew1 (Below.refl _ _)) ?_
      simp only [List.take_succ_cons, List.take_zero, List.drop_succ_cons, List.drop_zero]
      refine q_ex rfl ?_
      apply Exists.intro
      refine ⟨fun W hW => ?_, ?_⟩
      · go_simp
        try rfl
      simp only [Act.put, List.setIfInBounds_toArray, List.set_cons_zero, List.set_cons_succ]
      refine q_ex rfl ?_
      apply Exists.intro
      refine ⟨fun W hW => ?_, ?_⟩
      · go_simp
        try rfl
      simp only [Act.put, List.setIfInBounds_toArray, List.set_cons_zero, List.set_cons_succ]
      refine q_on (by rfl) ?_
      apply Exists.intro
      refine ⟨fun W hW => ?_, ?_⟩
      · go_simp
        try rfl
      simp only [Act.put, List.setIfInBounds_toArray, List.set_cons_zero, List.set_cons_succ]
      refine q_on (by rfl) ?_
      apply Exists.intro
      refine ⟨fun W hW => ?_, ?_⟩
      · go_simp
        try rfl
      simp only [Act.put, List.setIfInBounds_toArray, List.set_cons_zero, List.set_cons_succ]
      refine q_on (by rfl) ?_
      apply Exists.intro
      refine ⟨fun W hW => ?_, ?_⟩
      · go_simp
        try rfl
      simp only [Act.put, List.setIfInBounds_toArray, List.set_cons_zero, List.set_cons_succ]
      refine q_off (by rfl) ?_
      simp only [Act.put, List.setIfInBounds_toArray, List.set_cons_zero, List.set_cons_succ]
      refine q_off (by rfl) ?_
      simp only [Act.put, List.setIfInBounds_toArray, List.set_cons_zero, List.set_cons_succ]
      refine q_off (by rfl) ?_
      simp only [Act.put, List.setIfInBounds_toArray, List.set_cons_zero, List.set_cons_succ]
      refine q_off (by rfl) ?_
      simp only [Act.put, List.setIfInBounds_toArray, List.set_cons_zero, List.set_cons_succ]
      refine q_off (by rfl) ?_
      simp only [Act.put, List.setIfInBounds_toArray, List.set_cons_zero, List.set_cons_succ]
      refine q_on (by rfl) ?_
      apply Exists.intro
      refine ⟨fun W hW => ?_, ?_⟩
      · go_simp
        try rfl
      simp only [Act.put, List.setIfInBounds_toArray, List.set_cons_zero, List.set_cons_succ]
      refine q_ex rfl ?_
      apply Exists.intro
      refine ⟨fun W hW => ?_, ?_⟩
      · go_simp
        try rfl
      simp only [Act.put, List.setIfInBounds_toArray, List.set_cons_zero, List.set_cons_succ]
      intro W hW
      rw [HC8.out] at hW
      have F8 := Aside0.mk (below_step E8.out hW)
      clear hW HC8
      go_wp2_with fail
      go_ret
      exact ⟨rfl, below_step HB0.out F8.out⟩
    · have HPO := HPP.out rfl
      have HSO := HSP.out HPO (P3.out (by trivial))
      obtain ⟨ho, hr, hl⟩ := HSO
      have HO := Aside0.mk ho
      have HRF := Aside0.mk hr
      have HLN := Aside0.mk hl
      clear ho hr hl HPO
      obtain ⟨s2, H2⟩ : ∃ z, Aside0 ((⟨(specT x).toArray⟩ : ByteArray) = z) := ⟨_, ⟨rfl⟩⟩
      have htt : (s2.toList == s2.toList) = true := by simp
      go_wp2_with fail
      obtain ⟨C8, hC8e⟩ : ∃ C : World → Prop, C = fun W => Below v8.heap.size v8 W := ⟨_, rfl⟩
      have HC8 := Aside0.mk hC8e
      clear hC8e
      refine wp_quiet_tail C8 12 (by kernel_rfl) (by kernel_rfl) (by rw [HC8.out]; exact below_drew1 (Below.refl _ _)) ?_
      simp only [List.take_succ_cons, List.take_zero, List.drop_succ_cons, List.drop_zero]
      refine q_ex rfl ?_
      apply Exists.intro
      refine ⟨fun W hW => ?_, ?_⟩
      · go_simp
        try rfl
      simp only [Act.put, List.setIfInBounds_toArray, List.set_cons_zero, List.set_cons_succ]
      refine q_ex rfl ?_
      apply Exists.intro
      refine ⟨fun W hW => ?_, ?_⟩
      · go_simp
        try rfl
      simp only [Act.put, List.setIfInBounds_toArray, List.set_cons_zero, List.set_cons_succ]
      refine q_on (by rfl) ?_
      apply Exists.intro
      refine ⟨fun W hW => ?_, ?_⟩
      · go_simp
        try rfl
      simp only [Act.put, List.setIfInBounds_toArray, List.set_cons_zero, List.set_cons_succ]
      refine q_on (by rfl) ?_
      apply Exists.intro
      refine ⟨fun W hW => ?_, ?_⟩
      · go_simp
        try rfl
      simp only [Act.put, List.setIfInBounds_toArray, List.set_cons_zero, List.set_cons_succ]
      refine q_on (by rfl) ?_
      apply Exists.intro
      refine ⟨fun W hW => ?_, ?_⟩
      · go_simp
        try rfl
      simp only [Act.put, List.setIfInBounds_toArray, List.set_cons_zero, List.set_cons_succ]
      refine q_on (by rfl) ?_
      apply Exists.intro
      refine ⟨fun W hW => ?_, ?_⟩
      · have p3 : Below v8.heap.size v8 W := by rw [HC8.out] at hW; exact hW
        have z30 := blk_cell (blk_below (blk_below K3.out E8.out) p3) 0
        have z31 := blk_cell (blk_below (blk_below K3.out E8.out) p3) 1
        have z32 := blk_cell (blk_below (blk_below K3.out E8.out) p3) 2
        have z33 := blk_cell (blk_below (blk_below K3.out E8.out) p3) 3
        clear p3
        go_simp
        try rfl
      simp only [Act.put, List.setIfInBounds_toArray, List.set_cons_zero, List.set_cons_succ]
      refine q_callG (f := 16) (v := .string s2) (by rfl) ?_ ?_
      · apply Exists.intro
        refine ⟨fun W hW => (by go_simp; try rfl), fun W hW => ?_⟩
        rw [HC8.out] at hW ⊢
        refine (spec_walk x HO.out W _ (KX.out.below (below_step HB0.out (below_step E8.out hW))) (HT.out.below (below_step HB0.out (below_step E8.out hW))) (by have := HLN.out; unfold most; omega)).mono ?_
        rintro e w2 ⟨rfl, hb⟩
        exact ⟨by rw [H2.out], below_step hW hb⟩
      simp only [Act.put, List.setIfInBounds_toArray, List.set_cons_zero, List.set_cons_succ]
      refine q_on (by rfl) ?_
      apply Exists.intro
      refine ⟨fun W hW => ?_, ?_⟩
      · have p3 : Below v8.heap.size v8 W := by rw [HC8.out] at hW; exact hW
        have z30 := blk_cell (blk_below (blk_below K3.out E8.out) p3) 0
        have z31 := blk_cell (blk_below (blk_below K3.out E8.out) p3) 1
        have z32 := blk_cell (blk_below (blk_below K3.out E8.out) p3) 2
        have z33 := blk_cell (blk_below (blk_below K3.out E8.out) p3) 3
        clear p3
        go_simp
        try rfl
      simp only [Act.put, List.setIfInBounds_toArray, List.set_cons_zero, List.set_cons_succ]
      refine q_callG (f := 17) (v := .string s2) (by rfl) ?_ ?_
      · apply Exists.intro
        refine ⟨fun W hW => (by go_simp; try rfl), fun W hW => ?_⟩
        rw [HC8.out] at hW ⊢
        refine (rspec_walk x HRF.out W _ (KX.out.below (below_step HB0.out (below_step E8.out hW))) HLN.out).mono ?_
        rintro e w2 ⟨rfl, hb⟩
        exact ⟨by rw [← H2.out]; rfl, below_step hW hb⟩
      simp only [Act.put, List.setIfInBounds_toArray, List.set_cons_zero, List.set_cons_succ]
      refine q_on (by rfl) ?_
      apply Exists.intro
      refine ⟨fun W hW => ?_, ?_⟩
      · go_simp
        try rfl
      simp only [Act.put, List.setIfInBounds_toArray, List.set_cons_zero, List.set_cons_succ]
      refine q_on (by rfl) ?_
      apply Exists.intro
      refine ⟨fun W hW => ?_, ?_⟩
      · go_simp
        try rfl
      simp only [Act.put, List.setIfInBounds_toArray, List.set_cons_zero, List.set_cons_succ]
      refine q_ex rfl ?_
      apply Exists.intro
      refine ⟨fun W hW => ?_, ?_⟩
      · go_simp
        try rfl
      simp only [Act.put, List.setIfInBounds_toArray, List.set_cons_zero, List.set_cons_succ]
      intro W hW
      rw [HC8.out] at hW
      have F8 := Aside0.mk (below_step E8.out hW)
      clear hW HC8
      go_wp2_with fail
      go_ret
      exact ⟨rfl, below_step HB0.out F8.out⟩
  · obtain ⟨hne, hle⟩ := HVA.out HVA2.out
    have HNE := Aside0.mk hne
    have HLE := Aside0.mk hle
    clear hne hle
    go_wp2_with fail
    obtain ⟨C6, hC6e⟩ : ∃ C : World → Prop, C = fun W => Below v6.heap.size v6 W := ⟨_, rfl⟩
    have HC6 := Aside0.mk hC6e
    clear hC6e
    refine wp_quiet_tail C6 7 (by kernel_rfl) (by kernel_rfl) (by rw [HC6.out]; exact below_drew1 (Below.refl _ _)) ?_
    simp only [List.take_succ_cons, List.take_zero, List.drop_succ_cons, List.drop_zero]
    refine q_ex rfl ?_
    apply Exists.intro
    refine ⟨fun W hW => ?_, ?_⟩
    · go_simp
      try rfl
    simp only [Act.put, List.setIfInBounds_toArray, List.set_cons_zero, List.set_cons_succ]
    refine q_ex rfl ?_
    apply Exists.intro
    refine ⟨fun W hW => ?_, ?_⟩
    · go_simp
      try rfl
    simp only [Act.put, List.setIfInBounds_toArray, List.set_cons_zero, List.set_cons_succ]
    refine q_on (by rfl) ?_
    apply Exists.intro
    refine ⟨fun W hW => ?_, ?_⟩
    · have p3 : Below v6.heap.size v6 W := by rw [HC6.out] at hW; exact hW
      have z10 := blk_cell (blk_below (blk_below K1.out E6.out) p3) 0
      have z11 := blk_cell (blk_below (blk_below K1.out E6.out) p3) 1
      have z12 := blk_cell (blk_below (blk_below K1.out E6.out) p3) 2
      have z13 := blk_cell (blk_below (blk_below K1.out E6.out) p3) 3
      have z14 := blk_cell (blk_below (blk_below K1.out E6.out) p3) 4
      clear p3
      go_simp
      try rfl
    simp only [Act.put, List.setIfInBounds_toArray, List.set_cons_zero, List.set_cons_succ]
    refine q_callG (f := 13) (v := .string s1) (by rfl) ?_ ?_
    · apply Exists.intro
      refine ⟨fun W hW => (by go_simp; try rfl), fun W hW => ?_⟩
      rw [HC6.out] at hW ⊢
      refine (formula_walk a HA.out W _ (k24.K_below (below_step HB0.out (below_step E6.out hW)) KA.out) (HT.out.below (below_step HB0.out (below_step E6.out hW))) HNE.out HLE.out).mono ?_
      rintro e w2 ⟨rfl, hb⟩
      exact ⟨by rw [H1.out], below_step hW hb⟩
    simp only [Act.put, List.setIfInBounds_toArray, List.set_cons_zero, List.set_cons_succ]
    refine q_on (by rfl) ?_
    apply Exists.intro
    refine ⟨fun W hW => ?_, ?_⟩
    · have p3 : Below v6.heap.size v6 W := by rw [HC6.out] at hW; exact hW
      have z10 := blk_cell (blk_below (blk_below K1.out E6.out) p3) 0
      have z11 := blk_cell (blk_below (blk_below K1.out E6.out) p3) 1
      have z12 := blk_cell (blk_below (blk_below K1.out E6.out) p3) 2
      have z13 := blk_cell (blk_below (blk_below K1.out E6.out) p3) 3
      have z14 := blk_cell (blk_below (blk_below K1.out E6.out) p3) 4
      clear p3
      go_simp
      try rfl
    simp only [Act.put, List.setIfInBounds_toArray, List.set_cons_zero, List.set_cons_succ]
    refine q_callG (f := 14) (v := .string s1) (by rfl) ?_ ?_
    · apply Exists.intro
      refine ⟨fun W hW => (by go_simp; try rfl), fun W hW => ?_⟩
      rw [HC6.out] at hW ⊢
      refine (ref_formula a HVA2.out W _ (k24.K_below (below_step HB0.out (below_step E6.out hW)) KA.out)).mono ?_
      rintro e w2 ⟨rfl, hb⟩
      exact ⟨by rw [← H1.out]; rfl, below_step hW hb⟩
    simp only [Act.put, List.setIfInBounds_toArray, List.set_cons_zero, List.set_cons_succ]
    refine q_on (by rfl) ?_
    apply Exists.intro
    refine ⟨fun W hW => ?_, ?_⟩
    · go_simp
      try rfl
    simp only [Act.put, List.setIfInBounds_toArray, List.set_cons_zero, List.set_cons_succ]
    intro W hW
    rw [HC6.out] at hW
    have F6 := Aside0.mk (below_step E6.out hW)
    clear hW HC6
    have z30 := blk_cell (blk_below K3.out F6.out) 0
    have z31 := blk_cell (blk_below K3.out F6.out) 1
    have z32 := blk_cell (blk_below K3.out F6.out) 2
    have z33 := blk_cell (blk_below K3.out F6.out) 3
    go_wp2_with fail
    have E7 := F6
    clear F6
    refine (printable_walk x HX.out W _ (KX.out.below (below_step HB0.out E7.out))).mono ?_
    rintro e v8 ⟨pb, rfl, hp, hb⟩
    have E8 := Aside0.mk (below_step E7.out hb)
    have HPP := Aside0.mk hp
    clear hb hp z30 z31 z32 z33
    cases pb
    · go_wp2_with fail
      obtain ⟨C8, hC8e⟩ : ∃ C : World → Prop, C = fun W => Below v8.heap.size v8 W := ⟨_, rfl⟩
      have HC8 := Aside0.mk hC8e
      clear hC8e
      refine wp_quiet_tail C8 12 (by kernel_rfl) (by kernel_rfl) (by rw [HC8.out]; exact below_drew1 (Below.refl _ _)) ?_
      simp only [List.take_succ_cons, List.take_zero, List.drop_succ_cons, List.drop_zero]
      refine q_ex rfl ?_
      apply Exists.intro
      refine ⟨fun W hW => ?_, ?_⟩
      · go_simp
        try rfl
      simp only [Act.put, List.setIfInBounds_toArray, List.set_cons_zero, List.set_cons_succ]
      refine q_ex rfl ?_
      apply Exists.intro
      refine ⟨fun W hW => ?_, ?_⟩
      · go_simp
        try rfl
      simp only [Act.put, List.setIfInBounds_toArray, List.set_cons_zero, List.set_cons_succ]
      refine q_on (by rfl) ?_
      apply Exists.intro
      refine ⟨fun W hW => ?_, ?_⟩
      · go_simp
        try rfl
      simp only [Act.put, List.setIfInBounds_toArray, List.set_cons_zero, List.set_cons_succ]
      refine q_on (by rfl) ?_
      apply Exists.intro
      refine ⟨fun W hW => ?_, ?_⟩
      · go_simp
        try rfl
      simp only [Act.put, List.setIfInBounds_toArray, List.set_cons_zero, List.set_cons_succ]
      refine q_on (by rfl) ?_
      apply Exists.intro
      refine ⟨fun W hW => ?_, ?_⟩
      · go_simp
        try rfl
      simp only [Act.put, List.setIfInBounds_toArray, List.set_cons_zero, List.set_cons_succ]
      refine q_off (by rfl) ?_
      simp only [Act.put, List.setIfInBounds_toArray, List.set_cons_zero, List.set_cons_succ]
      refine q_off (by rfl) ?_
      simp only [Act.put, List.setIfInBounds_toArray, List.set_cons_zero, List.set_cons_succ]
      refine q_off (by rfl) ?_
      simp only [Act.put, List.setIfInBounds_toArray, List.set_cons_zero, List.set_cons_succ]
      refine q_off (by rfl) ?_
      simp only [Act.put, List.setIfInBounds_toArray, List.set_cons_zero, List.set_cons_succ]
      refine q_off (by rfl) ?_
      simp only [Act.put, List.setIfInBounds_toArray, List.set_cons_zero, List.set_cons_succ]
      refine q_on (by rfl) ?_
      apply Exists.intro
      refine ⟨fun W hW => ?_, ?_⟩
      · go_simp
        try rfl
      simp only [Act.put, List.setIfInBounds_toArray, List.set_cons_zero, List.set_cons_succ]
      refine q_ex rfl ?_
      apply Exists.intro
      refine ⟨fun W hW => ?_, ?_⟩
      · go_simp
        try rfl
      simp only [Act.put, List.setIfInBounds_toArray, List.set_cons_zero, List.set_cons_succ]
      intro W hW
      rw [HC8.out] at hW
      have F8 := Aside0.mk (below_step E8.out hW)
      clear hW HC8
      go_wp2_with fail
      go_ret
      exact ⟨rfl, below_step HB0.out F8.out⟩
    · have HPO := HPP.out rfl
      have HSO := HSP.out HPO (P3.out (by trivial))
      obtain ⟨ho, hr, hl⟩ := HSO
      have HO := Aside0.mk ho
      have HRF := Aside0.mk hr
      have HLN := Aside0.mk hl
      clear ho hr hl HPO
      obtain ⟨s2, H2⟩ : ∃ z, Aside0 ((⟨(specT x).toArray⟩ : ByteArray) = z) := ⟨_, ⟨rfl⟩⟩
      have htt : (s2.toList == s2.toList) = true := by simp
      go_wp2_with fail
      obtain ⟨C8, hC8e⟩ : ∃ C : World → Prop, C = fun W => Below v8.heap.size v8 W := ⟨_, rfl⟩
      have HC8 := Aside0.mk hC8e
      clear hC8e
      refine wp_quiet_tail C8 12 (by kernel_rfl) (by kernel_rfl) (by rw [HC8.out]; exact below_drew1 (Below.refl _ _)) ?_
      simp only [List.take_succ_cons, List.take_zero, List.drop_succ_cons, List.drop_zero]
      refine q_ex rfl ?_
      apply Exists.intro
      refine ⟨fun W hW => ?_, ?_⟩
      · go_simp
        try rfl
      simp only [Act.put, List.setIfInBounds_toArray, List.set_cons_zero, List.set_cons_succ]
      refine q_ex rfl ?_
      apply Exists.intro
      refine ⟨fun W hW => ?_, ?_⟩
      · go_simp
        try rfl
      simp only [Act.put, List.setIfInBounds_toArray, List.set_cons_zero, List.set_cons_succ]
      refine q_on (by rfl) ?_
      apply Exists.intro
      refine ⟨fun W hW => ?_, ?_⟩
      · go_simp
        try rfl
      simp only [Act.put, List.setIfInBounds_toArray, List.set_cons_zero, List.set_cons_succ]
      refine q_on (by rfl) ?_
      apply Exists.intro
      refine ⟨fun W hW => ?_, ?_⟩
      · go_simp
        try rfl
      simp only [Act.put, List.setIfInBounds_toArray, List.set_cons_zero, List.set_cons_succ]
      refine q_on (by rfl) ?_
      apply Exists.intro
      refine ⟨fun W hW => ?_, ?_⟩
      · go_simp
        try rfl
      simp only [Act.put, List.setIfInBounds_toArray, List.set_cons_zero, List.set_cons_succ]
      refine q_on (by rfl) ?_
      apply Exists.intro
      refine ⟨fun W hW => ?_, ?_⟩
      · have p3 : Below v8.heap.size v8 W := by rw [HC8.out] at hW; exact hW
        have z30 := blk_cell (blk_below (blk_below K3.out E8.out) p3) 0
        have z31 := blk_cell (blk_below (blk_below K3.out E8.out) p3) 1
        have z32 := blk_cell (blk_below (blk_below K3.out E8.out) p3) 2
        have z33 := blk_cell (blk_below (blk_below K3.out E8.out) p3) 3
        clear p3
        go_simp
        try rfl
      simp only [Act.put, List.setIfInBounds_toArray, List.set_cons_zero, List.set_cons_succ]
      refine q_callG (f := 16) (v := .string s2) (by rfl) ?_ ?_
      · apply Exists.intro
        refine ⟨fun W hW => (by go_simp; try rfl), fun W hW => ?_⟩
        rw [HC8.out] at hW ⊢
        refine (spec_walk x HO.out W _ (KX.out.below (below_step HB0.out (below_step E8.out hW))) (HT.out.below (below_step HB0.out (below_step E8.out hW))) (by have := HLN.out; unfold most; omega)).mono ?_
        rintro e w2 ⟨rfl, hb⟩
        exact ⟨by rw [H2.out], below_step hW hb⟩
      simp only [Act.put, List.setIfInBounds_toArray, List.set_cons_zero, List.set_cons_succ]
      refine q_on (by rfl) ?_
      apply Exists.intro
      refine ⟨fun W hW => ?_, ?_⟩
      · have p3 : Below v8.heap.size v8 W := by rw [HC8.out] at hW; exact hW
        have z30 := blk_cell (blk_below (blk_below K3.out E8.out) p3) 0
        have z31 := blk_cell (blk_below (blk_below K3.out E8.out) p3) 1
        have z32 := blk_cell (blk_below (blk_below K3.out E8.out) p3) 2
        have z33 := blk_cell (blk_below (blk_below K3.out E8.out) p3) 3
        clear p3
        go_simp
        try rfl
      simp only [Act.put, List.setIfInBounds_toArray, List.set_cons_zero, List.set_cons_succ]
      refine q_callG (f := 17) (v := .string s2) (by rfl) ?_ ?_
      · apply Exists.intro
        refine ⟨fun W hW => (by go_simp; try rfl), fun W hW => ?_⟩
        rw [HC8.out] at hW ⊢
        refine (rspec_walk x HRF.out W _ (KX.out.below (below_step HB0.out (below_step E8.out hW))) HLN.out).mono ?_
        rintro e w2 ⟨rfl, hb⟩
        exact ⟨by rw [← H2.out]; rfl, below_step hW hb⟩
      simp only [Act.put, List.setIfInBounds_toArray, List.set_cons_zero, List.set_cons_succ]
      refine q_on (by rfl) ?_
      apply Exists.intro
      refine ⟨fun W hW => ?_, ?_⟩
      · go_simp
        try rfl
      simp only [Act.put, List.setIfInBounds_toArray, List.set_cons_zero, List.set_cons_succ]
      refine q_on (by rfl) ?_
      apply Exists.intro
      refine ⟨fun W hW => ?_, ?_⟩
      · go_simp
        try rfl
      simp only [Act.put, List.setIfInBounds_toArray, List.set_cons_zero, List.set_cons_succ]
      refine q_ex rfl ?_
      apply Exists.intro
      refine ⟨fun W hW => ?_, ?_⟩
      · go_simp
        try rfl
      simp only [Act.put, List.setIfInBounds_toArray, List.set_cons_zero, List.set_cons_succ]
      intro W hW
      rw [HC8.out] at hW
      have F8 := Aside0.mk (below_step E8.out hW)
      clear hW HC8
      go_wp2_with fail
      go_ret
      exact ⟨rfl, below_step HB0.out F8.out⟩
end Go.Proofs.YtgdiodhaihmnbaaDoor.Own
namespace Go.Proofs.YtgdiodhaihmnbaaDoor.Own
open Go.Proofs.YtgdiodhaihmnbaaDoor.PPrinterMatchesReference
theorem cat_len {α : Type} (f : α → List UInt8) (B : Nat) : ∀ xs : List α, (∀ x ∈ xs, (f x).length ≤ B) → (catT f xs).length ≤ B * xs.length
  | [], _ => by simp [catT]
  | x :: r, h => by
    rw [catT, List.length_append, List.length_cons]
    have h1 := h x List.mem_cons_self
    have h2 := cat_len f B r fun y hy => h y (List.mem_cons_of_mem _ hy)
    rw [Nat.mul_succ]
    omega
theorem sep_len {α : Type} (f : α → List UInt8) (s : List UInt8) (B : Nat) : ∀ (xs : List α) (b : Bool), (∀ x ∈ xs, (f x).length + s.length ≤ B) → (sepT f s xs b).length ≤ B * xs.length
  | [], _, _ => by simp [sepT]
  | x :: r, b, h => by
    rw [sepT, List.length_append, List.length_append, List.length_cons]
    have h1 := h x List.mem_cons_self
    have h2 := sep_len f s B r false fun y hy => h y (List.mem_cons_of_mem _ hy)
    have h3 : (if b = true then ([] : List UInt8) else s).length ≤ s.length := by split <;> simp
    rw [Nat.mul_succ]
    omega
theorem form_valid {x : S24} (h : isForm x = true) : validB x = true := by
  unfold isForm at h
  simp only [Bool.and_eq_true] at h
  exact h.1
theorem valid_frm {x : S24} (h : validB x = true) : frmN x 24 = true := by
  unfold validB at h
  simp only [Bool.and_eq_true] at h
  exact h.2
theorem valid_len {x : S24} (h : validB x = true) : (txt x true).length ≤ 40000 := by
  have hf := valid_frm h
  unfold validB at h
  simp only [Bool.and_eq_true, decide_eq_true_eq] at h
  have h1 := cnt_is x 400 h.1
  have h2 := txt_len _ x (Nat.lt_succ_self _) 24 hf true
  omega
theorem sortName_len {x : SpD} (h : PrOK x) (i : Int) : (sortName x.so i).data.toList.length ≤ 16 := by
  unfold sortName
  split
  · simp
  · rename_i hi
    have hm : x.so.getD i.toNat z42 ∈ x.so := mem_get z42 x.so i.toNat (by omega)
    exact name_len (h.so _ hm)
theorem mul_le_of {a b c d : Nat} (h : a ≤ b * c) (hc : c ≤ d) : a ≤ b * d := Nat.le_trans h (Nat.mul_le_mul_left b hc)
theorem sp_ok (x : SpD) (hn : SpN x) (h : PrOK x) (hp : ∀ p ∈ x.pr, p.f1.length ≤ 20) : SpOK x ∧ RefOK x ∧ (specT x).length ≤ 100000000 := by
  refine ⟨⟨fun f hf i hi => (hn.fi f hf).2 i hi, fun p hp i hi => ((hn.pr p hp).2.2 i hi).2, fun p hp => ⟨(hn.pr p hp).2.1, txt_some (valid_frm (form_valid (h.pr p hp).2.1))⟩, fun p hp => ⟨(hn.fa p hp).2, txt_some (valid_frm (form_valid (h.fa p hp).2))⟩⟩,
    ⟨fun f hf i hi => (h.fi f hf).2.1 i hi, fun p hp i hi => ((h.pr p hp).2.2 i hi).2, fun p hp => form_valid (h.pr p hp).2.1, fun p hp => form_valid (h.fa p hp).2⟩, ?_⟩
  have h0 : (catT sortT x.so).length ≤ 40 * x.so.length := cat_len sortT 40 x.so fun s hs => by
    have := name_len (h.so s hs)
    unfold sortT
    simp only [List.length_append, List.length_cons, List.length_nil]
    have : (if s.f1 = true then ([32, 111, 114, 100, 101, 114, 101, 100] : List UInt8) else []).length ≤ 8 := by split <;> simp
    omega
  have h1 : (catT (fldT x.so) x.fi).length ≤ 200 * x.fi.length := cat_len (fldT x.so) 200 x.fi fun f hf => by
    have hnm := name_len (h.fi f hf).1
    have hs := sep_len (fun i => (sortName x.so i).data.toList) [32, 45, 62, 32] 20 f.f1 true fun i _ => by
      have := sortName_len h i
      simp only [List.length_cons, List.length_nil]
      omega
    have hs2 := mul_le_of hs (h.fi f hf).2.2
    unfold fldT
    simp only [List.length_append, List.length_cons, List.length_nil]
    have : (if f.f2 = true then ([118, 97, 114, 32] : List UInt8) else []).length ≤ 4 := by split <;> simp
    omega
  have h2 : (catT (predT x.so) x.pr).length ≤ 50000 * x.pr.length := cat_len (predT x.so) 50000 x.pr fun p hpm => by
    have hnm := name_len (h.pr p hpm).1
    have hb := valid_len (form_valid (h.pr p hpm).2.1)
    have hs := sep_len (parT x.so) [44, 32] 40 p.f1 true fun i hi => by
      have h3 := sortName_len h i.f1
      have h4 := name_len ((h.pr p hpm).2.2 i hi).1
      unfold parT
      simp only [List.length_append, List.length_cons, List.length_nil]
      omega
    have hs2 := mul_le_of hs (hp p hpm)
    unfold predT
    simp only [List.length_append, List.length_cons, List.length_nil]
    omega
  have h3 : (catT factT x.fa).length ≤ 50000 * x.fa.length := cat_len factT 50000 x.fa fun p hpm => by
    have hnm := name_len (h.fa p hpm).1
    have hb := valid_len (form_valid (h.fa p hpm).2)
    unfold factT
    simp only [List.length_append, List.length_cons, List.length_nil]
    omega
  have e0 := h.n0
  have e1 := h.n1
  have e2 := h.n2
  have e3 := h.n3
  unfold specT
  simp only [List.length_append]
  omega
end Go.Proofs.YtgdiodhaihmnbaaDoor.Own
