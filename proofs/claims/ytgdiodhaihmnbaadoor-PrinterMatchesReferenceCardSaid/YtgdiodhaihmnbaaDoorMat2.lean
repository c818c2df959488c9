/- Steps towards the statement: the printer's texts and equalities are the reference's, and two valid formulas are equal exactly if their texts are; walks of the program's functions and the plain law behind them. This text: part 2 of 7. No condition of its own. -/
import Derived.ProofKit
import Derived.OpenShut
import Derived.ShutString
import Derived.Deep.Slices
import Derived.Deep.Fields
import Derived.StillTail
import Derived.Deep.Quiet
import Derived.KernelRfl
import Derived.MapKept
import Derived.Lib.ItoaNum
import Derived.Test.YtgdiodhaihmnbaaDoorMat1
set_option linter.unusedSimpArgs false
set_option linter.unusedVariables false
namespace Go.Proofs.YtgdiodhaihmnbaaDoor.Own
open Go.Proofs.YtgdiodhaihmnbaaDoor.PPrinterMatchesReference
mutual
/-- All numbers of the tree are int64s, and all names are of a machine's length. -/
def numOK : S24 → Prop
  | ⟨_, s, n, ks, _⟩ => ((-9223372036854775808 ≤ n ∧ n ≤ 9223372036854775807) ∧ s.size ≤ 9223372036854775807) ∧ numsOK ks
def numsOK : List S24 → Prop
  | [] => True
  | x :: r => numOK x ∧ numsOK r
end
theorem numsOK_mem : ∀ {l : List S24} {x : S24}, numsOK l → x ∈ l → numOK x
  | [], _, _, h => by cases h
  | y :: r, x, h, hx => by
    rw [numsOK] at h
    rcases List.mem_cons.1 hx with rfl | hx
    · exact h.1
    · exact numsOK_mem h.2 hx
theorem numsOK_of : ∀ {l : List S24}, (∀ x ∈ l, numOK x) → numsOK l
  | [], _ => trivial
  | y :: r, h => by
    rw [numsOK]
    exact ⟨h y List.mem_cons_self, numsOK_of fun x hx => h x (List.mem_cons_of_mem _ hx)⟩
theorem numOK_def (x : S24) : numOK x ↔ ((-9223372036854775808 ≤ x.f2 ∧ x.f2 ≤ 9223372036854775807) ∧ x.f1.size ≤ 9223372036854775807) ∧ numsOK x.f3 := by cases x; rw [numOK]
mutual
/-- How many nodes a tree has, at most left + 1. -/
def cntN : S24 → Int → Int
  | ⟨_, _, _, ks, _⟩, left => cntL ks left 1
def cntL : List S24 → Int → Int → Int
  | [], _, sum => sum
  | x :: r, left, sum => if sum ≤ left then cntL r left (sum + cntN x (left - sum)) else sum
end
mutual
theorem cntN_range : ∀ (x : S24) (left : Int), 0 ≤ left → 1 ≤ cntN x left ∧ cntN x left ≤ left + 1
  | ⟨_, _, _, ks, _⟩, left, h => by rw [cntN]; exact cntL_range ks left 1 (by omega) (by omega)
theorem cntL_range : ∀ (l : List S24) (left sum : Int), 1 ≤ sum → sum ≤ left + 1 → 1 ≤ cntL l left sum ∧ cntL l left sum ≤ left + 1
  | [], left, sum, h1, h2 => by rw [cntL]; exact ⟨h1, h2⟩
  | x :: r, left, sum, h1, h2 => by
    rw [cntL]
    split
    · have := cntN_range x (left - sum) (by omega)
      exact cntL_range r left _ (by omega) (by omega)
    · exact ⟨h1, h2⟩
end
theorem cntN_def (x : S24) (left : Int) : cntN x left = cntL x.f3 left 1 := by cases x; rw [cntN]
end Go.Proofs.YtgdiodhaihmnbaaDoor.Own
namespace Go.Proofs.YtgdiodhaihmnbaaDoor.Own
open Go.ChangeShapes Go.WideShapes Go.RowKit Go.Deep Go.Proofs.YtgdiodhaihmnbaaDoorW.PrintWords Go.Proofs.YtgdiodhaihmnbaaDoorW.PrintLast Go.Proofs.YtgdiodhaihmnbaaDoorW.PrintMore Go.Proofs.YtgdiodhaihmnbaaDoor.PPrinterMatchesReference
section
variable {H : Type} {enc : TypeId × Value → H} {w : World} {base : Nat} {spare : Nat → Bool} {held : Bool}
theorem wf_range {n : Int} (h : (Lit.int .i64 n).wf = true) : -9223372036854775808 ≤ n ∧ n ≤ 9223372036854775807 := by
  simp only [Lit.wf, Bool.and_eq_true, decide_eq_true_eq] at h
  have e1 : IntKind.min .i64 = -9223372036854775808 := by decide
  have e2 : IntKind.max .i64 = 9223372036854775807 := by decide
  omega
/-- A row of elements whose cells are read one by one. -/
theorem C_of_cells {α : Type} {d : Kd α} {a : Addr} {n : Nat} {xs : List α} (hl : xs.length = n) (hn : n ≤ 9223372036854775807) (h : ∀ j x, xs[j]? = some x → ∃ c, c.length = d.sz ∧ d.K w x c ∧ ∀ i u, c[i]? = some u → w.cell? (a.add (j * d.sz + i)) = some u) : d.C w (some a) n xs :=
  ⟨hl, hn, fun _ => ⟨a, rfl, h⟩⟩
theorem cells_at {a : Addr} {j n : Nat} {cs : List Value} (h : w.cells? base (a.add (j * n)) n = some cs) : cs.length = n ∧ ∀ i u, cs[i]? = some u → w.cell? (a.add (j * n + i)) = some u := by
  obtain ⟨_, hl, hc⟩ := World.cells?_some h
  refine ⟨hl, fun i u hu => ?_⟩
  have hi : i < n := by have := (List.getElem?_eq_some_iff.1 hu).1; omega
  have := hc i hi
  rw [Go.Deep.add_add] at this
  rw [this, hu]
theorem cellsOf24 : Tryd.prog.cellsOf 24 = 5 := by kernel_rfl
theorem five {α : Type} {l : List α} (h : l.length = 5) : ∃ a b c d e, l = [a, b, c, d, e] := by
  match l, h with
  | [a, b, c, d, e], _ => exact ⟨a, b, c, d, e, rfl⟩
theorem maxLen_le : maxLen ≤ 9223372036854775807 := by decide
/-- A tree that is read. -/
theorem read24 (fuel : Nat) : ∀ (cs : List Value) (x : DataW H × List MemPlace), DataW.trod enc Tryd.prog w base spare held fuel 24 cs = some x → ∃ y : S24, k24.K w y cs ∧ numOK y := by
  induction fuel using Nat.strongRecOn with
  | ind fuel ih =>
    intro cs x h
    obtain ⟨xs, n, rfl, _, hl, hxl, hf⟩ := DataW.trod_struct Tryd.underlying24 h
    rw [cellsOf24] at hl
    obtain ⟨c0, c1, c2, c3, c4, rfl⟩ := five hl
    · have e3 : Tryd.prog.cellsOf 3 = 1 := by kernel_rfl
      have e9 : Tryd.prog.cellsOf 9 = 1 := by kernel_rfl
      have e22 : Tryd.prog.cellsOf 22 = 1 := by kernel_rfl
      obtain ⟨x0, x1, x2, x3, x4, rfl⟩ := five hxl
      · have h0 : DataW.trod enc Tryd.prog w base spare held n 3 [c0] = some x0 := by simpa [e3] using hf 0 _ rfl
        have h1 : DataW.trod enc Tryd.prog w base spare held n 9 [c1] = some x1 := by simpa [e9] using hf 1 _ rfl
        have h2 : DataW.trod enc Tryd.prog w base spare held n 3 [c2] = some x2 := by simpa [e3] using hf 2 _ rfl
        have h3 : DataW.trod enc Tryd.prog w base spare held n 22 [c3] = some x3 := by simpa [e22] using hf 3 _ rfl
        have h4 : DataW.trod enc Tryd.prog w base spare held n 3 [c4] = some x4 := by simpa [e3] using hf 4 _ rfl
        obtain ⟨a0, q0, _, w0⟩ := DataW.trod_int Tryd.underlying3 h0
        obtain ⟨a1, q1, _, w1⟩ := DataW.trod_string Tryd.underlying9 h1
        obtain ⟨a2, q2, _, w2⟩ := DataW.trod_int Tryd.underlying3 h2
        obtain ⟨a4, q4, _, w4⟩ := DataW.trod_int Tryd.underlying3 h4
        cases q0; cases q1; cases q2; cases q4
        have hw2 := wf_range w2
        have hw1 : a1.size ≤ 9223372036854775807 := Nat.le_trans w1 maxLen_le
        rcases DataW.trod_slice Tryd.underlying22 h3 with ⟨q3, _⟩ | ⟨a, len, cap, elems, rest, m, rfl, q3, _, _, hlc, hcm, hel, hi, _, _⟩
        · cases q3
          exact ⟨⟨a0, a1, a2, [], a4⟩, k24_mk w ⟨a0, a1, a2, [], a4⟩ (Nat.le_refl _) ⟨rfl, Nat.zero_le _, fun h => absurd h (Nat.lt_irrefl 0)⟩, (numOK_def _).2 ⟨⟨hw2, hw1⟩, trivial⟩⟩
        · cases q3
          have hk : ∀ i, i < len → ∃ y : S24, (∃ c, c.length = 5 ∧ k24.K w y c ∧ ∀ k u, c[k]? = some u → w.cell? (a.add (i * 5 + k)) = some u) ∧ numOK y := by
            intro i hil
            have hb := hi i hil
            rw [List.getElem?_eq_getElem (by omega)] at hb
            obtain ⟨c, hc, ht⟩ := Option.bind_eq_some_iff.1 hb
            rw [cellsOf24] at hc
            obtain ⟨hlc, hcc⟩ := cells_at hc
            obtain ⟨y, hy, hn⟩ := ih m (by omega) c _ ht
            exact ⟨y, ⟨c, hlc, hy, hcc⟩, hn⟩
          haveI : Inhabited S24 := ⟨z24⟩
          obtain ⟨f, hfy⟩ := choose_lt hk
          have hks : k24.sz = 5 := rfl
          have hlen : ((List.range len).map f).length = len := by simp
          have hC : k24.C w (some a) ((List.range len).map f).length ((List.range len).map f) := by
            refine C_of_cells rfl (by rw [hlen]; have := maxLen_le; omega) fun j y hy => ?_
            rw [List.getElem?_map, Option.map_eq_some_iff] at hy
            obtain ⟨k, hk, rfl⟩ := hy
            obtain ⟨hj, hk⟩ := List.getElem?_eq_some_iff.1 hk
            rw [List.getElem_range] at hk
            subst hk
            rw [List.length_range] at hj
            obtain ⟨c, h1, h2, h3⟩ := (hfy j hj).1
            exact ⟨c, h1, h2, h3⟩
          have hK := k24_mk w ⟨a0, a1, a2, (List.range len).map f, a4⟩ (c3 := cap) (by show ((List.range len).map f).length ≤ cap; rw [hlen]; exact hlc) hC
          refine ⟨⟨a0, a1, a2, (List.range len).map f, a4⟩, ?_, (numOK_def _).2 ⟨⟨hw2, hw1⟩, numsOK_of fun y hy => ?_⟩⟩
          · have e : (⟨a0, a1, a2, (List.range len).map f, a4⟩ : S24).f3.length = len := hlen
            rw [e] at hK
            exact hK
          · obtain ⟨i, hi, rfl⟩ := List.mem_map.1 hy
            exact (hfy i (List.mem_range.1 hi)).2
end
end Go.Proofs.YtgdiodhaihmnbaaDoor.Own
namespace Go.Proofs.YtgdiodhaihmnbaaDoor.Own
open Go.RowKit Go.Proofs.YtgdiodhaihmnbaaDoorW.PrintWords Go.Proofs.YtgdiodhaihmnbaaDoorW.PrintLast Go.Proofs.YtgdiodhaihmnbaaDoorW.PrintMore Go.Proofs.YtgdiodhaihmnbaaDoor.PPrinterMatchesReference
mutual
def eqN : S24 → S24 → Bool
  | ⟨o, s, n, ks, _⟩, ⟨o', s', n', ks', _⟩ => o == o' && s.toList == s'.toList && n == n' && eqL ks ks'
def eqL : List S24 → List S24 → Bool
  | [], [] => true
  | a :: r, b :: q => eqN a b && eqL r q
  | _, _ => false
end
/-- A call that answers one bool and makes memory alone. -/
def SaysB (w : World) (b : Bool) (e : Ending) (w' : World) : Prop := e = .returned (.bool b) ∧ Below w.heap.size w w'
theorem eqL_len : ∀ (xs ys : List S24), xs.length ≠ ys.length → eqL xs ys = false
  | [], [], h => absurd rfl h
  | [], _ :: _, _ => by simp [eqL]
  | _ :: _, [], _ => by simp [eqL]
  | x :: xs, y :: ys, h => by
    rw [eqL, eqL_len xs ys (fun e => h (by simp [e]))]; simp
theorem drop_rd (xs : List S24) (k : Nat) (h : k < xs.length) : xs.drop k = rd_T24 xs k :: xs.drop (k + 1) := by
  rw [List.drop_eq_getElem_cons h]; simp [rd_T24, h]
theorem cell_new {w : World} {a : Addr} {v : Value} (h : w.cell? a = some v) (o : Obj) : (w.alloc o).cell? a = some v := pw_cell_below (below_alloc (Below.refl _ _) o) h
set_option maxHeartbeats 1000000 in
set_option maxRecDepth 100000 in
theorem eqf_walk (xs ys : List S24) (ih : ∀ x ∈ xs, ∀ (y : S24) (w : World) (cx cy : List Value), k24.K w x cx → k24.K w y cy → Calls Tryd.prog 8 #[.agg cx.toArray, .agg cy.toArray] w (SaysB w (eqN x y)))
    (A B : Option Addr) (c d : Nat) (w : World) (hx : k24.C w A xs.length xs) (hy : k24.C w B ys.length ys) (hlx : xs.length ≤ 9223372036854775807) (hly : ys.length ≤ 9223372036854775807) :
   Calls Tryd.prog 23 #[.slice A xs.length c, .slice B ys.length d, .func (.func 8) #[] #[]] w (SaysB w (eqL xs ys)) := by
  have hu24 := Tryd.underlying24
  have HX := Aside0.mk hx
  have HY := Aside0.mk hy
  have IH := Aside0.mk ih
  clear hx hy ih
  by_cases hl : xs.length = ys.length
  · have hlb : ((xs.length : Int) != (ys.length : Int)) = false := by simp [hl]
    have HL := Aside0.mk hl
    clear hl
    go_enter Tryd.func23, Tryd.ntmps23
    go_wp2_with fail
    go_loopw [17] (fun v wr => ∃ k : Nat, k ≤ xs.length ∧ v = .int .i64 k ∧ Aside0 (eqL (xs.drop k) (ys.drop k) = eqL xs ys) ∧ Aside0 (Below w.heap.size w wr)) (fun v _ => xs.length - (intOf v).toNat)
    case atStart => exact ⟨0, Nat.zero_le _, rfl, ⟨by simp⟩, ⟨Below.refl _ _⟩⟩
    case round =>
      obtain ⟨k, hk, rfl, HE, HB⟩ := hrel
      by_cases hlt : k < xs.length
      · obtain ⟨ad, A3, c3, e1, g0, g1, g2, g3, g4, gl, gi⟩ := at_T24 (Kd.C_below HX.out HB.out) k (by omega) (by omega)
        obtain ⟨bd, B3, d3, e2, f0, f1, f2, f3, f4, fl, fi⟩ := at_T24 (Kd.C_below HY.out HB.out) k (by omega) (by have := HL.out; omega)
        cases e1
        cases e2
        simp only [Int.toNat_natCast] at g0 g1 g2 g3 g4 f0 f1 f2 f3 f4
        have HXe : Aside0 (xs.drop k = rd_T24 xs k :: xs.drop (k + 1)) := ⟨drop_rd xs k hlt⟩
        have HYe : Aside0 (ys.drop k = rd_T24 ys k :: ys.drop (k + 1)) := ⟨drop_rd ys k (by have := HL.out; omega)⟩
        have HM : Aside0 (rd_T24 xs k ∈ xs) := ⟨List.mem_of_mem_drop (by rw [HXe.out]; exact List.mem_cons_self)⟩
        have hlt2 : (k : Int) < (ys.length : Int) := by have := HL.out; omega
        have KX : Aside0 (k24.K wr (rd_T24 xs k) [.int .i64 (rd_T24 xs k).f0, .string (rd_T24 xs k).f1, .int .i64 (rd_T24 xs k).f2, .slice A3 (rd_T24 xs k).f3.length c3, .int .i64 (rd_T24 xs k).f4]) := ⟨k24_mk wr _ gl gi⟩
        have KY : Aside0 (k24.K wr (rd_T24 ys k) [.int .i64 (rd_T24 ys k).f0, .string (rd_T24 ys k).f1, .int .i64 (rd_T24 ys k).f2, .slice B3 (rd_T24 ys k).f3.length d3, .int .i64 (rd_T24 ys k).f4]) := ⟨k24_mk wr _ fl fi⟩
        clear gl gi fl fi
        replace f0 := cell_new f0
        replace f1 := cell_new f1
        replace f2 := cell_new f2
        replace f3 := cell_new f3
        replace f4 := cell_new f4
        obtain ⟨r, HR⟩ : ∃ r, Aside0 (eqN (rd_T24 xs k) (rd_T24 ys k) = r) := ⟨_, ⟨rfl⟩⟩
        have HEr : Aside0 (eqL (xs.drop k) (ys.drop k) = (r && eqL (xs.drop (k + 1)) (ys.drop (k + 1)))) := ⟨by rw [HXe.out, HYe.out, eqL, HR.out]⟩
        go_wp2_with fail
        refine (IH.out _ HM.out (rd_T24 ys k) _ _ _ (k24.K_below ?b1 KX.out) (k24.K_below ?b2 KY.out)).mono ?_
        case b1 => repeat (first | exact Below.refl _ _ | apply below_alloc)
        case b2 => repeat (first | exact Below.refl _ _ | apply below_alloc)
        rintro e w1 ⟨rfl, hb1⟩
        have HB1 : Aside0 (Below w.heap.size w w1) := ⟨below_step (by repeat (first | exact HB.out | apply below_alloc)) hb1⟩
        clear hb1
        rw [HR.out]
        cases r
        · go_wp2
          go_ret
          exact ⟨by rw [← HE.out, HEr.out]; rfl, HB1.out⟩
        · go_wp2
          go_roundw
          case rel => exact ⟨k + 1, by omega, by go_num, ⟨by rw [← HE.out, HEr.out]; rfl⟩, HB1⟩
          case measure => simp [intOf]; omega
      · have hke : k = xs.length := by omega
        have HE2 : Aside0 (eqL xs ys = true) := ⟨by rw [← HE.out, List.drop_of_length_le (by omega), List.drop_of_length_le (by have := HL.out; omega)]; rfl⟩
        clear hke
        go_wp2
        go_ret
        exact ⟨by rw [HE2.out]; rfl, HB.out⟩
  · have hlb : ((xs.length : Int) != (ys.length : Int)) = true := by simp; omega
    have hr : eqL xs ys = false := eqL_len _ _ hl
    rw [hr]
    clear hr hl
    go_enter Tryd.func23, Tryd.ntmps23
    go_wp2_with fail
    go_ret
    exact ⟨rfl, Below.refl _ _⟩
theorem eqN_def (x y : S24) : eqN x y = (x.f0 == y.f0 && x.f1.toList == y.f1.toList && x.f2 == y.f2 && eqL x.f3 y.f3) := by
  cases x; cases y; rw [eqN]
theorem row_len {α : Type} {d : Kd α} {w : World} {A : Option Addr} {n : Nat} {xs : List α} (h : d.C w A n xs) : n ≤ 9223372036854775807 := h.2.1
set_option maxHeartbeats 1000000 in
set_option maxRecDepth 100000 in
theorem eqN_walk (k : Nat) : ∀ (x y : S24) (w : World) (cx cy : List Value), SizeOf.sizeOf x < k → k24.K w x cx → k24.K w y cy → Calls Tryd.prog 8 #[.agg cx.toArray, .agg cy.toArray] w (SaysB w (eqN x y)) := by
  induction k with
  | zero => intro x y w cx cy h; omega
  | succ k ih =>
    intro x y w cx cy hk hx hy
    obtain ⟨A, c, rfl, hlc, hA⟩ := k24_open hx
    obtain ⟨B, d, rfl, hld, hB⟩ := k24_open hy
    have HA := Aside0.mk hA
    have HB := Aside0.mk hB
    have hu24 := Tryd.underlying24
    have IH : Aside0 (∀ x' ∈ x.f3, ∀ (y : S24) (w : World) (cx cy : List Value), k24.K w x' cx → k24.K w y cy → Calls Tryd.prog 8 #[.agg cx.toArray, .agg cy.toArray] w (SaysB w (eqN x' y))) :=
      ⟨fun x' hm y w cx cy h1 h2 => ih x' y w cx cy (by
        have h3 := List.sizeOf_lt_of_mem hm
        have h4 : SizeOf.sizeOf x.f3 < SizeOf.sizeOf x := by cases x; simp; omega
        omega) h1 h2⟩
    clear hA hB hx hy hlc hld hk ih
    obtain ⟨r, HR⟩ : ∃ r, Aside0 (eqN x y = r) := ⟨_, ⟨rfl⟩⟩
    have HD := HR.out
    rw [eqN_def] at HD
    rw [HR.out]
    clear HR
    by_cases h0 : x.f0 = y.f0
    · have h0b : (x.f0 == y.f0) = true := by simp [h0]
      rw [h0b, Bool.true_and] at HD
      clear h0
      by_cases h1 : x.f1.toList = y.f1.toList
      · have h1b : (x.f1.toList == y.f1.toList) = true := by simp [h1]
        rw [h1b, Bool.true_and] at HD
        by_cases h2 : x.f2 = y.f2
        · have h2b : (x.f2 == y.f2) = true := by simp [h2]
          rw [h2b, Bool.true_and] at HD
          clear h2
          have HD := Aside0.mk HD
          go_enter Tryd.func8, Tryd.ntmps8
          go_wp2_with fail
          refine (eqf_walk x.f3 y.f3 IH.out A B c d _ (Kd.C_below HA.out ?b1) (Kd.C_below HB.out ?b2) (row_len HA.out) (row_len HB.out)).mono ?_
          case b1 => repeat (first | exact Below.refl _ _ | apply below_alloc)
          case b2 => repeat (first | exact Below.refl _ _ | apply below_alloc)
          rintro e w1 ⟨rfl, hb1⟩
          rw [HD.out]
          have HB1 : Aside0 (Below w.heap.size w w1) := ⟨below_step (by repeat (first | exact Below.refl _ _ | apply below_alloc)) hb1⟩
          clear hb1
          go_wp2
          go_ret
          exact ⟨rfl, HB1.out⟩
        · have h2b : (x.f2 == y.f2) = false := by simp [h2]
          rw [h2b, Bool.false_and] at HD
          clear h2
          subst HD
          go_enter Tryd.func8, Tryd.ntmps8
          go_wp2_with fail
          go_ret
          exact ⟨rfl, by repeat (first | exact Below.refl _ _ | apply below_alloc)⟩
      · have h1b : (x.f1.toList == y.f1.toList) = false := by simp [h1]
        rw [h1b, Bool.false_and] at HD
        clear h1
        subst HD
        go_enter Tryd.func8, Tryd.ntmps8
        go_wp2_with fail
        go_ret
        exact ⟨rfl, by repeat (first | exact Below.refl _ _ | apply below_alloc)⟩
    · have h0b : (x.f0 == y.f0) = false := by simp [h0]
      rw [h0b, Bool.false_and] at HD
      clear h0
      subst HD
      go_enter Tryd.func8, Tryd.ntmps8
      go_wp2_with fail
      go_ret
      exact ⟨rfl, by repeat (first | exact Below.refl _ _ | apply below_alloc)⟩
end Go.Proofs.YtgdiodhaihmnbaaDoor.Own
namespace Go.Proofs.YtgdiodhaihmnbaaDoor.Own
open Go.RowKit Go.Proofs.YtgdiodhaihmnbaaDoorW.PrintWords Go.Proofs.YtgdiodhaihmnbaaDoorW.PrintLast Go.Proofs.YtgdiodhaihmnbaaDoorW.PrintMore Go.Proofs.YtgdiodhaihmnbaaDoor.PPrinterMatchesReference
def kwL : List ByteArray := [⟨#[115, 111, 114, 116]⟩, ⟨#[111, 114, 100, 101, 114, 101, 100]⟩, ⟨#[118, 97, 114]⟩, ⟨#[102, 105, 101, 108, 100]⟩, ⟨#[112, 114, 101, 100]⟩, ⟨#[102, 97, 99, 116]⟩, ⟨#[97, 108, 108]⟩, ⟨#[115, 111, 109, 101]⟩, ⟨#[110, 111]⟩, ⟨#[111, 110, 101]⟩, ⟨#[108, 111, 110, 101]⟩, ⟨#[97, 108, 119, 97, 121, 115]⟩, ⟨#[101, 118, 101, 110, 116, 117, 97, 108, 108, 121]⟩, ⟨#[97, 102, 116, 101, 114]⟩, ⟨#[117, 110, 116, 105, 108]⟩, ⟨#[110, 111, 110, 101]⟩, ⟨#[117, 110, 105, 118]⟩, ⟨#[105, 100, 101, 110]⟩, ⟨#[105, 110]⟩, ⟨#[110, 111, 116]⟩, ⟨#[116, 114, 117, 101]⟩, ⟨#[102, 97, 108, 115, 101]⟩]
def kwB (s : ByteArray) : Bool := kwL.any fun k => k.toList == s.toList
section
variable {P : Program} {ops : Array Oper} {Q : Exit → Act → World → Prop} {a : Act} {rest : List Oper} {o : Oper}
/-- An operation that makes one new block of cells. -/
theorem mk_event {W : World} (hgd : o.guard = none) {cs : Array Value} {t : TypeId} {v : Value} (hrun : (execOp a.eval o).run P W = .ok (.value v) (W.alloc (.cells cs t)))
    (h : ∀ w1, w1.heap[W.heap.size]? = some (.cells cs t (0, 0)) → Below W.heap.size W w1 → wpList P ops Q rest (a.put o.dst v) w1) : wpList P ops Q (o :: rest) a W :=
  Kd.event_run hgd hrun (h _ (blk_new W _) (below_alloc (Below.refl _ _) _))
end
theorem any_take (p : ByteArray → Bool) (l : List ByteArray) (k : Nat) (h : k < l.length) : (l.take (k + 1)).any p = ((l.take k).any p || p (l.getD k ByteArray.empty)) := by
  rw [List.take_succ_eq_append_getElem h, List.any_append]
  simp [List.getD, h]
set_option maxHeartbeats 1000000 in
set_option maxRecDepth 100000 in
theorem keyword_walk (s : ByteArray) (w : World) : Calls Tryd.prog 74 #[.string s] w (SaysB w (kwB s)) := by
  go_enter Tryd.func74, Tryd.ntmps74
  go_wp2_with ((with_reducible refine gate_dst (N := 5) rfl ?_); refine mk_event rfl (cs := (kwL.map Value.string).toArray) (t := 9) (v := .slice (some ⟨w.heap.size, 0, none⟩) 22 22) (by go_simp; rfl) ?_; intro w1 hbk hb)
  have HBK := Aside0.mk hbk
  have HB := Aside0.mk hb
  clear hbk hb
  go_loop [4] (fun i => ∃ k : Nat, k ≤ 22 ∧ i = .int .i64 k ∧ Aside0 ((kwL.take k).any (fun q => q.toList == s.toList) = false)) (fun i => 22 - (intOf i).toNat)
  case atStart => exact ⟨0, by omega, rfl, ⟨rfl⟩⟩
  case round =>
    obtain ⟨k, hk, rfl, HE⟩ := hrel
    by_cases hlt : k < 22
    · have hc : w1.cell? ⟨w.heap.size, k, none⟩ = some (.string (kwL.getD k ByteArray.empty)) := by
        rw [blk_cell HBK.out k]
        have hl : k < kwL.length := hlt
        simp [List.getD, hl]
      have HS := Aside0.mk (any_take (fun q => q.toList == s.toList) kwL k hlt)
      obtain ⟨q, HQ⟩ : ∃ q, Aside0 (((kwL.getD k ByteArray.empty).toList == s.toList) = q) := ⟨_, ⟨rfl⟩⟩
      generalize kwL.getD k ByteArray.empty = u at *
      cases q
      · have hu : (u.toList == s.toList) = false := HQ.out
        go_wp2
        go_round
        case rel => exact ⟨k + 1, by omega, by go_num, ⟨by rw [HS.out, HE.out, HQ.out]; rfl⟩⟩
        case measure => simp [intOf]; omega
      · have hu : (u.toList == s.toList) = true := HQ.out
        have hu2 : u.toList = s.toList := by simpa using hu
        have HT : Aside0 (kwB s = true) := ⟨by
          unfold kwB
          rw [← List.take_append_drop (k + 1) kwL, List.any_append, HS.out, HQ.out]; simp⟩
        go_wp2
        go_ret
        exact ⟨by rw [HT.out]; rfl, HB.out⟩
    · have hke : k = 22 := by omega
      have HF : Aside0 (kwB s = false) := ⟨by unfold kwB; have := HE.out; rw [hke] at this; exact this⟩
      clear hke
      go_wp2
      go_ret
      exact ⟨by rw [HF.out]; rfl, HB.out⟩
end Go.Proofs.YtgdiodhaihmnbaaDoor.Own
namespace Go.Proofs.YtgdiodhaihmnbaaDoor.Own
open Go.RowKit Go.Proofs.YtgdiodhaihmnbaaDoorW.PrintWords Go.Proofs.YtgdiodhaihmnbaaDoorW.PrintLast Go.Proofs.YtgdiodhaihmnbaaDoorW.PrintMore Go.Proofs.YtgdiodhaihmnbaaDoor.PPrinterMatchesReference
def letU (c : Nat) : Bool := (decide (97 ≤ c) && decide (c ≤ 122)) || (decide (65 ≤ c) && decide (c ≤ 90))
def okU (c : Nat) : Bool := letU c || c == 95 || (decide (48 ≤ c) && decide (c ≤ 57))
def byteAt (s : ByteArray) (k : Nat) : Nat := (s.data.toList.getD k 0).toNat
def okAt (s : ByteArray) (k : Nat) : Bool := if k = 0 then letU (byteAt s k) else okU (byteAt s k)
def nameB (s : ByteArray) : Bool := decide (1 ≤ s.size) && decide (s.size ≤ 16) && !kwB s && (List.range s.size).all (okAt s)
theorem range_all (p : Nat → Bool) (k : Nat) : (List.range (k + 1)).all p = ((List.range k).all p && p k) := by
  rw [List.range_succ, List.all_append]; simp
theorem range_all_false (p : Nat → Bool) (k n : Nat) (h : k < n) (hp : p k = false) : (List.range n).all p = false := by
  rw [List.all_eq_false]; exact ⟨k, List.mem_range.2 h, by simp [hp]⟩
set_option maxHeartbeats 1000000 in
set_option maxRecDepth 100000 in
theorem name_walk (s : ByteArray) (w : World) (hs : s.size ≤ 9223372036854775807) : Calls Tryd.prog 42 #[.string s] w (SaysB w (nameB s)) := by
  by_cases h0 : s.size = 0
  · have hr : nameB s = false := by simp [nameB, h0]
    have h0b : (s.size == 0) = true := by simp [h0]
    have h0c : ((s.size : Int) == 0) = true := by simp [h0]
    rw [hr]
    clear h0 hr
    go_enter Tryd.func42, Tryd.ntmps42
    go_wp2_with fail
    go_ret
    exact ⟨rfl, Below.refl _ _⟩
  have h0b : (s.size == 0) = false := by simp [h0]
  have h0c : ((s.size : Int) == 0) = false := by rw [beq_eq_false_iff_ne]; omega
  by_cases h16 : 16 < s.size
  · have hr : nameB s = false := by
      have : ¬ s.size ≤ 16 := by omega
      simp [nameB, this]
    have h16b : decide ((16 : Int) < s.size) = true := by simp; omega
    have h16c : decide (16 < s.size) = true := by simp; omega
    rw [hr]
    clear h0 hr
    go_enter Tryd.func42, Tryd.ntmps42
    go_wp2_with fail
    go_ret
    exact ⟨rfl, Below.refl _ _⟩
  have h16b : decide ((16 : Int) < s.size) = false := by simp; omega
  have h16c : decide (16 < s.size) = false := by simp; omega
  obtain ⟨q, HQ⟩ : ∃ q, Aside0 (kwB s = q) := ⟨_, ⟨rfl⟩⟩
  cases q
  · have HR : Aside0 (nameB s = (List.range s.size).all (okAt s)) := ⟨by
      have h1 : 1 ≤ s.size := by omega
      have h2 : s.size ≤ 16 := by omega
      simp [nameB, HQ.out, h1, h2]⟩
    rw [HR.out]
    clear HR h0 h16
    go_enter Tryd.func42, Tryd.ntmps42
    go_wp2_with fail
    refine (keyword_walk s _).mono ?_
    rintro e w1 ⟨rfl, hb⟩
    have HB := Aside0.mk hb
    clear hb
    rw [HQ.out]
    go_wp2_with fail
    go_loop [3] (fun i => ∃ k : Nat, k ≤ s.size ∧ i = .int .i64 k ∧ Aside0 ((List.range k).all (okAt s) = true)) (fun i => s.size - (intOf i).toNat)
    case atStart => exact ⟨0, by omega, rfl, ⟨rfl⟩⟩
    case round =>
      obtain ⟨k, hk, rfl, HE⟩ := hrel
      by_cases hlt : k < s.size
      · have HC : Aside0 (byteAt s k = (s[k]'hlt).toNat) := ⟨by
          have hl : k < s.data.toList.length := by rw [data_length]; exact hlt
          simp only [byteAt, List.getD, List.getElem?_eq_getElem hl, Option.getD_some]; rfl⟩
        have hcb : (s[k]'hlt).toNat < 256 := UInt8.toNat_lt _
        have hsplit : (s[k]'hlt).toNat < 48 ∨ (48 ≤ (s[k]'hlt).toNat ∧ (s[k]'hlt).toNat ≤ 57) ∨ (58 ≤ (s[k]'hlt).toNat ∧ (s[k]'hlt).toNat ≤ 64) ∨ (65 ≤ (s[k]'hlt).toNat ∧ (s[k]'hlt).toNat ≤ 90) ∨ (91 ≤ (s[k]'hlt).toNat ∧ (s[k]'hlt).toNat ≤ 94) ∨ (95 ≤ (s[k]'hlt).toNat ∧ (s[k]'hlt).toNat ≤ 95) ∨ (96 ≤ (s[k]'hlt).toNat ∧ (s[k]'hlt).toNat ≤ 96) ∨ (97 ≤ (s[k]'hlt).toNat ∧ (s[k]'hlt).toNat ≤ 122) ∨ 123 ≤ (s[k]'hlt).toNat := by omega
        clear hcb
        obtain ⟨r, HR⟩ : ∃ r, Aside0 (okAt s k = r) := ⟨_, ⟨rfl⟩⟩
        have hrr := HR.out
        unfold okAt at hrr
        rw [HC.out] at hrr
        by_cases hk0 : k = 0
        · subst hk0
          simp only [if_true] at hrr
          unfold letU at hrr
          rcases hsplit with h | ⟨h, h'⟩ | ⟨h, h'⟩ | ⟨h, h'⟩ | ⟨h, h'⟩ | ⟨h, h'⟩ | ⟨h, h'⟩ | ⟨h, h'⟩ | h
          · skip
            have b0 : decide (97 ≤ ((s[0]'hlt).toNat : Int)) = false := decide_eq_false (by omega)
            have b1 : decide (((s[0]'hlt).toNat : Int) ≤ 122) = true := decide_eq_true (by omega)
            have b2 : decide (65 ≤ ((s[0]'hlt).toNat : Int)) = false := decide_eq_false (by omega)
            have b3 : decide (((s[0]'hlt).toNat : Int) ≤ 90) = true := decide_eq_true (by omega)
            have b4 : decide (((s[0]'hlt).toNat : Int) < 48) = true := decide_eq_true (by omega)
            have b5 : decide (57 < ((s[0]'hlt).toNat : Int)) = false := decide_eq_false (by omega)
            have b6 : (((s[0]'hlt).toNat : Int) != 95) = true := by rw [bne_iff_ne]; omega
            have HRR := Aside0.mk hrr
            clear hrr
            go_wp2
            all_goals
              first
              | (go_ret
                 exact ⟨by rw [range_all_false _ _ _ hlt (by rw [HR.out, ← HRR.out, Bool.eq_false_iff]; intro hh; simp only [Bool.or_eq_true, Bool.and_eq_true, decide_eq_true_eq, beq_iff_eq] at hh; rcases hh with ⟨a1, a2⟩ | ⟨a1, a2⟩ <;> omega)]; rfl, HB.out⟩)
              | (go_round
                 case rel => exact ⟨0 + 1, by omega, by go_num, ⟨by rw [range_all, HE.out, HR.out, ← HRR.out, Bool.true_and]; simp only [Bool.or_eq_true, Bool.and_eq_true, decide_eq_true_eq, beq_iff_eq]; omega⟩⟩
                 case measure => simp [intOf]; omega)
          · skip
            have b0 : decide (97 ≤ ((s[0]'hlt).toNat : Int)) = false := decide_eq_false (by omega)
            have b1 : decide (((s[0]'hlt).toNat : Int) ≤ 122) = true := decide_eq_true (by omega)
            have b2 : decide (65 ≤ ((s[0]'hlt).toNat : Int)) = false := decide_eq_false (by omega)
            have b3 : decide (((s[0]'hlt).toNat : Int) ≤ 90) = true := decide_eq_true (by omega)
            have b4 : decide (((s[0]'hlt).toNat : Int) < 48) = false := decide_eq_false (by omega)
            have b5 : decide (57 < ((s[0]'hlt).toNat : Int)) = false := decide_eq_false (by omega)
            have b6 : (((s[0]'hlt).toNat : Int) != 95) = true := by rw [bne_iff_ne]; omega
            have HRR := Aside0.mk hrr
            clear hrr
            go_wp2
            all_goals
              first
              | (go_ret
                 exact ⟨by rw [range_all_false _ _ _ hlt (by rw [HR.out, ← HRR.out, Bool.eq_false_iff]; intro hh; simp only [Bool.or_eq_true, Bool.and_eq_true, decide_eq_true_eq, beq_iff_eq] at hh; rcases hh with ⟨a1, a2⟩ | ⟨a1, a2⟩ <;> omega)]; rfl, HB.out⟩)
              | (go_round
                 case rel => exact ⟨0 + 1, by omega, by go_num, ⟨by rw [range_all, HE.out, HR.out, ← HRR.out, Bool.true_and]; simp only [Bool.or_eq_true, Bool.and_eq_true, decide_eq_true_eq, beq_iff_eq]; omega⟩⟩
                 case measure => simp [intOf]; omega)
          · skip
            have b0 : decide (97 ≤ ((s[0]'hlt).toNat : Int)) = false := decide_eq_false (by omega)
            have b1 : decide (((s[0]'hlt).toNat : Int) ≤ 122) = true := decide_eq_true (by omega)
            have b2 : decide (65 ≤ ((s[0]'hlt).toNat : Int)) = false := decide_eq_false (by omega)
            have b3 : decide (((s[0]'hlt).toNat : Int) ≤ 90) = true := decide_eq_true (by omega)
            have b4 : decide (((s[0]'hlt).toNat : Int) < 48) = false := decide_eq_false (by omega)
            have b5 : decide (57 < ((s[0]'hlt).toNat : Int)) = true := decide_eq_true (by omega)
            have b6 : (((s[0]'hlt).toNat : Int) != 95) = true := by rw [bne_iff_ne]; omega
            have HRR := Aside0.mk hrr
            clear hrr
            go_wp2
            all_goals
              first
              | (go_ret
                 exact ⟨by rw [range_all_false _ _ _ hlt (by rw [HR.out, ← HRR.out, Bool.eq_false_iff]; intro hh; simp only [Bool.or_eq_true, Bool.and_eq_true, decide_eq_true_eq, beq_iff_eq] at hh; rcases hh with ⟨a1, a2⟩ | ⟨a1, a2⟩ <;> omega)]; rfl, HB.out⟩)
              | (go_round
                 case rel => exact ⟨0 + 1, by omega, by go_num, ⟨by rw [range_all, HE.out, HR.out, ← HRR.out, Bool.true_and]; simp only [Bool.or_eq_true, Bool.and_eq_true, decide_eq_true_eq, beq_iff_eq]; omega⟩⟩
                 case measure => simp [intOf]; omega)
          · skip
            have b0 : decide (97 ≤ ((s[0]'hlt).toNat : Int)) = false := decide_eq_false (by omega)
            have b1 : decide (((s[0]'hlt).toNat : Int) ≤ 122) = true := decide_eq_true (by omega)
            have b2 : decide (65 ≤ ((s[0]'hlt).toNat : Int)) = true := decide_eq_true (by omega)
            have b3 : decide (((s[0]'hlt).toNat : Int) ≤ 90) = true := decide_eq_true (by omega)
            have b4 : decide (((s[0]'hlt).toNat : Int) < 48) = false := decide_eq_false (by omega)
            have b5 : decide (57 < ((s[0]'hlt).toNat : Int)) = true := decide_eq_true (by omega)
            have b6 : (((s[0]'hlt).toNat : Int) != 95) = true := by rw [bne_iff_ne]; omega
            have HRR := Aside0.mk hrr
            clear hrr
            go_wp2
            all_goals
              first
              | (go_ret
                 exact ⟨by rw [range_all_false _ _ _ hlt (by rw [HR.out, ← HRR.out, Bool.eq_false_iff]; intro hh; simp only [Bool.or_eq_true, Bool.and_eq_true, decide_eq_true_eq, beq_iff_eq] at hh; rcases hh with ⟨a1, a2⟩ | ⟨a1, a2⟩ <;> omega)]; rfl, HB.out⟩)
              | (go_round
                 case rel => exact ⟨0 + 1, by omega, by go_num, ⟨by rw [range_all, HE.out, HR.out, ← HRR.out, Bool.true_and]; simp only [Bool.or_eq_true, Bool.and_eq_true, decide_eq_true_eq, beq_iff_eq]; omega⟩⟩
                 case measure => simp [intOf]; omega)
          · skip
            have b0 : decide (97 ≤ ((s[0]'hlt).toNat : Int)) = false := decide_eq_false (by omega)
            have b1 : decide (((s[0]'hlt).toNat : Int) ≤ 122) = true := decide_eq_true (by omega)
            have b2 : decide (65 ≤ ((s[0]'hlt).toNat : Int)) = true := decide_eq_true (by omega)
            have b3 : decide (((s[0]'hlt).toNat : Int) ≤ 90) = false := decide_eq_false (by omega)
            have b4 : decide (((s[0]'hlt).toNat : Int) < 48) = false := decide_eq_false (by omega)
            have b5 : decide (57 < ((s[0]'hlt).toNat : Int)) = true := decide_eq_true (by omega)
            have b6 : (((s[0]'hlt).toNat : Int) != 95) = true := by rw [bne_iff_ne]; omega
            have HRR := Aside0.mk hrr
            clear hrr
            go_wp2
            all_goals
              first
              | (go_ret
                 exact ⟨by rw [range_all_false _ _ _ hlt (by rw [HR.out, ← HRR.out, Bool.eq_false_iff]; intro hh; simp only [Bool.or_eq_true, Bool.and_eq_true, decide_eq_true_eq, beq_iff_eq] at hh; rcases hh with ⟨a1, a2⟩ | ⟨a1, a2⟩ <;> omega)]; rfl, HB.out⟩)
              | (go_round
                 case rel => exact ⟨0 + 1, by omega, by go_num, ⟨by rw [range_all, HE.out, HR.out, ← HRR.out, Bool.true_and]; simp only [Bool.or_eq_true, Bool.and_eq_true, decide_eq_true_eq, beq_iff_eq]; omega⟩⟩
                 case measure => simp [intOf]; omega)
          · skip
            have b0 : decide (97 ≤ ((s[0]'hlt).toNat : Int)) = false := decide_eq_false (by omega)
            have b1 : decide (((s[0]'hlt).toNat : Int) ≤ 122) = true := decide_eq_true (by omega)
            have b2 : decide (65 ≤ ((s[0]'hlt).toNat : Int)) = true := decide_eq_true (by omega)
            have b3 : decide (((s[0]'hlt).toNat : Int) ≤ 90) = false := decide_eq_false (by omega)
            have b4 : decide (((s[0]'hlt).toNat : Int) < 48) = false := decide_eq_false (by omega)
            have b5 : decide (57 < ((s[0]'hlt).toNat : Int)) = true := decide_eq_true (by omega)
            have b6 : (((s[0]'hlt).toNat : Int) != 95) = false := by rw [bne_eq_false_iff_eq]; omega
            have HRR := Aside0.mk hrr
            clear hrr
            go_wp2
            all_goals
              first
              | (go_ret
                 exact ⟨by rw [range_all_false _ _ _ hlt (by rw [HR.out, ← HRR.out, Bool.eq_false_iff]; intro hh; simp only [Bool.or_eq_true, Bool.and_eq_true, decide_eq_true_eq, beq_iff_eq] at hh; rcases hh with ⟨a1, a2⟩ | ⟨a1, a2⟩ <;> omega)]; rfl, HB.out⟩)
              | (go_round
                 case rel => exact ⟨0 + 1, by omega, by go_num, ⟨by rw [range_all, HE.out, HR.out, ← HRR.out, Bool.true_and]; simp only [Bool.or_eq_true, Bool.and_eq_true, decide_eq_true_eq, beq_iff_eq]; omega⟩⟩
                 case measure => simp [intOf]; omega)
          · skip
            have b0 : decide (97 ≤ ((s[0]'hlt).toNat : Int)) = false := decide_eq_false (by omega)
            have b1 : decide (((s[0]'hlt).toNat : Int) ≤ 122) = true := decide_eq_true (by omega)
            have b2 : decide (65 ≤ ((s[0]'hlt).toNat : Int)) = true := decide_eq_true (by omega)
            have b3 : decide (((s[0]'hlt).toNat : Int) ≤ 90) = false := decide_eq_false (by omega)
            have b4 : decide (((s[0]'hlt).toNat : Int) < 48) = false := decide_eq_false (by omega)
            have b5 : decide (57 < ((s[0]'hlt).toNat : Int)) = true := decide_eq_true (by omega)
            have b6 : (((s[0]'hlt).toNat : Int) != 95) = true := by rw [bne_iff_ne]; omega
            have HRR := Aside0.mk hrr
            clear hrr
            go_wp2
            all_goals
              first
              | (go_ret
                 exact ⟨by rw [range_all_false _ _ _ hlt (by rw [HR.out, ← HRR.out, Bool.eq_false_iff]; intro hh; simp only [Bool.or_eq_true, Bool.and_eq_true, decide_eq_true_eq, beq_iff_eq] at hh; rcases hh with ⟨a1, a2⟩ | ⟨a1, a2⟩ <;> omega)]; rfl, HB.out⟩)
              | (go_round
                 case rel => exact ⟨0 + 1, by omega, by go_num, ⟨by rw [range_all, HE.out, HR.out, ← HRR.out, Bool.true_and]; simp only [Bool.or_eq_true, Bool.and_eq_true, decide_eq_true_eq, beq_iff_eq]; omega⟩⟩
                 case measure => simp [intOf]; omega)
          · skip
            have b0 : decide (97 ≤ ((s[0]'hlt).toNat : Int)) = true := decide_eq_true (by omega)
            have b1 : decide (((s[0]'hlt).toNat : Int) ≤ 122) = true := decide_eq_true (by omega)
            have b2 : decide (65 ≤ ((s[0]'hlt).toNat : Int)) = true := decide_eq_true (by omega)
            have b3 : decide (((s[0]'hlt).toNat : Int) ≤ 90) = false := decide_eq_false (by omega)
            have b4 : decide (((s[0]'hlt).toNat : Int) < 48) = false := decide_eq_false (by omega)
            have b5 : decide (57 < ((s[0]'hlt).toNat : Int)) = true := decide_eq_true (by omega)
            have b6 : (((s[0]'hlt).toNat : Int) != 95) = true := by rw [bne_iff_ne]; omega
            have HRR := Aside0.mk hrr
            clear hrr
            go_wp2
            all_goals
              first
              | (go_ret
                 exact ⟨by rw [range_all_false _ _ _ hlt (by rw [HR.out, ← HRR.out, Bool.eq_false_iff]; intro hh; simp only [Bool.or_eq_true, Bool.and_eq_true, decide_eq_true_eq, beq_iff_eq] at hh; rcases hh with ⟨a1, a2⟩ | ⟨a1, a2⟩ <;> omega)]; rfl, HB.out⟩)
              | (go_round
                 case rel => exact ⟨0 + 1, by omega, by go_num, ⟨by rw [range_all, HE.out, HR.out, ← HRR.out, Bool.true_and]; simp only [Bool.or_eq_true, Bool.and_eq_true, decide_eq_true_eq, beq_iff_eq]; omega⟩⟩
                 case measure => simp [intOf]; omega)
          · skip
            have b0 : decide (97 ≤ ((s[0]'hlt).toNat : Int)) = true := decide_eq_true (by omega)
            have b1 : decide (((s[0]'hlt).toNat : Int) ≤ 122) = false := decide_eq_false (by omega)
            have b2 : decide (65 ≤ ((s[0]'hlt).toNat : Int)) = true := decide_eq_true (by omega)
            have b3 : decide (((s[0]'hlt).toNat : Int) ≤ 90) = false := decide_eq_false (by omega)
            have b4 : decide (((s[0]'hlt).toNat : Int) < 48) = false := decide_eq_false (by omega)
            have b5 : decide (57 < ((s[0]'hlt).toNat : Int)) = true := decide_eq_true (by omega)
            have b6 : (((s[0]'hlt).toNat : Int) != 95) = true := by rw [bne_iff_ne]; omega
            have HRR := Aside0.mk hrr
            clear hrr
            go_wp2
            all_goals
              first
              | (go_ret
                 exact ⟨by rw [range_all_false _ _ _ hlt (by rw [HR.out, ← HRR.out, Bool.eq_false_iff]; intro hh; simp only [Bool.or_eq_true, Bool.and_eq_true, decide_eq_true_eq, beq_iff_eq] at hh; rcases hh with ⟨a1, a2⟩ | ⟨a1, a2⟩ <;> omega)]; rfl, HB.out⟩)
              | (go_round
                 case rel => exact ⟨0 + 1, by omega, by go_num, ⟨by rw [range_all, HE.out, HR.out, ← HRR.out, Bool.true_and]; simp only [Bool.or_eq_true, Bool.and_eq_true, decide_eq_true_eq, beq_iff_eq]; omega⟩⟩
                 case measure => simp [intOf]; omega)
        · have hk1 : 0 < k := by omega
          have hkb : ((k : Int) == 0) = false := by simp; omega
          rw [if_neg hk0] at hrr
          unfold okU letU at hrr
          clear hk0
          rcases hsplit with h | ⟨h, h'⟩ | ⟨h, h'⟩ | ⟨h, h'⟩ | ⟨h, h'⟩ | ⟨h, h'⟩ | ⟨h, h'⟩ | ⟨h, h'⟩ | h
          · skip
            have b0 : decide (97 ≤ ((s[k]'hlt).toNat : Int)) = false := decide_eq_false (by omega)
            have b1 : decide (((s[k]'hlt).toNat : Int) ≤ 122) = true := decide_eq_true (by omega)
            have b2 : decide (65 ≤ ((s[k]'hlt).toNat : Int)) = false := decide_eq_false (by omega)
            have b3 : decide (((s[k]'hlt).toNat : Int) ≤ 90) = true := decide_eq_true (by omega)
            have b4 : decide (((s[k]'hlt).toNat : Int) < 48) = true := decide_eq_true (by omega)
            have b5 : decide (57 < ((s[k]'hlt).toNat : Int)) = false := decide_eq_false (by omega)
            have b6 : (((s[k]'hlt).toNat : Int) != 95) = true := by rw [bne_iff_ne]; omega
            have HRR := Aside0.mk hrr
            clear hrr
            go_wp2
            all_goals
              first
              | (go_ret
                 exact ⟨by rw [range_all_false _ _ _ hlt (by rw [HR.out, ← HRR.out, Bool.eq_false_iff]; intro hh; simp only [Bool.or_eq_true, Bool.and_eq_true, decide_eq_true_eq, beq_iff_eq] at hh; rcases hh with ((⟨a1, a2⟩ | ⟨a1, a2⟩) | a1) | ⟨a1, a2⟩ <;> omega)]; rfl, HB.out⟩)
              | (go_round
                 case rel => exact ⟨k + 1, by omega, by go_num, ⟨by rw [range_all, HE.out, HR.out, ← HRR.out, Bool.true_and]; simp only [Bool.or_eq_true, Bool.and_eq_true, decide_eq_true_eq, beq_iff_eq]; omega⟩⟩
                 case measure => simp [intOf]; omega)
          · skip
            have b0 : decide (97 ≤ ((s[k]'hlt).toNat : Int)) = false := decide_eq_false (by omega)
            have b1 : decide (((s[k]'hlt).toNat : Int) ≤ 122) = true := decide_eq_true (by omega)
            have b2 : decide (65 ≤ ((s[k]'hlt).toNat : Int)) = false := decide_eq_false (by omega)
            have b3 : decide (((s[k]'hlt).toNat : Int) ≤ 90) = true := decide_eq_true (by omega)
            have b4 : decide (((s[k]'hlt).toNat : Int) < 48) = false := decide_eq_false (by omega)
            have b5 : decide (57 < ((s[k]'hlt).toNat : Int)) = false := decide_eq_false (by omega)
            have b6 : (((s[k]'hlt).toNat : Int) != 95) = true := by rw [bne_iff_ne]; omega
            have HRR := Aside0.mk hrr
            clear hrr
            go_wp2
            all_goals
              first
              | (go_ret
                 exact ⟨by rw [range_all_false _ _ _ hlt (by rw [HR.out, ← HRR.out, Bool.eq_false_iff]; intro hh; simp only [Bool.or_eq_true, Bool.and_eq_true, decide_eq_true_eq, beq_iff_eq] at hh; rcases hh with ((⟨a1, a2⟩ | ⟨a1, a2⟩) | a1) | ⟨a1, a2⟩ <;> omega)]; rfl, HB.out⟩)
              | (go_round
                 case rel => exact ⟨k + 1, by omega, by go_num, ⟨by rw [range_all, HE.out, HR.out, ← HRR.out, Bool.true_and]; simp only [Bool.or_eq_true, Bool.and_eq_true, decide_eq_true_eq, beq_iff_eq]; omega⟩⟩
                 case measure => simp [intOf]; omega)
          · skip
            have b0 : decide (97 ≤ ((s[k]'hlt).toNat : Int)) = false := decide_eq_false (by omega)
            have b1 : decide (((s[k]'hlt).toNat : Int) ≤ 122) = true := decide_eq_true (by omega)
            have b2 : decide (65 ≤ ((s[k]'hlt).toNat : Int)) = false := decide_eq_false (by omega)
            have b3 : decide (((s[k]'hlt).toNat : Int) ≤ 90) = true := decide_eq_true (by omega)
            have b4 : decide (((s[k]'hlt).toNat : Int) < 48) = false := decide_eq_false (by omega)
            have b5 : decide (57 < ((s[k]'hlt).toNat : Int)) = true := decide_eq_true (by omega)
            have b6 : (((s[k]'hlt).toNat : Int) != 95) = true := by rw [bne_iff_ne]; omega
            have HRR := Aside0.mk hrr
            clear hrr
            go_wp2
            all_goals
              first
              | (go_ret
                 exact ⟨by rw [range_all_false _ _ _ hlt (by rw [HR.out, ← HRR.out, Bool.eq_false_iff]; intro hh; simp only [Bool.or_eq_true, Bool.and_eq_true, decide_eq_true_eq, beq_iff_eq] at hh; rcases hh with ((⟨a1, a2⟩ | ⟨a1, a2⟩) | a1) | ⟨a1, a2⟩ <;> omega)]; rfl, HB.out⟩)
              | (go_round
                 case rel => exact ⟨k + 1, by omega, by go_num, ⟨by rw [range_all, HE.out, HR.out, ← HRR.out, Bool.true_and]; simp only [Bool.or_eq_true, Bool.and_eq_true, decide_eq_true_eq, beq_iff_eq]; omega⟩⟩
                 case measure => simp [intOf]; omega)
          · skip
            have b0 : decide (97 ≤ ((s[k]'hlt).toNat : Int)) = false := decide_eq_false (by omega)
            have b1 : decide (((s[k]'hlt).toNat : Int) ≤ 122) = true := decide_eq_true (by omega)
            have b2 : decide (65 ≤ ((s[k]'hlt).toNat : Int)) = true := decide_eq_true (by omega)
            have b3 : decide (((s[k]'hlt).toNat : Int) ≤ 90) = true := decide_eq_true (by omega)
            have b4 : decide (((s[k]'hlt).toNat : Int) < 48) = false := decide_eq_false (by omega)
            have b5 : decide (57 < ((s[k]'hlt).toNat : Int)) = true := decide_eq_true (by omega)
            have b6 : (((s[k]'hlt).toNat : Int) != 95) = true := by rw [bne_iff_ne]; omega
            have HRR := Aside0.mk hrr
            clear hrr
            go_wp2
            all_goals
              first
              | (go_ret
                 exact ⟨by rw [range_all_false _ _ _ hlt (by rw [HR.out, ← HRR.out, Bool.eq_false_iff]; intro hh; simp only [Bool.or_eq_true, Bool.and_eq_true, decide_eq_true_eq, beq_iff_eq] at hh; rcases hh with ((⟨a1, a2⟩ | ⟨a1, a2⟩) | a1) | ⟨a1, a2⟩ <;> omega)]; rfl, HB.out⟩)
              | (go_round
                 case rel => exact ⟨k + 1, by omega, by go_num, ⟨by rw [range_all, HE.out, HR.out, ← HRR.out, Bool.true_and]; simp only [Bool.or_eq_true, Bool.and_eq_true, decide_eq_true_eq, beq_iff_eq]; omega⟩⟩
                 case measure => simp [intOf]; omega)
          · skip
            have b0 : decide (97 ≤ ((s[k]'hlt).toNat : Int)) = false := decide_eq_false (by omega)
            have b1 : decide (((s[k]'hlt).toNat : Int) ≤ 122) = true := decide_eq_true (by omega)
            have b2 : decide (65 ≤ ((s[k]'hlt).toNat : Int)) = true := decide_eq_true (by omega)
            have b3 : decide (((s[k]'hlt).toNat : Int) ≤ 90) = false := decide_eq_false (by omega)
            have b4 : decide (((s[k]'hlt).toNat : Int) < 48) = false := decide_eq_false (by omega)
            have b5 : decide (57 < ((s[k]'hlt).toNat : Int)) = true := decide_eq_true (by omega)
            have b6 : (((s[k]'hlt).toNat : Int) != 95) = true := by rw [bne_iff_ne]; omega
            have HRR := Aside0.mk hrr
            clear hrr
            go_wp2
            all_goals
              first
              | (go_ret
                 exact ⟨by rw [range_all_false _ _ _ hlt (by rw [HR.out, ← HRR.out, Bool.eq_false_iff]; intro hh; simp only [Bool.or_eq_true, Bool.and_eq_true, decide_eq_true_eq, beq_iff_eq] at hh; rcases hh with ((⟨a1, a2⟩ | ⟨a1, a2⟩) | a1) | ⟨a1, a2⟩ <;> omega)]; rfl, HB.out⟩)
              | (go_round
                 case rel => exact ⟨k + 1, by omega, by go_num, ⟨by rw [range_all, HE.out, HR.out, ← HRR.out, Bool.true_and]; simp only [Bool.or_eq_true, Bool.and_eq_true, decide_eq_true_eq, beq_iff_eq]; omega⟩⟩
                 case measure => simp [intOf]; omega)
          · skip
            have b0 : decide (97 ≤ ((s[k]'hlt).toNat : Int)) = false := decide_eq_false (by omega)
            have b1 : decide (((s[k]'hlt).toNat : Int) ≤ 122) = true := decide_eq_true (by omega)
            have b2 : decide (65 ≤ ((s[k]'hlt).toNat : Int)) = true := decide_eq_true (by omega)
            have b3 : decide (((s[k]'hlt).toNat : Int) ≤ 90) = false := decide_eq_false (by omega)
            have b4 : decide (((s[k]'hlt).toNat : Int) < 48) = false := decide_eq_false (by omega)
            have b5 : decide (57 < ((s[k]'hlt).toNat : Int)) = true := decide_eq_true (by omega)
            have b6 : (((s[k]'hlt).toNat : Int) != 95) = false := by rw [bne_eq_false_iff_eq]; omega
            have HRR := Aside0.mk hrr
            clear hrr
            go_wp2
            all_goals
              first
              | (go_ret
                 exact ⟨by rw [range_all_false _ _ _ hlt (by rw [HR.out, ← HRR.out, Bool.eq_false_iff]; intro hh; simp only [Bool.or_eq_true, Bool.and_eq_true, decide_eq_true_eq, beq_iff_eq] at hh; rcases hh with ((⟨a1, a2⟩ | ⟨a1, a2⟩) | a1) | ⟨a1, a2⟩ <;> omega)]; rfl, HB.out⟩)
              | (go_round
                 case rel => exact ⟨k + 1, by omega, by go_num, ⟨by rw [range_all, HE.out, HR.out, ← HRR.out, Bool.true_and]; simp only [Bool.or_eq_true, Bool.and_eq_true, decide_eq_true_eq, beq_iff_eq]; omega⟩⟩
                 case measure => simp [intOf]; omega)
          · skip
            have b0 : decide (97 ≤ ((s[k]'hlt).toNat : Int)) = false := decide_eq_false (by omega)
            have b1 : decide (((s[k]'hlt).toNat : Int) ≤ 122) = true := decide_eq_true (by omega)
            have b2 : decide (65 ≤ ((s[k]'hlt).toNat : Int)) = true := decide_eq_true (by omega)
            have b3 : decide (((s[k]'hlt).toNat : Int) ≤ 90) = false := decide_eq_false (by omega)
            have b4 : decide (((s[k]'hlt).toNat : Int) < 48) = false := decide_eq_false (by omega)
            have b5 : decide (57 < ((s[k]'hlt).toNat : Int)) = true := decide_eq_true (by omega)
            have b6 : (((s[k]'hlt).toNat : Int) != 95) = true := by rw [bne_iff_ne]; omega
            have HRR := Aside0.mk hrr
            clear hrr
            go_wp2
            all_goals
              first
              | (go_ret
                 exact ⟨by rw [range_all_false _ _ _ hlt (by rw [HR.out, ← HRR.out, Bool.eq_false_iff]; intro hh; simp only [Bool.or_eq_true, Bool.and_eq_true, decide_eq_true_eq, beq_iff_eq] at hh; rcases hh with ((⟨a1, a2⟩ | ⟨a1, a2⟩) | a1) | ⟨a1, a2⟩ <;> omega)]; rfl, HB.out⟩)
              | (go_round
                 case rel => exact ⟨k + 1, by omega, by go_num, ⟨by rw [range_all, HE.out, HR.out, ← HRR.out, Bool.true_and]; simp only [Bool.or_eq_true, Bool.and_eq_true, decide_eq_true_eq, beq_iff_eq]; omega⟩⟩
                 case measure => simp [intOf]; omega)
          · skip
            have b0 : decide (97 ≤ ((s[k]'hlt).toNat : Int)) = true := decide_eq_true (by omega)
            have b1 : decide (((s[k]'hlt).toNat : Int) ≤ 122) = true := decide_eq_true (by omega)
            have b2 : decide (65 ≤ ((s[k]'hlt).toNat : Int)) = true := decide_eq_true (by omega)
            have b3 : decide (((s[k]'hlt).toNat : Int) ≤ 90) = false := decide_eq_false (by omega)
            have b4 : decide (((s[k]'hlt).toNat : Int) < 48) = false := decide_eq_false (by omega)
            have b5 : decide (57 < ((s[k]'hlt).toNat : Int)) = true := decide_eq_true (by omega)
            have b6 : (((s[k]'hlt).toNat : Int) != 95) = true := by rw [bne_iff_ne]; omega
            have HRR := Aside0.mk hrr
            clear hrr
            go_wp2
            all_goals
              first
              | (go_ret
                 exact ⟨by rw [range_all_false _ _ _ hlt (by rw [HR.out, ← HRR.out, Bool.eq_false_iff]; intro hh; simp only [Bool.or_eq_true, Bool.and_eq_true, decide_eq_true_eq, beq_iff_eq] at hh; rcases hh with ((⟨a1, a2⟩ | ⟨a1, a2⟩) | a1) | ⟨a1, a2⟩ <;> omega)]; rfl, HB.out⟩)
              | (go_round
                 case rel => exact ⟨k + 1, by omega, by go_num, ⟨by rw [range_all, HE.out, HR.out, ← HRR.out, Bool.true_and]; simp only [Bool.or_eq_true, Bool.and_eq_true, decide_eq_true_eq, beq_iff_eq]; omega⟩⟩
                 case measure => simp [intOf]; omega)
          · skip
            have b0 : decide (97 ≤ ((s[k]'hlt).toNat : Int)) = true := decide_eq_true (by omega)
            have b1 : decide (((s[k]'hlt).toNat : Int) ≤ 122) = false := decide_eq_false (by omega)
            have b2 : decide (65 ≤ ((s[k]'hlt).toNat : Int)) = true := decide_eq_true (by omega)
            have b3 : decide (((s[k]'hlt).toNat : Int) ≤ 90) = false := decide_eq_false (by omega)
            have b4 : decide (((s[k]'hlt).toNat : Int) < 48) = false := decide_eq_false (by omega)
            have b5 : decide (57 < ((s[k]'hlt).toNat : Int)) = true := decide_eq_true (by omega)
            have b6 : (((s[k]'hlt).toNat : Int) != 95) = true := by rw [bne_iff_ne]; omega
            have HRR := Aside0.mk hrr
            clear hrr
            go_wp2
            all_goals
              first
              | (go_ret
                 exact ⟨by rw [range_all_false _ _ _ hlt (by rw [HR.out, ← HRR.out, Bool.eq_false_iff]; intro hh; simp only [Bool.or_eq_true, Bool.and_eq_true, decide_eq_true_eq, beq_iff_eq] at hh; rcases hh with ((⟨a1, a2⟩ | ⟨a1, a2⟩) | a1) | ⟨a1, a2⟩ <;> omega)]; rfl, HB.out⟩)
              | (go_round
                 case rel => exact ⟨k + 1, by omega, by go_num, ⟨by rw [range_all, HE.out, HR.out, ← HRR.out, Bool.true_and]; simp only [Bool.or_eq_true, Bool.and_eq_true, decide_eq_true_eq, beq_iff_eq]; omega⟩⟩
                 case measure => simp [intOf]; omega)
      · have hke : k = s.size := by omega
        have HF : Aside0 ((List.range s.size).all (okAt s) = true) := ⟨by have := HE.out; rw [hke] at this; exact this⟩
        clear hke
        go_wp2
        go_ret
        exact ⟨by rw [HF.out]; rfl, HB.out⟩
  · have hr : nameB s = false := by simp [nameB, HQ.out]
    rw [hr]
    clear h0 h16 hr
    go_enter Tryd.func42, Tryd.ntmps42
    go_wp2_with fail
    refine (keyword_walk s _).mono ?_
    rintro e w1 ⟨rfl, hb⟩
    have HB := Aside0.mk hb
    clear hb
    rw [HQ.out]
    go_wp2_with fail
    go_ret
    exact ⟨rfl, HB.out⟩
end Go.Proofs.YtgdiodhaihmnbaaDoor.Own
namespace Go.Proofs.YtgdiodhaihmnbaaDoor.Own
open Go.RowKit Go.Proofs.YtgdiodhaihmnbaaDoorW.PrintWords Go.Proofs.YtgdiodhaihmnbaaDoorW.PrintLast Go.Proofs.YtgdiodhaihmnbaaDoorW.PrintMore Go.Proofs.YtgdiodhaihmnbaaDoor.PPrinterMatchesReference
/-- The kind of an operator's nodes. -/
def kindC (op : Int) : Int := if 1 ≤ op ∧ op ≤ 15 then 101 else if 20 ≤ op ∧ op ≤ 23 then 105 else if 30 ≤ op ∧ op ≤ 51 then 102 else 0
set_option maxHeartbeats 1000000 in
set_option maxRecDepth 100000 in
theorem kind_walk (op : Int) (w : World) : Calls Tryd.prog 54 #[.int .i64 op] w fun e w' => e = .returned (.int .u8 (kindC op)) ∧ w = w' := by
  have hsplit : op < 1 ∨ (1 ≤ op ∧ op ≤ 15) ∨ (16 ≤ op ∧ op ≤ 19) ∨ (20 ≤ op ∧ op ≤ 23) ∨ (24 ≤ op ∧ op ≤ 29) ∨ (30 ≤ op ∧ op ≤ 51) ∨ 52 ≤ op := by omega
  rcases hsplit with h | ⟨h, h'⟩ | ⟨h, h'⟩ | ⟨h, h'⟩ | ⟨h, h'⟩ | ⟨h, h'⟩ | h
  · have hk : kindC op = 0 := by unfold kindC; rw [if_neg (by omega), if_neg (by omega), if_neg (by omega)]
    have b0 : decide (1 ≤ op) = false := decide_eq_false (by omega)
    have b2 : decide (20 ≤ op) = false := decide_eq_false (by omega)
    have b4 : decide (30 ≤ op) = false := decide_eq_false (by omega)
    rw [hk]
    clear hk
    go_enter Tryd.func54, Tryd.ntmps54
    go_wp2_with fail
    go_ret
    exact ⟨rfl, rfl⟩
  · have hk : kindC op = 101 := by unfold kindC; rw [if_pos ⟨by omega, by omega⟩]
    have b0 : decide (1 ≤ op) = true := decide_eq_true (by omega)
    have b1 : decide (op ≤ 15) = true := decide_eq_true (by omega)
    have b2 : decide (20 ≤ op) = false := decide_eq_false (by omega)
    have b4 : decide (30 ≤ op) = false := decide_eq_false (by omega)
    rw [hk]
    clear hk
    go_enter Tryd.func54, Tryd.ntmps54
    go_wp2_with fail
    go_ret
    exact ⟨rfl, rfl⟩
  · have hk : kindC op = 0 := by unfold kindC; rw [if_neg (by omega), if_neg (by omega), if_neg (by omega)]
    have b0 : decide (1 ≤ op) = true := decide_eq_true (by omega)
    have b1 : decide (op ≤ 15) = false := decide_eq_false (by omega)
    have b2 : decide (20 ≤ op) = false := decide_eq_false (by omega)
    have b4 : decide (30 ≤ op) = false := decide_eq_false (by omega)
    rw [hk]
    clear hk
    go_enter Tryd.func54, Tryd.ntmps54
    go_wp2_with fail
    go_ret
    exact ⟨rfl, rfl⟩
  · have hk : kindC op = 105 := by unfold kindC; rw [if_neg (by omega), if_pos ⟨by omega, by omega⟩]
    have b0 : decide (1 ≤ op) = true := decide_eq_true (by omega)
    have b1 : decide (op ≤ 15) = false := decide_eq_false (by omega)
    have b2 : decide (20 ≤ op) = true := decide_eq_true (by omega)
    have b3 : decide (op ≤ 23) = true := decide_eq_true (by omega)
    have b4 : decide (30 ≤ op) = false := decide_eq_false (by omega)
    rw [hk]
    clear hk
    go_enter Tryd.func54, Tryd.ntmps54
    go_wp2_with fail
    go_ret
    exact ⟨rfl, rfl⟩
  · have hk : kindC op = 0 := by unfold kindC; rw [if_neg (by omega), if_neg (by omega), if_neg (by omega)]
    have b0 : decide (1 ≤ op) = true := decide_eq_true (by omega)
    have b1 : decide (op ≤ 15) = false := decide_eq_false (by omega)
    have b2 : decide (20 ≤ op) = true := decide_eq_true (by omega)
    have b3 : decide (op ≤ 23) = false := decide_eq_false (by omega)
    have b4 : decide (30 ≤ op) = false := decide_eq_false (by omega)
    rw [hk]
    clear hk
    go_enter Tryd.func54, Tryd.ntmps54
    go_wp2_with fail
    go_ret
    exact ⟨rfl, rfl⟩
  · have hk : kindC op = 102 := by unfold kindC; rw [if_neg (by omega), if_neg (by omega), if_pos ⟨by omega, by omega⟩]
    have b0 : decide (1 ≤ op) = true := decide_eq_true (by omega)
    have b1 : decide (op ≤ 15) = false := decide_eq_false (by omega)
    have b2 : decide (20 ≤ op) = true := decide_eq_true (by omega)
    have b3 : decide (op ≤ 23) = false := decide_eq_false (by omega)
    have b4 : decide (30 ≤ op) = true := decide_eq_true (by omega)
    have b5 : decide (op ≤ 51) = true := decide_eq_true (by omega)
    rw [hk]
    clear hk
    go_enter Tryd.func54, Tryd.ntmps54
    go_wp2_with fail
    go_ret
    exact ⟨rfl, rfl⟩
  · have hk : kindC op = 0 := by unfold kindC; rw [if_neg (by omega), if_neg (by omega), if_neg (by omega)]
    have b0 : decide (1 ≤ op) = true := decide_eq_true (by omega)
    have b1 : decide (op ≤ 15) = false := decide_eq_false (by omega)
    have b2 : decide (20 ≤ op) = true := decide_eq_true (by omega)
    have b3 : decide (op ≤ 23) = false := decide_eq_false (by omega)
    have b4 : decide (30 ≤ op) = true := decide_eq_true (by omega)
    have b5 : decide (op ≤ 51) = false := decide_eq_false (by omega)
    rw [hk]
    clear hk
    go_enter Tryd.func54, Tryd.ntmps54
    go_wp2_with fail
    go_ret
    exact ⟨rfl, rfl⟩
def named (op : Int) : Bool := op == 1 || op == 15 || op == 45 || op == 46 || op == 47
/-- Are a node's name and number those that its operator requires? -/
def ownB (x : S24) : Bool := (named x.f0 == nameB x.f1) && (named x.f0 || x.f1.toList.isEmpty) && (if x.f0 = 2 then decide (1 ≤ x.f2) && decide (x.f2 ≤ 3) else if x.f0 = 20 then decide (-64 ≤ x.f2) && decide (x.f2 ≤ 64) else x.f2 == 0)
set_option maxHeartbeats 1000000 in
set_option maxRecDepth 100000 in
theorem own_f1 (x : S24) (w : World) (cs : List Value) (hx : k24.K w x cs) (hsz : x.f1.size ≤ 9223372036854775807) (hop : x.f0 = 1) (hq : nameB x.f1 = false)  : Calls Tryd.prog 55 #[.agg cs.toArray] w (SaysB w (ownB x)) := by
    obtain ⟨A, c, rfl, hlc, hA⟩ := k24_open hx
    have hu24 := Tryd.underlying24
    have HQ := Aside0.mk hq
    have HOP := Aside0.mk hop
    have e1 : (x.f0 == 1) = true := by rw [HOP.out]; rfl
    have e15 : (x.f0 == 15) = false := by rw [HOP.out]; rfl
    have e45 : (x.f0 == 45) = false := by rw [HOP.out]; rfl
    have e46 : (x.f0 == 46) = false := by rw [HOP.out]; rfl
    have e47 : (x.f0 == 47) = false := by rw [HOP.out]; rfl
    have e2 : (x.f0 == 2) = false := by rw [HOP.out]; rfl
    have e20 : (x.f0 == 20) = false := by rw [HOP.out]; rfl
    have HR : Aside0 (ownB x = false) := ⟨by unfold ownB named; rw [hq]; simp only [e1, e15, e45, e46, e47]; rfl⟩
    clear hx hlc hA hq hop
    go_enter Tryd.func55, Tryd.ntmps55
    go_wp2_with ((with_reducible refine gate_dst (N := 1) rfl ?_); refine box_event rfl (N := 1) rfl (cs := #[.int .i64 x.f0, .string x.f1, .int .i64 x.f2, .slice A x.f3.length c, .int .i64 x.f4]) (t := 24) (by first | (go_simp; done) | (go_simp; rfl)) ?_; intro g hg w1 hbk hb1; have HG := Aside0.mk hg; have HB1 := Aside0.mk hb1; clear hg hb1; have z0 := blk_cell hbk 0; have z1 := blk_cell hbk 1; have z2 := blk_cell hbk 2; have z3 := blk_cell hbk 3; have z4 := blk_cell hbk 4)
    refine (name_walk x.f1 w1 hsz).mono ?_
    rintro e w2 ⟨rfl, hb2⟩
    rw [HQ.out]
    have hbk2 := blk_below hbk hb2
    have HB2 := Aside0.mk (below_step HB1.out hb2)
    clear hb2 hbk z0 z1 z2 z3 z4
    have z0 := blk_cell hbk2 0
    have z1 := blk_cell hbk2 1
    have z2 := blk_cell hbk2 2
    have z3 := blk_cell hbk2 3
    have z4 := blk_cell hbk2 4
    go_wp2_with fail
    go_ret
    exact ⟨by rw [HR.out]; rfl, HB2.out⟩
set_option maxHeartbeats 1000000 in
set_option maxRecDepth 100000 in
theorem own_z1 (x : S24) (w : World) (cs : List Value) (hx : k24.K w x cs) (hsz : x.f1.size ≤ 9223372036854775807) (hop : x.f0 = 1) (hq : nameB x.f1 = true) (hn : x.f2 = 0) : Calls Tryd.prog 55 #[.agg cs.toArray] w (SaysB w (ownB x)) := by
    obtain ⟨A, c, rfl, hlc, hA⟩ := k24_open hx
    have hu24 := Tryd.underlying24
    have HQ := Aside0.mk hq
    have HOP := Aside0.mk hop
    have e1 : (x.f0 == 1) = true := by rw [HOP.out]; rfl
    have e15 : (x.f0 == 15) = false := by rw [HOP.out]; rfl
    have e45 : (x.f0 == 45) = false := by rw [HOP.out]; rfl
    have e46 : (x.f0 == 46) = false := by rw [HOP.out]; rfl
    have e47 : (x.f0 == 47) = false := by rw [HOP.out]; rfl
    have e2 : (x.f0 == 2) = false := by rw [HOP.out]; rfl
    have e20 : (x.f0 == 20) = false := by rw [HOP.out]; rfl
    have HR : Aside0 (ownB x = true) := ⟨by unfold ownB named; rw [hq]; simp only [e1, e15, e45, e46, e47]; rw [HOP.out, hn]; rfl⟩
    have n0 : (x.f2 == 0) = true := by rw [hn]; rfl
    clear hn
    clear hx hlc hA hq hop
    go_enter Tryd.func55, Tryd.ntmps55
    go_wp2_with ((with_reducible refine gate_dst (N := 1) rfl ?_); refine box_event rfl (N := 1) rfl (cs := #[.int .i64 x.f0, .string x.f1, .int .i64 x.f2, .slice A x.f3.length c, .int .i64 x.f4]) (t := 24) (by first | (go_simp; done) | (go_simp; rfl)) ?_; intro g hg w1 hbk hb1; have HG := Aside0.mk hg; have HB1 := Aside0.mk hb1; clear hg hb1; have z0 := blk_cell hbk 0; have z1 := blk_cell hbk 1; have z2 := blk_cell hbk 2; have z3 := blk_cell hbk 3; have z4 := blk_cell hbk 4)
    refine (name_walk x.f1 w1 hsz).mono ?_
    rintro e w2 ⟨rfl, hb2⟩
    rw [HQ.out]
    have hbk2 := blk_below hbk hb2
    have HB2 := Aside0.mk (below_step HB1.out hb2)
    clear hb2 hbk z0 z1 z2 z3 z4
    have z0 := blk_cell hbk2 0
    have z1 := blk_cell hbk2 1
    have z2 := blk_cell hbk2 2
    have z3 := blk_cell hbk2 3
    have z4 := blk_cell hbk2 4
    go_wp2_with fail
    go_ret
    exact ⟨by rw [HR.out]; rfl, HB2.out⟩
set_option maxHeartbeats 1000000 in
set_option maxRecDepth 100000 in
theorem own_n1 (x : S24) (w : World) (cs : List Value) (hx : k24.K w x cs) (hsz : x.f1.size ≤ 9223372036854775807) (hop : x.f0 = 1) (hq : nameB x.f1 = true) (hn : x.f2 ≠ 0) : Calls Tryd.prog 55 #[.agg cs.toArray] w (SaysB w (ownB x)) := by
    obtain ⟨A, c, rfl, hlc, hA⟩ := k24_open hx
    have hu24 := Tryd.underlying24
    have HQ := Aside0.mk hq
    have HOP := Aside0.mk hop
    have e1 : (x.f0 == 1) = true := by rw [HOP.out]; rfl
    have e15 : (x.f0 == 15) = false := by rw [HOP.out]; rfl
    have e45 : (x.f0 == 45) = false := by rw [HOP.out]; rfl
    have e46 : (x.f0 == 46) = false := by rw [HOP.out]; rfl
    have e47 : (x.f0 == 47) = false := by rw [HOP.out]; rfl
    have e2 : (x.f0 == 2) = false := by rw [HOP.out]; rfl
    have e20 : (x.f0 == 20) = false := by rw [HOP.out]; rfl
    have HR : Aside0 (ownB x = false) := ⟨by unfold ownB named; rw [hq]; simp only [e1, e15, e45, e46, e47]; rw [HOP.out]; simp [hn]⟩
    have n0 : (x.f2 == 0) = false := by simpa using hn
    clear hx hlc hA hq hop
    go_enter Tryd.func55, Tryd.ntmps55
    go_wp2_with ((with_reducible refine gate_dst (N := 1) rfl ?_); refine box_event rfl (N := 1) rfl (cs := #[.int .i64 x.f0, .string x.f1, .int .i64 x.f2, .slice A x.f3.length c, .int .i64 x.f4]) (t := 24) (by first | (go_simp; done) | (go_simp; rfl)) ?_; intro g hg w1 hbk hb1; have HG := Aside0.mk hg; have HB1 := Aside0.mk hb1; clear hg hb1; have z0 := blk_cell hbk 0; have z1 := blk_cell hbk 1; have z2 := blk_cell hbk 2; have z3 := blk_cell hbk 3; have z4 := blk_cell hbk 4)
    refine (name_walk x.f1 w1 hsz).mono ?_
    rintro e w2 ⟨rfl, hb2⟩
    rw [HQ.out]
    have hbk2 := blk_below hbk hb2
    have HB2 := Aside0.mk (below_step HB1.out hb2)
    clear hb2 hbk z0 z1 z2 z3 z4
    have z0 := blk_cell hbk2 0
    have z1 := blk_cell hbk2 1
    have z2 := blk_cell hbk2 2
    have z3 := blk_cell hbk2 3
    have z4 := blk_cell hbk2 4
    go_wp2_with fail
    go_ret
    exact ⟨by rw [HR.out]; rfl, HB2.out⟩
set_option maxHeartbeats 1000000 in
set_option maxRecDepth 100000 in
theorem own_f15 (x : S24) (w : World) (cs : List Value) (hx : k24.K w x cs) (hsz : x.f1.size ≤ 9223372036854775807) (hop : x.f0 = 15) (hq : nameB x.f1 = false)  : Calls Tryd.prog 55 #[.agg cs.toArray] w (SaysB w (ownB x)) := by
    obtain ⟨A, c, rfl, hlc, hA⟩ := k24_open hx
    have hu24 := Tryd.underlying24
    have HQ := Aside0.mk hq
    have HOP := Aside0.mk hop
    have e1 : (x.f0 == 1) = false := by rw [HOP.out]; rfl
    have e15 : (x.f0 == 15) = true := by rw [HOP.out]; rfl
    have e45 : (x.f0 == 45) = false := by rw [HOP.out]; rfl
    have e46 : (x.f0 == 46) = false := by rw [HOP.out]; rfl
    have e47 : (x.f0 == 47) = false := by rw [HOP.out]; rfl
    have e2 : (x.f0 == 2) = false := by rw [HOP.out]; rfl
    have e20 : (x.f0 == 20) = false := by rw [HOP.out]; rfl
    have HR : Aside0 (ownB x = false) := ⟨by unfold ownB named; rw [hq]; simp only [e1, e15, e45, e46, e47]; rfl⟩
    clear hx hlc hA hq hop
    go_enter Tryd.func55, Tryd.ntmps55
    go_wp2_with ((with_reducible refine gate_dst (N := 1) rfl ?_); refine box_event rfl (N := 1) rfl (cs := #[.int .i64 x.f0, .string x.f1, .int .i64 x.f2, .slice A x.f3.length c, .int .i64 x.f4]) (t := 24) (by first | (go_simp; done) | (go_simp; rfl)) ?_; intro g hg w1 hbk hb1; have HG := Aside0.mk hg; have HB1 := Aside0.mk hb1; clear hg hb1; have z0 := blk_cell hbk 0; have z1 := blk_cell hbk 1; have z2 := blk_cell hbk 2; have z3 := blk_cell hbk 3; have z4 := blk_cell hbk 4)
    refine (name_walk x.f1 w1 hsz).mono ?_
    rintro e w2 ⟨rfl, hb2⟩
    rw [HQ.out]
    have hbk2 := blk_below hbk hb2
    have HB2 := Aside0.mk (below_step HB1.out hb2)
    clear hb2 hbk z0 z1 z2 z3 z4
    have z0 := blk_cell hbk2 0
    have z1 := blk_cell hbk2 1
    have z2 := blk_cell hbk2 2
    have z3 := blk_cell hbk2 3
    have z4 := blk_cell hbk2 4
    go_wp2_with fail
    go_ret
    exact ⟨by rw [HR.out]; rfl, HB2.out⟩
set_option maxHeartbeats 1000000 in
set_option maxRecDepth 100000 in
theorem own_z15 (x : S24) (w : World) (cs : List Value) (hx : k24.K w x cs) (hsz : x.f1.size ≤ 9223372036854775807) (hop : x.f0 = 15) (hq : nameB x.f1 = true) (hn : x.f2 = 0) : Calls Tryd.prog 55 #[.agg cs.toArray] w (SaysB w (ownB x)) := by
    obtain ⟨A, c, rfl, hlc, hA⟩ := k24_open hx
    have hu24 := Tryd.underlying24
    have HQ := Aside0.mk hq
    have HOP := Aside0.mk hop
    have e1 : (x.f0 == 1) = false := by rw [HOP.out]; rfl
    have e15 : (x.f0 == 15) = true := by rw [HOP.out]; rfl
    have e45 : (x.f0 == 45) = false := by rw [HOP.out]; rfl
    have e46 : (x.f0 == 46) = false := by rw [HOP.out]; rfl
    have e47 : (x.f0 == 47) = false := by rw [HOP.out]; rfl
    have e2 : (x.f0 == 2) = false := by rw [HOP.out]; rfl
    have e20 : (x.f0 == 20) = false := by rw [HOP.out]; rfl
    have HR : Aside0 (ownB x = true) := ⟨by unfold ownB named; rw [hq]; simp only [e1, e15, e45, e46, e47]; rw [HOP.out, hn]; rfl⟩
    have n0 : (x.f2 == 0) = true := by rw [hn]; rfl
    clear hn
    clear hx hlc hA hq hop
    go_enter Tryd.func55, Tryd.ntmps55
    go_wp2_with ((with_reducible refine gate_dst (N := 1) rfl ?_); refine box_event rfl (N := 1) rfl (cs := #[.int .i64 x.f0, .string x.f1, .int .i64 x.f2, .slice A x.f3.length c, .int .i64 x.f4]) (t := 24) (by first | (go_simp; done) | (go_simp; rfl)) ?_; intro g hg w1 hbk hb1; have HG := Aside0.mk hg; have HB1 := Aside0.mk hb1; clear hg hb1; have z0 := blk_cell hbk 0; have z1 := blk_cell hbk 1; have z2 := blk_cell hbk 2; have z3 := blk_cell hbk 3; have z4 := blk_cell hbk 4)
    refine (name_walk x.f1 w1 hsz).mono ?_
    rintro e w2 ⟨rfl, hb2⟩
    rw [HQ.out]
    have hbk2 := blk_below hbk hb2
    have HB2 := Aside0.mk (below_step HB1.out hb2)
    clear hb2 hbk z0 z1 z2 z3 z4
    have z0 := blk_cell hbk2 0
    have z1 := blk_cell hbk2 1
    have z2 := blk_cell hbk2 2
    have z3 := blk_cell hbk2 3
    have z4 := blk_cell hbk2 4
    go_wp2_with fail
    go_ret
    exact ⟨by rw [HR.out]; rfl, HB2.out⟩
set_option maxHeartbeats 1000000 in
set_option maxRecDepth 100000 in
theorem own_n15 (x : S24) (w : World) (cs : List Value) (hx : k24.K w x cs) (hsz : x.f1.size ≤ 9223372036854775807) (hop : x.f0 = 15) (hq : nameB x.f1 = true) (hn : x.f2 ≠ 0) : Calls Tryd.prog 55 #[.agg cs.toArray] w (SaysB w (ownB x)) := by
    obtain ⟨A, c, rfl, hlc, hA⟩ := k24_open hx
    have hu24 := Tryd.underlying24
    have HQ := Aside0.mk hq
    have HOP := Aside0.mk hop
    have e1 : (x.f0 == 1) = false := by rw [HOP.out]; rfl
    have e15 : (x.f0 == 15) = true := by rw [HOP.out]; rfl
    have e45 : (x.f0 == 45) = false := by rw [HOP.out]; rfl
    have e46 : (x.f0 == 46) = false := by rw [HOP.out]; rfl
    have e47 : (x.f0 == 47) = false := by rw [HOP.out]; rfl
    have e2 : (x.f0 == 2) = false := by rw [HOP.out]; rfl
    have e20 : (x.f0 == 20) = false := by rw [HOP.out]; rfl
    have HR : Aside0 (ownB x = false) := ⟨by unfold ownB named; rw [hq]; simp only [e1, e15, e45, e46, e47]; rw [HOP.out]; simp [hn]⟩
    have n0 : (x.f2 == 0) = false := by simpa using hn
    clear hx hlc hA hq hop
    go_enter Tryd.func55, Tryd.ntmps55
    go_wp2_with ((with_reducible refine gate_dst (N := 1) rfl ?_); refine box_event rfl (N := 1) rfl (cs := #[.int .i64 x.f0, .string x.f1, .int .i64 x.f2, .slice A x.f3.length c, .int .i64 x.f4]) (t := 24) (by first | (go_simp; done) | (go_simp; rfl)) ?_; intro g hg w1 hbk hb1; have HG := Aside0.mk hg; have HB1 := Aside0.mk hb1; clear hg hb1; have z0 := blk_cell hbk 0; have z1 := blk_cell hbk 1; have z2 := blk_cell hbk 2; have z3 := blk_cell hbk 3; have z4 := blk_cell hbk 4)
    refine (name_walk x.f1 w1 hsz).mono ?_
    rintro e w2 ⟨rfl, hb2⟩
    rw [HQ.out]
    have hbk2 := blk_below hbk hb2
    have HB2 := Aside0.mk (below_step HB1.out hb2)
    clear hb2 hbk z0 z1 z2 z3 z4
    have z0 := blk_cell hbk2 0
    have z1 := blk_cell hbk2 1
    have z2 := blk_cell hbk2 2
    have z3 := blk_cell hbk2 3
    have z4 := blk_cell hbk2 4
    go_wp2_with fail
    go_ret
    exact ⟨by rw [HR.out]; rfl, HB2.out⟩
set_option maxHeartbeats 1000000 in
set_option maxRecDepth 100000 in
theorem own_f45 (x : S24) (w : World) (cs : List Value) (hx : k24.K w x cs) (hsz : x.f1.size ≤ 9223372036854775807) (hop : x.f0 = 45) (hq : nameB x.f1 = false)  : Calls Tryd.prog 55 #[.agg cs.toArray] w (SaysB w (ownB x)) := by
    obtain ⟨A, c, rfl, hlc, hA⟩ := k24_open hx
    have hu24 := Tryd.underlying24
    have HQ := Aside0.mk hq
    have HOP := Aside0.mk hop
    have e1 : (x.f0 == 1) = false := by rw [HOP.out]; rfl
    have e15 : (x.f0 == 15) = false := by rw [HOP.out]; rfl
    have e45 : (x.f0 == 45) = true := by rw [HOP.out]; rfl
    have e46 : (x.f0 == 46) = false := by rw [HOP.out]; rfl
    have e47 : (x.f0 == 47) = false := by rw [HOP.out]; rfl
    have e2 : (x.f0 == 2) = false := by rw [HOP.out]; rfl
    have e20 : (x.f0 == 20) = false := by rw [HOP.out]; rfl
    have HR : Aside0 (ownB x = false) := ⟨by unfold ownB named; rw [hq]; simp only [e1, e15, e45, e46, e47]; rfl⟩
    clear hx hlc hA hq hop
    go_enter Tryd.func55, Tryd.ntmps55
    go_wp2_with ((with_reducible refine gate_dst (N := 1) rfl ?_); refine box_event rfl (N := 1) rfl (cs := #[.int .i64 x.f0, .string x.f1, .int .i64 x.f2, .slice A x.f3.length c, .int .i64 x.f4]) (t := 24) (by first | (go_simp; done) | (go_simp; rfl)) ?_; intro g hg w1 hbk hb1; have HG := Aside0.mk hg; have HB1 := Aside0.mk hb1; clear hg hb1; have z0 := blk_cell hbk 0; have z1 := blk_cell hbk 1; have z2 := blk_cell hbk 2; have z3 := blk_cell hbk 3; have z4 := blk_cell hbk 4)
    refine (name_walk x.f1 w1 hsz).mono ?_
    rintro e w2 ⟨rfl, hb2⟩
    rw [HQ.out]
    have hbk2 := blk_below hbk hb2
    have HB2 := Aside0.mk (below_step HB1.out hb2)
    clear hb2 hbk z0 z1 z2 z3 z4
    have z0 := blk_cell hbk2 0
    have z1 := blk_cell hbk2 1
    have z2 := blk_cell hbk2 2
    have z3 := blk_cell hbk2 3
    have z4 := blk_cell hbk2 4
    go_wp2_with fail
    go_ret
    exact ⟨by rw [HR.out]; rfl, HB2.out⟩
set_option maxHeartbeats 1000000 in
set_option maxRecDepth 100000 in
theorem own_z45 (x : S24) (w : World) (cs : List Value) (hx : k24.K w x cs) (hsz : x.f1.size ≤ 9223372036854775807) (hop : x.f0 = 45) (hq : nameB x.f1 = true) (hn : x.f2 = 0) : Calls Tryd.prog 55 #[.agg cs.toArray] w (SaysB w (ownB x)) := by
    obtain ⟨A, c, rfl, hlc, hA⟩ := k24_open hx
    have hu24 := Tryd.underlying24
    have HQ := Aside0.mk hq
    have HOP := Aside0.mk hop
    have e1 : (x.f0 == 1) = false := by rw [HOP.out]; rfl
    have e15 : (x.f0 == 15) = false := by rw [HOP.out]; rfl
    have e45 : (x.f0 == 45) = true := by rw [HOP.out]; rfl
    have e46 : (x.f0 == 46) = false := by rw [HOP.out]; rfl
    have e47 : (x.f0 == 47) = false := by rw [HOP.out]; rfl
    have e2 : (x.f0 == 2) = false := by rw [HOP.out]; rfl
    have e20 : (x.f0 == 20) = false := by rw [HOP.out]; rfl
    have HR : Aside0 (ownB x = true) := ⟨by unfold ownB named; rw [hq]; simp only [e1, e15, e45, e46, e47]; rw [HOP.out, hn]; rfl⟩
    have n0 : (x.f2 == 0) = true := by rw [hn]; rfl
    clear hn
    clear hx hlc hA hq hop
    go_enter Tryd.func55, Tryd.ntmps55
    go_wp2_with ((with_reducible refine gate_dst (N := 1) rfl ?_); refine box_event rfl (N := 1) rfl (cs := #[.int .i64 x.f0, .string x.f1, .int .i64 x.f2, .slice A x.f3.length c, .int .i64 x.f4]) (t := 24) (by first | (go_simp; done) | (go_simp; rfl)) ?_; intro g hg w1 hbk hb1; have HG := Aside0.mk hg; have HB1 := Aside0.mk hb1; clear hg hb1; have z0 := blk_cell hbk 0; have z1 := blk_cell hbk 1; have z2 := blk_cell hbk 2; have z3 := blk_cell hbk 3; have z4 := blk_cell hbk 4)
    refine (name_walk x.f1 w1 hsz).mono ?_
    rintro e w2 ⟨rfl, hb2⟩
    rw [HQ.out]
    have hbk2 := blk_below hbk hb2
    have HB2 := Aside0.mk (below_step HB1.out hb2)
    clear hb2 hbk z0 z1 z2 z3 z4
    have z0 := blk_cell hbk2 0
    have z1 := blk_cell hbk2 1
    have z2 := blk_cell hbk2 2
    have z3 := blk_cell hbk2 3
    have z4 := blk_cell hbk2 4
    go_wp2_with fail
    go_ret
    exact ⟨by rw [HR.out]; rfl, HB2.out⟩
set_option maxHeartbeats 1000000 in
set_option maxRecDepth 100000 in
theorem own_n45 (x : S24) (w : World) (cs : List Value) (hx : k24.K w x cs) (hsz : x.f1.size ≤ 9223372036854775807) (hop : x.f0 = 45) (hq : nameB x.f1 = true) (hn : x.f2 ≠ 0) : Calls Tryd.prog 55 #[.agg cs.toArray] w (SaysB w (ownB x)) := by
    obtain ⟨A, c, rfl, hlc, hA⟩ := k24_open hx
    have hu24 := Tryd.underlying24
    have HQ := Aside0.mk hq
    have HOP := Aside0.mk hop
    have e1 : (x.f0 == 1) = false := by rw [HOP.out]; rfl
    have e15 : (x.f0 == 15) = false := by rw [HOP.out]; rfl
    have e45 : (x.f0 == 45) = true := by rw [HOP.out]; rfl
    have e46 : (x.f0 == 46) = false := by rw [HOP.out]; rfl
    have e47 : (x.f0 == 47) = false := by rw [HOP.out]; rfl
    have e2 : (x.f0 == 2) = false := by rw [HOP.out]; rfl
    have e20 : (x.f0 == 20) = false := by rw [HOP.out]; rfl
    have HR : Aside0 (ownB x = false) := ⟨by unfold ownB named; rw [hq]; simp only [e1, e15, e45, e46, e47]; rw [HOP.out]; simp [hn]⟩
    have n0 : (x.f2 == 0) = false := by simpa using hn
    clear hx hlc hA hq hop
    go_enter Tryd.func55, Tryd.ntmps55
    go_wp2_with ((with_reducible refine gate_dst (N := 1) rfl ?_); refine box_event rfl (N := 1) rfl (cs := #[.int .i64 x.f0, .string x.f1, .int .i64 x.f2, .slice A x.f3.length c, .int .i64 x.f4]) (t := 24) (by first | (go_simp; done) | (go_simp; rfl)) ?_; intro g hg w1 hbk hb1; have HG := Aside0.mk hg; have HB1 := Aside0.mk hb1; clear hg hb1; have z0 := blk_cell hbk 0; have z1 := blk_cell hbk 1; have z2 := blk_cell hbk 2; have z3 := blk_cell hbk 3; have z4 := blk_cell hbk 4)
    refine (name_walk x.f1 w1 hsz).mono ?_
    rintro e w2 ⟨rfl, hb2⟩
    rw [HQ.out]
    have hbk2 := blk_below hbk hb2
    have HB2 := Aside0.mk (below_step HB1.out hb2)
    clear hb2 hbk z0 z1 z2 z3 z4
    have z0 := blk_cell hbk2 0
    have z1 := blk_cell hbk2 1
    have z2 := blk_cell hbk2 2
    have z3 := blk_cell hbk2 3
    have z4 := blk_cell hbk2 4
    go_wp2_with fail
    go_ret
    exact ⟨by rw [HR.out]; rfl, HB2.out⟩
set_option maxHeartbeats 1000000 in
set_option maxRecDepth 100000 in
theorem own_f46 (x : S24) (w : World) (cs : List Value) (hx : k24.K w x cs) (hsz : x.f1.size ≤ 9223372036854775807) (hop : x.f0 = 46) (hq : nameB x.f1 = false)  : Calls Tryd.prog 55 #[.agg cs.toArray] w (SaysB w (ownB x)) := by
    obtain ⟨A, c, rfl, hlc, hA⟩ := k24_open hx
    have hu24 := Tryd.underlying24
    have HQ := Aside0.mk hq
    have HOP := Aside0.mk hop
    have e1 : (x.f0 == 1) = false := by rw [HOP.out]; rfl
    have e15 : (x.f0 == 15) = false := by rw [HOP.out]; rfl
    have e45 : (x.f0 == 45) = false := by rw [HOP.out]; rfl
    have e46 : (x.f0 == 46) = true := by rw [HOP.out]; rfl
    have e47 : (x.f0 == 47) = false := by rw [HOP.out]; rfl
    have e2 : (x.f0 == 2) = false := by rw [HOP.out]; rfl
    have e20 : (x.f0 == 20) = false := by rw [HOP.out]; rfl
    have HR : Aside0 (ownB x = false) := ⟨by unfold ownB named; rw [hq]; simp only [e1, e15, e45, e46, e47]; rfl⟩
    clear hx hlc hA hq hop
    go_enter Tryd.func55, Tryd.ntmps55
    go_wp2_with ((with_reducible refine gate_dst (N := 1) rfl ?_); refine box_event rfl (N := 1) rfl (cs := #[.int .i64 x.f0, .string x.f1, .int .i64 x.f2, .slice A x.f3.length c, .int .i64 x.f4]) (t := 24) (by first | (go_simp; done) | (go_simp; rfl)) ?_; intro g hg w1 hbk hb1; have HG := Aside0.mk hg; have HB1 := Aside0.mk hb1; clear hg hb1; have z0 := blk_cell hbk 0; have z1 := blk_cell hbk 1; have z2 := blk_cell hbk 2; have z3 := blk_cell hbk 3; have z4 := blk_cell hbk 4)
    refine (name_walk x.f1 w1 hsz).mono ?_
    rintro e w2 ⟨rfl, hb2⟩
    rw [HQ.out]
    have hbk2 := blk_below hbk hb2
    have HB2 := Aside0.mk (below_step HB1.out hb2)
    clear hb2 hbk z0 z1 z2 z3 z4
    have z0 := blk_cell hbk2 0
    have z1 := blk_cell hbk2 1
    have z2 := blk_cell hbk2 2
    have z3 := blk_cell hbk2 3
    have z4 := blk_cell hbk2 4
    go_wp2_with fail
    go_ret
    exact ⟨by rw [HR.out]; rfl, HB2.out⟩
set_option maxHeartbeats 1000000 in
set_option maxRecDepth 100000 in
theorem own_z46 (x : S24) (w : World) (cs : List Value) (hx : k24.K w x cs) (hsz : x.f1.size ≤ 9223372036854775807) (hop : x.f0 = 46) (hq : nameB x.f1 = true) (hn : x.f2 = 0) : Calls Tryd.prog 55 #[.agg cs.toArray] w (SaysB w (ownB x)) := by
    obtain ⟨A, c, rfl, hlc, hA⟩ := k24_open hx
    have hu24 := Tryd.underlying24
    have HQ := Aside0.mk hq
    have HOP := Aside0.mk hop
    have e1 : (x.f0 == 1) = false := by rw [HOP.out]; rfl
    have e15 : (x.f0 == 15) = false := by rw [HOP.out]; rfl
    have e45 : (x.f0 == 45) = false := by rw [HOP.out]; rfl
    have e46 : (x.f0 == 46) = true := by rw [HOP.out]; rfl
    have e47 : (x.f0 == 47) = false := by rw [HOP.out]; rfl
    have e2 : (x.f0 == 2) = false := by rw [HOP.out]; rfl
    have e20 : (x.f0 == 20) = false := by rw [HOP.out]; rfl
    have HR : Aside0 (ownB x = true) := ⟨by unfold ownB named; rw [hq]; simp only [e1, e15, e45, e46, e47]; rw [HOP.out, hn]; rfl⟩
    have n0 : (x.f2 == 0) = true := by rw [hn]; rfl
    clear hn
    clear hx hlc hA hq hop
    go_enter Tryd.func55, Tryd.ntmps55
    go_wp2_with ((with_reducible refine gate_dst (N := 1) rfl ?_); refine box_event rfl (N := 1) rfl (cs := #[.int .i64 x.f0, .string x.f1, .int .i64 x.f2, .slice A x.f3.length c, .int .i64 x.f4]) (t := 24) (by first | (go_simp; done) | (go_simp; rfl)) ?_; intro g hg w1 hbk hb1; have HG := Aside0.mk hg; have HB1 := Aside0.mk hb1; clear hg hb1; have z0 := blk_cell hbk 0; have z1 := blk_cell hbk 1; have z2 := blk_cell hbk 2; have z3 := blk_cell hbk 3; have z4 := blk_cell hbk 4)
    refine (name_walk x.f1 w1 hsz).mono ?_
    rintro e w2 ⟨rfl, hb2⟩
    rw [HQ.out]
    have hbk2 := blk_below hbk hb2
    have HB2 := Aside0.mk (below_step HB1.out hb2)
    clear hb2 hbk z0 z1 z2 z3 z4
    have z0 := blk_cell hbk2 0
    have z1 := blk_cell hbk2 1
    have z2 := blk_cell hbk2 2
    have z3 := blk_cell hbk2 3
    have z4 := blk_cell hbk2 4
    go_wp2_with fail
    go_ret
    exact ⟨by rw [HR.out]; rfl, HB2.out⟩
set_option maxHeartbeats 1000000 in
set_option maxRecDepth 100000 in
theorem own_n46 (x : S24) (w : World) (cs : List Value) (hx : k24.K w x cs) (hsz : x.f1.size ≤ 9223372036854775807) (hop : x.f0 = 46) (hq : nameB x.f1 = true) (hn : x.f2 ≠ 0) : Calls Tryd.prog 55 #[.agg cs.toArray] w (SaysB w (ownB x)) := by
    obtain ⟨A, c, rfl, hlc, hA⟩ := k24_open hx
    have hu24 := Tryd.underlying24
    have HQ := Aside0.mk hq
    have HOP := Aside0.mk hop
    have e1 : (x.f0 == 1) = false := by rw [HOP.out]; rfl
    have e15 : (x.f0 == 15) = false := by rw [HOP.out]; rfl
    have e45 : (x.f0 == 45) = false := by rw [HOP.out]; rfl
    have e46 : (x.f0 == 46) = true := by rw [HOP.out]; rfl
    have e47 : (x.f0 == 47) = false := by rw [HOP.out]; rfl
    have e2 : (x.f0 == 2) = false := by rw [HOP.out]; rfl
    have e20 : (x.f0 == 20) = false := by rw [HOP.out]; rfl
    have HR : Aside0 (ownB x = false) := ⟨by unfold ownB named; rw [hq]; simp only [e1, e15, e45, e46, e47]; rw [HOP.out]; simp [hn]⟩
    have n0 : (x.f2 == 0) = false := by simpa using hn
    clear hx hlc hA hq hop
    go_enter Tryd.func55, Tryd.ntmps55
    go_wp2_with ((with_reducible refine gate_dst (N := 1) rfl ?_); refine box_event rfl (N := 1) rfl (cs := #[.int .i64 x.f0, .string x.f1, .int .i64 x.f2, .slice A x.f3.length c, .int .i64 x.f4]) (t := 24) (by first | (go_simp; done) | (go_simp; rfl)) ?_; intro g hg w1 hbk hb1; have HG := Aside0.mk hg; have HB1 := Aside0.mk hb1; clear hg hb1; have z0 := blk_cell hbk 0; have z1 := blk_cell hbk 1; have z2 := blk_cell hbk 2; have z3 := blk_cell hbk 3; have z4 := blk_cell hbk 4)
    refine (name_walk x.f1 w1 hsz).mono ?_
    rintro e w2 ⟨rfl, hb2⟩
    rw [HQ.out]
    have hbk2 := blk_below hbk hb2
    have HB2 := Aside0.mk (below_step HB1.out hb2)
    clear hb2 hbk z0 z1 z2 z3 z4
    have z0 := blk_cell hbk2 0
    have z1 := blk_cell hbk2 1
    have z2 := blk_cell hbk2 2
    have z3 := blk_cell hbk2 3
    have z4 := blk_cell hbk2 4
    go_wp2_with fail
    go_ret
    exact ⟨by rw [HR.out]; rfl, HB2.out⟩
set_option maxHeartbeats 1000000 in
set_option maxRecDepth 100000 in
theorem own_f47 (x : S24) (w : World) (cs : List Value) (hx : k24.K w x cs) (hsz : x.f1.size ≤ 9223372036854775807) (hop : x.f0 = 47) (hq : nameB x.f1 = false)  : Calls Tryd.prog 55 #[.agg cs.toArray] w (SaysB w (ownB x)) := by
    obtain ⟨A, c, rfl, hlc, hA⟩ := k24_open hx
    have hu24 := Tryd.underlying24
    have HQ := Aside0.mk hq
    have HOP := Aside0.mk hop
    have e1 : (x.f0 == 1) = false := by rw [HOP.out]; rfl
    have e15 : (x.f0 == 15) = false := by rw [HOP.out]; rfl
    have e45 : (x.f0 == 45) = false := by rw [HOP.out]; rfl
    have e46 : (x.f0 == 46) = false := by rw [HOP.out]; rfl
    have e47 : (x.f0 == 47) = true := by rw [HOP.out]; rfl
    have e2 : (x.f0 == 2) = false := by rw [HOP.out]; rfl
    have e20 : (x.f0 == 20) = false := by rw [HOP.out]; rfl
    have HR : Aside0 (ownB x = false) := ⟨by unfold ownB named; rw [hq]; simp only [e1, e15, e45, e46, e47]; rfl⟩
    clear hx hlc hA hq hop
    go_enter Tryd.func55, Tryd.ntmps55
    go_wp2_with ((with_reducible refine gate_dst (N := 1) rfl ?_); refine box_event rfl (N := 1) rfl (cs := #[.int .i64 x.f0, .string x.f1, .int .i64 x.f2, .slice A x.f3.length c, .int .i64 x.f4]) (t := 24) (by first | (go_simp; done) | (go_simp; rfl)) ?_; intro g hg w1 hbk hb1; have HG := Aside0.mk hg; have HB1 := Aside0.mk hb1; clear hg hb1; have z0 := blk_cell hbk 0; have z1 := blk_cell hbk 1; have z2 := blk_cell hbk 2; have z3 := blk_cell hbk 3; have z4 := blk_cell hbk 4)
    refine (name_walk x.f1 w1 hsz).mono ?_
    rintro e w2 ⟨rfl, hb2⟩
    rw [HQ.out]
    have hbk2 := blk_below hbk hb2
    have HB2 := Aside0.mk (below_step HB1.out hb2)
    clear hb2 hbk z0 z1 z2 z3 z4
    have z0 := blk_cell hbk2 0
    have z1 := blk_cell hbk2 1
    have z2 := blk_cell hbk2 2
    have z3 := blk_cell hbk2 3
    have z4 := blk_cell hbk2 4
    go_wp2_with fail
    go_ret
    exact ⟨by rw [HR.out]; rfl, HB2.out⟩
set_option maxHeartbeats 1000000 in
set_option maxRecDepth 100000 in
theorem own_z47 (x : S24) (w : World) (cs : List Value) (hx : k24.K w x cs) (hsz : x.f1.size ≤ 9223372036854775807) (hop : x.f0 = 47) (hq : nameB x.f1 = true) (hn : x.f2 = 0) : Calls Tryd.prog 55 #[.agg cs.toArray] w (SaysB w (ownB x)) := by
    obtain ⟨A, c, rfl, hlc, hA⟩ := k24_open hx
    have hu24 := Tryd.underlying24
    have HQ := Aside0.mk hq
    have HOP := Aside0.mk hop
    have e1 : (x.f0 == 1) = false := by rw [HOP.out]; rfl
    have e15 : (x.f0 == 15) = false := by rw [HOP.out]; rfl
    have e45 : (x.f0 == 45) = false := by rw [HOP.out]; rfl
    have e46 : (x.f0 == 46) = false := by rw [HOP.out]; rfl
    have e47 : (x.f0 == 47) = true := by rw [HOP.out]; rfl
    have e2 : (x.f0 == 2) = false := by rw [HOP.out]; rfl
    have e20 : (x.f0 == 20) = false := by rw [HOP.out]; rfl
    have HR : Aside0 (ownB x = true) := ⟨by unfold ownB named; rw [hq]; simp only [e1, e15, e45, e46, e47]; rw [HOP.out, hn]; rfl⟩
    have n0 : (x.f2 == 0) = true := by rw [hn]; rfl
    clear hn
    clear hx hlc hA hq hop
    go_enter Tryd.func55, Tryd.ntmps55
    go_wp2_with ((with_reducible refine gate_dst (N := 1) rfl ?_); refine box_event rfl (N := 1) rfl (cs := #[.int .i64 x.f0, .string x.f1, .int .i64 x.f2, .slice A x.f3.length c, .int .i64 x.f4]) (t := 24) (by first | (go_simp; done) | (go_simp; rfl)) ?_; intro g hg w1 hbk hb1; have HG := Aside0.mk hg; have HB1 := Aside0.mk hb1; clear hg hb1; have z0 := blk_cell hbk 0; have z1 := blk_cell hbk 1; have z2 := blk_cell hbk 2; have z3 := blk_cell hbk 3; have z4 := blk_cell hbk 4)
    refine (name_walk x.f1 w1 hsz).mono ?_
    rintro e w2 ⟨rfl, hb2⟩
    rw [HQ.out]
    have hbk2 := blk_below hbk hb2
    have HB2 := Aside0.mk (below_step HB1.out hb2)
    clear hb2 hbk z0 z1 z2 z3 z4
    have z0 := blk_cell hbk2 0
    have z1 := blk_cell hbk2 1
    have z2 := blk_cell hbk2 2
    have z3 := blk_cell hbk2 3
    have z4 := blk_cell hbk2 4
    go_wp2_with fail
    go_ret
    exact ⟨by rw [HR.out]; rfl, HB2.out⟩
set_option maxHeartbeats 1000000 in
set_option maxRecDepth 100000 in
theorem own_n47 (x : S24) (w : World) (cs : List Value) (hx : k24.K w x cs) (hsz : x.f1.size ≤ 9223372036854775807) (hop : x.f0 = 47) (hq : nameB x.f1 = true) (hn : x.f2 ≠ 0) : Calls Tryd.prog 55 #[.agg cs.toArray] w (SaysB w (ownB x)) := by
    obtain ⟨A, c, rfl, hlc, hA⟩ := k24_open hx
    have hu24 := Tryd.underlying24
    have HQ := Aside0.mk hq
    have HOP := Aside0.mk hop
    have e1 : (x.f0 == 1) = false := by rw [HOP.out]; rfl
    have e15 : (x.f0 == 15) = false := by rw [HOP.out]; rfl
    have e45 : (x.f0 == 45) = false := by rw [HOP.out]; rfl
    have e46 : (x.f0 == 46) = false := by rw [HOP.out]; rfl
    have e47 : (x.f0 == 47) = true := by rw [HOP.out]; rfl
    have e2 : (x.f0 == 2) = false := by rw [HOP.out]; rfl
    have e20 : (x.f0 == 20) = false := by rw [HOP.out]; rfl
    have HR : Aside0 (ownB x = false) := ⟨by unfold ownB named; rw [hq]; simp only [e1, e15, e45, e46, e47]; rw [HOP.out]; simp [hn]⟩
    have n0 : (x.f2 == 0) = false := by simpa using hn
    clear hx hlc hA hq hop
    go_enter Tryd.func55, Tryd.ntmps55
    go_wp2_with ((with_reducible refine gate_dst (N := 1) rfl ?_); refine box_event rfl (N := 1) rfl (cs := #[.int .i64 x.f0, .string x.f1, .int .i64 x.f2, .slice A x.f3.length c, .int .i64 x.f4]) (t := 24) (by first | (go_simp; done) | (go_simp; rfl)) ?_; intro g hg w1 hbk hb1; have HG := Aside0.mk hg; have HB1 := Aside0.mk hb1; clear hg hb1; have z0 := blk_cell hbk 0; have z1 := blk_cell hbk 1; have z2 := blk_cell hbk 2; have z3 := blk_cell hbk 3; have z4 := blk_cell hbk 4)
    refine (name_walk x.f1 w1 hsz).mono ?_
    rintro e w2 ⟨rfl, hb2⟩
    rw [HQ.out]
    have hbk2 := blk_below hbk hb2
    have HB2 := Aside0.mk (below_step HB1.out hb2)
    clear hb2 hbk z0 z1 z2 z3 z4
    have z0 := blk_cell hbk2 0
    have z1 := blk_cell hbk2 1
    have z2 := blk_cell hbk2 2
    have z3 := blk_cell hbk2 3
    have z4 := blk_cell hbk2 4
    go_wp2_with fail
    go_ret
    exact ⟨by rw [HR.out]; rfl, HB2.out⟩
set_option maxHeartbeats 1000000 in
set_option maxRecDepth 100000 in
theorem own_ut (x : S24) (w : World) (cs : List Value) (hx : k24.K w x cs) (hsz : x.f1.size ≤ 9223372036854775807) (hno : ∀ k ∈ ([1, 15, 45, 46, 47, 2, 20] : List Int), x.f0 ≠ k) (hq : nameB x.f1 = true)  : Calls Tryd.prog 55 #[.agg cs.toArray] w (SaysB w (ownB x)) := by
    obtain ⟨A, c, rfl, hlc, hA⟩ := k24_open hx
    have hu24 := Tryd.underlying24
    have HQ := Aside0.mk hq
    have HNO := Aside0.mk hno
    have e1 : (x.f0 == 1) = false := by simpa using HNO.out 1 (by decide)
    have e15 : (x.f0 == 15) = false := by simpa using HNO.out 15 (by decide)
    have e45 : (x.f0 == 45) = false := by simpa using HNO.out 45 (by decide)
    have e46 : (x.f0 == 46) = false := by simpa using HNO.out 46 (by decide)
    have e47 : (x.f0 == 47) = false := by simpa using HNO.out 47 (by decide)
    have e2 : (x.f0 == 2) = false := by simpa using HNO.out 2 (by decide)
    have e20 : (x.f0 == 20) = false := by simpa using HNO.out 20 (by decide)
    have HR : Aside0 (ownB x = false) := ⟨by unfold ownB named; rw [hq]; simp only [e1, e15, e45, e46, e47]; rfl⟩
    clear hx hlc hA hq hno
    go_enter Tryd.func55, Tryd.ntmps55
    go_wp2_with ((with_reducible refine gate_dst (N := 1) rfl ?_); refine box_event rfl (N := 1) rfl (cs := #[.int .i64 x.f0, .string x.f1, .int .i64 x.f2, .slice A x.f3.length c, .int .i64 x.f4]) (t := 24) (by first | (go_simp; done) | (go_simp; rfl)) ?_; intro g hg w1 hbk hb1; have HG := Aside0.mk hg; have HB1 := Aside0.mk hb1; clear hg hb1; have z0 := blk_cell hbk 0; have z1 := blk_cell hbk 1; have z2 := blk_cell hbk 2; have z3 := blk_cell hbk 3; have z4 := blk_cell hbk 4)
    refine (name_walk x.f1 w1 hsz).mono ?_
    rintro e w2 ⟨rfl, hb2⟩
    rw [HQ.out]
    have hbk2 := blk_below hbk hb2
    have HB2 := Aside0.mk (below_step HB1.out hb2)
    clear hb2 hbk z0 z1 z2 z3 z4
    have z0 := blk_cell hbk2 0
    have z1 := blk_cell hbk2 1
    have z2 := blk_cell hbk2 2
    have z3 := blk_cell hbk2 3
    have z4 := blk_cell hbk2 4
    go_wp2_with fail
    go_ret
    exact ⟨by rw [HR.out]; rfl, HB2.out⟩
set_option maxHeartbeats 1000000 in
set_option maxRecDepth 100000 in
theorem own_ue (x : S24) (w : World) (cs : List Value) (hx : k24.K w x cs) (hsz : x.f1.size ≤ 9223372036854775807) (hno : ∀ k ∈ ([1, 15, 45, 46, 47, 2, 20] : List Int), x.f0 ≠ k) (hq : nameB x.f1 = false) (hm : x.f1.toList.isEmpty = false) : Calls Tryd.prog 55 #[.agg cs.toArray] w (SaysB w (ownB x)) := by
    obtain ⟨A, c, rfl, hlc, hA⟩ := k24_open hx
    have hu24 := Tryd.underlying24
    have HQ := Aside0.mk hq
    have HNO := Aside0.mk hno
    have e1 : (x.f0 == 1) = false := by simpa using HNO.out 1 (by decide)
    have e15 : (x.f0 == 15) = false := by simpa using HNO.out 15 (by decide)
    have e45 : (x.f0 == 45) = false := by simpa using HNO.out 45 (by decide)
    have e46 : (x.f0 == 46) = false := by simpa using HNO.out 46 (by decide)
    have e47 : (x.f0 == 47) = false := by simpa using HNO.out 47 (by decide)
    have e2 : (x.f0 == 2) = false := by simpa using HNO.out 2 (by decide)
    have e20 : (x.f0 == 20) = false := by simpa using HNO.out 20 (by decide)
    have HR : Aside0 (ownB x = false) := ⟨by unfold ownB named; rw [hq]; simp only [e1, e15, e45, e46, e47]; rw [hm]; rfl⟩
    have m1 : x.f1.toList.isEmpty = false := hm
    have m2 : (x.f1.toList == []) = false := by rw [← hm]; cases x.f1.toList <;> rfl
    have m3 : (x.f1.toList != []) = true := by rw [bne, m2]; rfl
    clear hx hlc hA hq hno
    go_enter Tryd.func55, Tryd.ntmps55
    go_wp2_with ((with_reducible refine gate_dst (N := 1) rfl ?_); refine box_event rfl (N := 1) rfl (cs := #[.int .i64 x.f0, .string x.f1, .int .i64 x.f2, .slice A x.f3.length c, .int .i64 x.f4]) (t := 24) (by first | (go_simp; done) | (go_simp; rfl)) ?_; intro g hg w1 hbk hb1; have HG := Aside0.mk hg; have HB1 := Aside0.mk hb1; clear hg hb1; have z0 := blk_cell hbk 0; have z1 := blk_cell hbk 1; have z2 := blk_cell hbk 2; have z3 := blk_cell hbk 3; have z4 := blk_cell hbk 4)
    refine (name_walk x.f1 w1 hsz).mono ?_
    rintro e w2 ⟨rfl, hb2⟩
    rw [HQ.out]
    have hbk2 := blk_below hbk hb2
    have HB2 := Aside0.mk (below_step HB1.out hb2)
    clear hb2 hbk z0 z1 z2 z3 z4
    have z0 := blk_cell hbk2 0
    have z1 := blk_cell hbk2 1
    have z2 := blk_cell hbk2 2
    have z3 := blk_cell hbk2 3
    have z4 := blk_cell hbk2 4
    go_wp2_with fail
    go_ret
    exact ⟨by rw [HR.out]; rfl, HB2.out⟩
set_option maxHeartbeats 1000000 in
set_option maxRecDepth 100000 in
theorem own_v2t (x : S24) (w : World) (cs : List Value) (hx : k24.K w x cs) (hsz : x.f1.size ≤ 9223372036854775807) (hop : x.f0 = 2) (hq : nameB x.f1 = true)  : Calls Tryd.prog 55 #[.agg cs.toArray] w (SaysB w (ownB x)) := by
    obtain ⟨A, c, rfl, hlc, hA⟩ := k24_open hx
    have hu24 := Tryd.underlying24
    have HQ := Aside0.mk hq
    have HOP := Aside0.mk hop
    have e1 : (x.f0 == 1) = false := by rw [HOP.out]; rfl
    have e15 : (x.f0 == 15) = false := by rw [HOP.out]; rfl
    have e45 : (x.f0 == 45) = false := by rw [HOP.out]; rfl
    have e46 : (x.f0 == 46) = false := by rw [HOP.out]; rfl
    have e47 : (x.f0 == 47) = false := by rw [HOP.out]; rfl
    have e2 : (x.f0 == 2) = true := by rw [HOP.out]; rfl
    have e20 : (x.f0 == 20) = false := by rw [HOP.out]; rfl
    have HR : Aside0 (ownB x = false) := ⟨by unfold ownB named; rw [hq]; simp only [e1, e15, e45, e46, e47]; rfl⟩
    clear hx hlc hA hq hop
    go_enter Tryd.func55, Tryd.ntmps55
    go_wp2_with ((with_reducible refine gate_dst (N := 1) rfl ?_); refine box_event rfl (N := 1) rfl (cs := #[.int .i64 x.f0, .string x.f1, .int .i64 x.f2, .slice A x.f3.length c, .int .i64 x.f4]) (t := 24) (by first | (go_simp; done) | (go_simp; rfl)) ?_; intro g hg w1 hbk hb1; have HG := Aside0.mk hg; have HB1 := Aside0.mk hb1; clear hg hb1; have z0 := blk_cell hbk 0; have z1 := blk_cell hbk 1; have z2 := blk_cell hbk 2; have z3 := blk_cell hbk 3; have z4 := blk_cell hbk 4)
    refine (name_walk x.f1 w1 hsz).mono ?_
    rintro e w2 ⟨rfl, hb2⟩
    rw [HQ.out]
    have hbk2 := blk_below hbk hb2
    have HB2 := Aside0.mk (below_step HB1.out hb2)
    clear hb2 hbk z0 z1 z2 z3 z4
    have z0 := blk_cell hbk2 0
    have z1 := blk_cell hbk2 1
    have z2 := blk_cell hbk2 2
    have z3 := blk_cell hbk2 3
    have z4 := blk_cell hbk2 4
    go_wp2_with fail
    go_ret
    exact ⟨by rw [HR.out]; rfl, HB2.out⟩
set_option maxHeartbeats 1000000 in
set_option maxRecDepth 100000 in
theorem own_v2e (x : S24) (w : World) (cs : List Value) (hx : k24.K w x cs) (hsz : x.f1.size ≤ 9223372036854775807) (hop : x.f0 = 2) (hq : nameB x.f1 = false) (hm : x.f1.toList.isEmpty = false) : Calls Tryd.prog 55 #[.agg cs.toArray] w (SaysB w (ownB x)) := by
    obtain ⟨A, c, rfl, hlc, hA⟩ := k24_open hx
    have hu24 := Tryd.underlying24
    have HQ := Aside0.mk hq
    have HOP := Aside0.mk hop
    have e1 : (x.f0 == 1) = false := by rw [HOP.out]; rfl
    have e15 : (x.f0 == 15) = false := by rw [HOP.out]; rfl
    have e45 : (x.f0 == 45) = false := by rw [HOP.out]; rfl
    have e46 : (x.f0 == 46) = false := by rw [HOP.out]; rfl
    have e47 : (x.f0 == 47) = false := by rw [HOP.out]; rfl
    have e2 : (x.f0 == 2) = true := by rw [HOP.out]; rfl
    have e20 : (x.f0 == 20) = false := by rw [HOP.out]; rfl
    have HR : Aside0 (ownB x = false) := ⟨by unfold ownB named; rw [hq]; simp only [e1, e15, e45, e46, e47]; rw [hm]; rfl⟩
    have m1 : x.f1.toList.isEmpty = false := hm
    have m2 : (x.f1.toList == []) = false := by rw [← hm]; cases x.f1.toList <;> rfl
    have m3 : (x.f1.toList != []) = true := by rw [bne, m2]; rfl
    clear hx hlc hA hq hop
    go_enter Tryd.func55, Tryd.ntmps55
    go_wp2_with ((with_reducible refine gate_dst (N := 1) rfl ?_); refine box_event rfl (N := 1) rfl (cs := #[.int .i64 x.f0, .string x.f1, .int .i64 x.f2, .slice A x.f3.length c, .int .i64 x.f4]) (t := 24) (by first | (go_simp; done) | (go_simp; rfl)) ?_; intro g hg w1 hbk hb1; have HG := Aside0.mk hg; have HB1 := Aside0.mk hb1; clear hg hb1; have z0 := blk_cell hbk 0; have z1 := blk_cell hbk 1; have z2 := blk_cell hbk 2; have z3 := blk_cell hbk 3; have z4 := blk_cell hbk 4)
    refine (name_walk x.f1 w1 hsz).mono ?_
    rintro e w2 ⟨rfl, hb2⟩
    rw [HQ.out]
    have hbk2 := blk_below hbk hb2
    have HB2 := Aside0.mk (below_step HB1.out hb2)
    clear hb2 hbk z0 z1 z2 z3 z4
    have z0 := blk_cell hbk2 0
    have z1 := blk_cell hbk2 1
    have z2 := blk_cell hbk2 2
    have z3 := blk_cell hbk2 3
    have z4 := blk_cell hbk2 4
    go_wp2_with fail
    go_ret
    exact ⟨by rw [HR.out]; rfl, HB2.out⟩
set_option maxHeartbeats 1000000 in
set_option maxRecDepth 100000 in
theorem own_v20t (x : S24) (w : World) (cs : List Value) (hx : k24.K w x cs) (hsz : x.f1.size ≤ 9223372036854775807) (hop : x.f0 = 20) (hq : nameB x.f1 = true)  : Calls Tryd.prog 55 #[.agg cs.toArray] w (SaysB w (ownB x)) := by
    obtain ⟨A, c, rfl, hlc, hA⟩ := k24_open hx
    have hu24 := Tryd.underlying24
    have HQ := Aside0.mk hq
    have HOP := Aside0.mk hop
    have e1 : (x.f0 == 1) = false := by rw [HOP.out]; rfl
    have e15 : (x.f0 == 15) = false := by rw [HOP.out]; rfl
    have e45 : (x.f0 == 45) = false := by rw [HOP.out]; rfl
    have e46 : (x.f0 == 46) = false := by rw [HOP.out]; rfl
    have e47 : (x.f0 == 47) = false := by rw [HOP.out]; rfl
    have e2 : (x.f0 == 2) = false := by rw [HOP.out]; rfl
    have e20 : (x.f0 == 20) = true := by rw [HOP.out]; rfl
    have HR : Aside0 (ownB x = false) := ⟨by unfold ownB named; rw [hq]; simp only [e1, e15, e45, e46, e47]; rfl⟩
    clear hx hlc hA hq hop
    go_enter Tryd.func55, Tryd.ntmps55
    go_wp2_with ((with_reducible refine gate_dst (N := 1) rfl ?_); refine box_event rfl (N := 1) rfl (cs := #[.int .i64 x.f0, .string x.f1, .int .i64 x.f2, .slice A x.f3.length c, .int .i64 x.f4]) (t := 24) (by first | (go_simp; done) | (go_simp; rfl)) ?_; intro g hg w1 hbk hb1; have HG := Aside0.mk hg; have HB1 := Aside0.mk hb1; clear hg hb1; have z0 := blk_cell hbk 0; have z1 := blk_cell hbk 1; have z2 := blk_cell hbk 2; have z3 := blk_cell hbk 3; have z4 := blk_cell hbk 4)
    refine (name_walk x.f1 w1 hsz).mono ?_
    rintro e w2 ⟨rfl, hb2⟩
    rw [HQ.out]
    have hbk2 := blk_below hbk hb2
    have HB2 := Aside0.mk (below_step HB1.out hb2)
    clear hb2 hbk z0 z1 z2 z3 z4
    have z0 := blk_cell hbk2 0
    have z1 := blk_cell hbk2 1
    have z2 := blk_cell hbk2 2
    have z3 := blk_cell hbk2 3
    have z4 := blk_cell hbk2 4
    go_wp2_with fail
    go_ret
    exact ⟨by rw [HR.out]; rfl, HB2.out⟩
set_option maxHeartbeats 1000000 in
set_option maxRecDepth 100000 in
theorem own_v20e (x : S24) (w : World) (cs : List Value) (hx : k24.K w x cs) (hsz : x.f1.size ≤ 9223372036854775807) (hop : x.f0 = 20) (hq : nameB x.f1 = false) (hm : x.f1.toList.isEmpty = false) : Calls Tryd.prog 55 #[.agg cs.toArray] w (SaysB w (ownB x)) := by
    obtain ⟨A, c, rfl, hlc, hA⟩ := k24_open hx
    have hu24 := Tryd.underlying24
    have HQ := Aside0.mk hq
    have HOP := Aside0.mk hop
    have e1 : (x.f0 == 1) = false := by rw [HOP.out]; rfl
    have e15 : (x.f0 == 15) = false := by rw [HOP.out]; rfl
    have e45 : (x.f0 == 45) = false := by rw [HOP.out]; rfl
    have e46 : (x.f0 == 46) = false := by rw [HOP.out]; rfl
    have e47 : (x.f0 == 47) = false := by rw [HOP.out]; rfl
    have e2 : (x.f0 == 2) = false := by rw [HOP.out]; rfl
    have e20 : (x.f0 == 20) = true := by rw [HOP.out]; rfl
    have HR : Aside0 (ownB x = false) := ⟨by unfold ownB named; rw [hq]; simp only [e1, e15, e45, e46, e47]; rw [hm]; rfl⟩
    have m1 : x.f1.toList.isEmpty = false := hm
    have m2 : (x.f1.toList == []) = false := by rw [← hm]; cases x.f1.toList <;> rfl
    have m3 : (x.f1.toList != []) = true := by rw [bne, m2]; rfl
    clear hx hlc hA hq hop
    go_enter Tryd.func55, Tryd.ntmps55
    go_wp2_with ((with_reducible refine gate_dst (N := 1) rfl ?_); refine box_event rfl (N := 1) rfl (cs := #[.int .i64 x.f0, .string x.f1, .int .i64 x.f2, .slice A x.f3.length c, .int .i64 x.f4]) (t := 24) (by first | (go_simp; done) | (go_simp; rfl)) ?_; intro g hg w1 hbk hb1; have HG := Aside0.mk hg; have HB1 := Aside0.mk hb1; clear hg hb1; have z0 := blk_cell hbk 0; have z1 := blk_cell hbk 1; have z2 := blk_cell hbk 2; have z3 := blk_cell hbk 3; have z4 := blk_cell hbk 4)
    refine (name_walk x.f1 w1 hsz).mono ?_
    rintro e w2 ⟨rfl, hb2⟩
    rw [HQ.out]
    have hbk2 := blk_below hbk hb2
    have HB2 := Aside0.mk (below_step HB1.out hb2)
    clear hb2 hbk z0 z1 z2 z3 z4
    have z0 := blk_cell hbk2 0
    have z1 := blk_cell hbk2 1
    have z2 := blk_cell hbk2 2
    have z3 := blk_cell hbk2 3
    have z4 := blk_cell hbk2 4
    go_wp2_with fail
    go_ret
    exact ⟨by rw [HR.out]; rfl, HB2.out⟩
set_option maxHeartbeats 1000000 in
set_option maxRecDepth 100000 in
theorem own_uz (x : S24) (w : World) (cs : List Value) (hx : k24.K w x cs) (hsz : x.f1.size ≤ 9223372036854775807) (hno : ∀ k ∈ ([1, 15, 45, 46, 47, 2, 20] : List Int), x.f0 ≠ k) (hq : nameB x.f1 = false) (hm : x.f1.toList.isEmpty = true) (hn : x.f2 = 0) : Calls Tryd.prog 55 #[.agg cs.toArray] w (SaysB w (ownB x)) := by
    obtain ⟨A, c, rfl, hlc, hA⟩ := k24_open hx
    have hu24 := Tryd.underlying24
    have HQ := Aside0.mk hq
    have HNO := Aside0.mk hno
    have e1 : (x.f0 == 1) = false := by simpa using HNO.out 1 (by decide)
    have e15 : (x.f0 == 15) = false := by simpa using HNO.out 15 (by decide)
    have e45 : (x.f0 == 45) = false := by simpa using HNO.out 45 (by decide)
    have e46 : (x.f0 == 46) = false := by simpa using HNO.out 46 (by decide)
    have e47 : (x.f0 == 47) = false := by simpa using HNO.out 47 (by decide)
    have e2 : (x.f0 == 2) = false := by simpa using HNO.out 2 (by decide)
    have e20 : (x.f0 == 20) = false := by simpa using HNO.out 20 (by decide)
    have HR : Aside0 (ownB x = true) := ⟨by unfold ownB named; rw [hq]; simp only [e1, e15, e45, e46, e47]; rw [hm, if_neg (by simpa using e2), if_neg (by simpa using e20), hn]; rfl⟩
    have m1 : x.f1.toList.isEmpty = true := hm
    have m2 : (x.f1.toList == []) = true := by rw [← hm]; cases x.f1.toList <;> rfl
    have m3 : (x.f1.toList != []) = false := by rw [bne, m2]; rfl
    have n0 : (x.f2 == 0) = true := by rw [hn]; rfl
    clear hn
    clear hx hlc hA hq hno
    go_enter Tryd.func55, Tryd.ntmps55
    go_wp2_with ((with_reducible refine gate_dst (N := 1) rfl ?_); refine box_event rfl (N := 1) rfl (cs := #[.int .i64 x.f0, .string x.f1, .int .i64 x.f2, .slice A x.f3.length c, .int .i64 x.f4]) (t := 24) (by first | (go_simp; done) | (go_simp; rfl)) ?_; intro g hg w1 hbk hb1; have HG := Aside0.mk hg; have HB1 := Aside0.mk hb1; clear hg hb1; have z0 := blk_cell hbk 0; have z1 := blk_cell hbk 1; have z2 := blk_cell hbk 2; have z3 := blk_cell hbk 3; have z4 := blk_cell hbk 4)
    refine (name_walk x.f1 w1 hsz).mono ?_
    rintro e w2 ⟨rfl, hb2⟩
    rw [HQ.out]
    have hbk2 := blk_below hbk hb2
    have HB2 := Aside0.mk (below_step HB1.out hb2)
    clear hb2 hbk z0 z1 z2 z3 z4
    have z0 := blk_cell hbk2 0
    have z1 := blk_cell hbk2 1
    have z2 := blk_cell hbk2 2
    have z3 := blk_cell hbk2 3
    have z4 := blk_cell hbk2 4
    go_wp2_with fail
    go_ret
    exact ⟨by rw [HR.out]; rfl, HB2.out⟩
set_option maxHeartbeats 1000000 in
set_option maxRecDepth 100000 in
theorem own_un (x : S24) (w : World) (cs : List Value) (hx : k24.K w x cs) (hsz : x.f1.size ≤ 9223372036854775807) (hno : ∀ k ∈ ([1, 15, 45, 46, 47, 2, 20] : List Int), x.f0 ≠ k) (hq : nameB x.f1 = false) (hm : x.f1.toList.isEmpty = true) (hn : x.f2 ≠ 0) : Calls Tryd.prog 55 #[.agg cs.toArray] w (SaysB w (ownB x)) := by
    obtain ⟨A, c, rfl, hlc, hA⟩ := k24_open hx
    have hu24 := Tryd.underlying24
    have HQ := Aside0.mk hq
    have HNO := Aside0.mk hno
    have e1 : (x.f0 == 1) = false := by simpa using HNO.out 1 (by decide)
    have e15 : (x.f0 == 15) = false := by simpa using HNO.out 15 (by decide)
    have e45 : (x.f0 == 45) = false := by simpa using HNO.out 45 (by decide)
    have e46 : (x.f0 == 46) = false := by simpa using HNO.out 46 (by decide)
    have e47 : (x.f0 == 47) = false := by simpa using HNO.out 47 (by decide)
    have e2 : (x.f0 == 2) = false := by simpa using HNO.out 2 (by decide)
    have e20 : (x.f0 == 20) = false := by simpa using HNO.out 20 (by decide)
    have HR : Aside0 (ownB x = false) := ⟨by unfold ownB named; rw [hq]; simp only [e1, e15, e45, e46, e47]; rw [hm, if_neg (by simpa using e2), if_neg (by simpa using e20)]; simp [hn]⟩
    have m1 : x.f1.toList.isEmpty = true := hm
    have m2 : (x.f1.toList == []) = true := by rw [← hm]; cases x.f1.toList <;> rfl
    have m3 : (x.f1.toList != []) = false := by rw [bne, m2]; rfl
    have n0 : (x.f2 == 0) = false := by simpa using hn
    clear hx hlc hA hq hno
    go_enter Tryd.func55, Tryd.ntmps55
    go_wp2_with ((with_reducible refine gate_dst (N := 1) rfl ?_); refine box_event rfl (N := 1) rfl (cs := #[.int .i64 x.f0, .string x.f1, .int .i64 x.f2, .slice A x.f3.length c, .int .i64 x.f4]) (t := 24) (by first | (go_simp; done) | (go_simp; rfl)) ?_; intro g hg w1 hbk hb1; have HG := Aside0.mk hg; have HB1 := Aside0.mk hb1; clear hg hb1; have z0 := blk_cell hbk 0; have z1 := blk_cell hbk 1; have z2 := blk_cell hbk 2; have z3 := blk_cell hbk 3; have z4 := blk_cell hbk 4)
    refine (name_walk x.f1 w1 hsz).mono ?_
    rintro e w2 ⟨rfl, hb2⟩
    rw [HQ.out]
    have hbk2 := blk_below hbk hb2
    have HB2 := Aside0.mk (below_step HB1.out hb2)
    clear hb2 hbk z0 z1 z2 z3 z4
    have z0 := blk_cell hbk2 0
    have z1 := blk_cell hbk2 1
    have z2 := blk_cell hbk2 2
    have z3 := blk_cell hbk2 3
    have z4 := blk_cell hbk2 4
    go_wp2_with fail
    go_ret
    exact ⟨by rw [HR.out]; rfl, HB2.out⟩
set_option maxHeartbeats 1000000 in
set_option maxRecDepth 100000 in
theorem own_v2y (x : S24) (w : World) (cs : List Value) (hx : k24.K w x cs) (hsz : x.f1.size ≤ 9223372036854775807) (hop : x.f0 = 2) (hq : nameB x.f1 = false) (hm : x.f1.toList.isEmpty = true) (ha : 1 ≤ x.f2) (hb : x.f2 ≤ 3) : Calls Tryd.prog 55 #[.agg cs.toArray] w (SaysB w (ownB x)) := by
    obtain ⟨A, c, rfl, hlc, hA⟩ := k24_open hx
    have hu24 := Tryd.underlying24
    have HQ := Aside0.mk hq
    have HOP := Aside0.mk hop
    have e1 : (x.f0 == 1) = false := by rw [HOP.out]; rfl
    have e15 : (x.f0 == 15) = false := by rw [HOP.out]; rfl
    have e45 : (x.f0 == 45) = false := by rw [HOP.out]; rfl
    have e46 : (x.f0 == 46) = false := by rw [HOP.out]; rfl
    have e47 : (x.f0 == 47) = false := by rw [HOP.out]; rfl
    have e2 : (x.f0 == 2) = true := by rw [HOP.out]; rfl
    have e20 : (x.f0 == 20) = false := by rw [HOP.out]; rfl
    have HR : Aside0 (ownB x = true) := ⟨by unfold ownB named; rw [hq]; simp only [e1, e15, e45, e46, e47]; rw [hm, HOP.out]; simp; omega⟩
    have m1 : x.f1.toList.isEmpty = true := hm
    have m2 : (x.f1.toList == []) = true := by rw [← hm]; cases x.f1.toList <;> rfl
    have m3 : (x.f1.toList != []) = false := by rw [bne, m2]; rfl
    have r0 : decide (1 ≤ x.f2) = true := decide_eq_true (by omega)
    have r1 : decide (x.f2 ≤ 3) = true := decide_eq_true (by omega)
    clear hx hlc hA hq hop
    go_enter Tryd.func55, Tryd.ntmps55
    go_wp2_with ((with_reducible refine gate_dst (N := 1) rfl ?_); refine box_event rfl (N := 1) rfl (cs := #[.int .i64 x.f0, .string x.f1, .int .i64 x.f2, .slice A x.f3.length c, .int .i64 x.f4]) (t := 24) (by first | (go_simp; done) | (go_simp; rfl)) ?_; intro g hg w1 hbk hb1; have HG := Aside0.mk hg; have HB1 := Aside0.mk hb1; clear hg hb1; have z0 := blk_cell hbk 0; have z1 := blk_cell hbk 1; have z2 := blk_cell hbk 2; have z3 := blk_cell hbk 3; have z4 := blk_cell hbk 4)
    refine (name_walk x.f1 w1 hsz).mono ?_
    rintro e w2 ⟨rfl, hb2⟩
    rw [HQ.out]
    have hbk2 := blk_below hbk hb2
    have HB2 := Aside0.mk (below_step HB1.out hb2)
    clear hb2 hbk z0 z1 z2 z3 z4
    have z0 := blk_cell hbk2 0
    have z1 := blk_cell hbk2 1
    have z2 := blk_cell hbk2 2
    have z3 := blk_cell hbk2 3
    have z4 := blk_cell hbk2 4
    go_wp2_with fail
    go_ret
    exact ⟨by rw [HR.out]; rfl, HB2.out⟩
set_option maxHeartbeats 1000000 in
set_option maxRecDepth 100000 in
theorem own_v2lo (x : S24) (w : World) (cs : List Value) (hx : k24.K w x cs) (hsz : x.f1.size ≤ 9223372036854775807) (hop : x.f0 = 2) (hq : nameB x.f1 = false) (hm : x.f1.toList.isEmpty = true) (ha : x.f2 < 1) : Calls Tryd.prog 55 #[.agg cs.toArray] w (SaysB w (ownB x)) := by
    obtain ⟨A, c, rfl, hlc, hA⟩ := k24_open hx
    have hu24 := Tryd.underlying24
    have HQ := Aside0.mk hq
    have HOP := Aside0.mk hop
    have e1 : (x.f0 == 1) = false := by rw [HOP.out]; rfl
    have e15 : (x.f0 == 15) = false := by rw [HOP.out]; rfl
    have e45 : (x.f0 == 45) = false := by rw [HOP.out]; rfl
    have e46 : (x.f0 == 46) = false := by rw [HOP.out]; rfl
    have e47 : (x.f0 == 47) = false := by rw [HOP.out]; rfl
    have e2 : (x.f0 == 2) = true := by rw [HOP.out]; rfl
    have e20 : (x.f0 == 20) = false := by rw [HOP.out]; rfl
    have HR : Aside0 (ownB x = false) := ⟨by unfold ownB named; rw [hq]; simp only [e1, e15, e45, e46, e47]; rw [hm, HOP.out]; simp; omega⟩
    have m1 : x.f1.toList.isEmpty = true := hm
    have m2 : (x.f1.toList == []) = true := by rw [← hm]; cases x.f1.toList <;> rfl
    have m3 : (x.f1.toList != []) = false := by rw [bne, m2]; rfl
    have r0 : decide (1 ≤ x.f2) = false := decide_eq_false (by omega)
    clear hx hlc hA hq hop
    go_enter Tryd.func55, Tryd.ntmps55
    go_wp2_with ((with_reducible refine gate_dst (N := 1) rfl ?_); refine box_event rfl (N := 1) rfl (cs := #[.int .i64 x.f0, .string x.f1, .int .i64 x.f2, .slice A x.f3.length c, .int .i64 x.f4]) (t := 24) (by first | (go_simp; done) | (go_simp; rfl)) ?_; intro g hg w1 hbk hb1; have HG := Aside0.mk hg; have HB1 := Aside0.mk hb1; clear hg hb1; have z0 := blk_cell hbk 0; have z1 := blk_cell hbk 1; have z2 := blk_cell hbk 2; have z3 := blk_cell hbk 3; have z4 := blk_cell hbk 4)
    refine (name_walk x.f1 w1 hsz).mono ?_
    rintro e w2 ⟨rfl, hb2⟩
    rw [HQ.out]
    have hbk2 := blk_below hbk hb2
    have HB2 := Aside0.mk (below_step HB1.out hb2)
    clear hb2 hbk z0 z1 z2 z3 z4
    have z0 := blk_cell hbk2 0
    have z1 := blk_cell hbk2 1
    have z2 := blk_cell hbk2 2
    have z3 := blk_cell hbk2 3
    have z4 := blk_cell hbk2 4
    go_wp2_with fail
    go_ret
    exact ⟨by rw [HR.out]; rfl, HB2.out⟩
set_option maxHeartbeats 1000000 in
set_option maxRecDepth 100000 in
theorem own_v2hi (x : S24) (w : World) (cs : List Value) (hx : k24.K w x cs) (hsz : x.f1.size ≤ 9223372036854775807) (hop : x.f0 = 2) (hq : nameB x.f1 = false) (hm : x.f1.toList.isEmpty = true) (ha : 1 ≤ x.f2) (hb : 3 < x.f2) : Calls Tryd.prog 55 #[.agg cs.toArray] w (SaysB w (ownB x)) := by
    obtain ⟨A, c, rfl, hlc, hA⟩ := k24_open hx
    have hu24 := Tryd.underlying24
    have HQ := Aside0.mk hq
    have HOP := Aside0.mk hop
    have e1 : (x.f0 == 1) = false := by rw [HOP.out]; rfl
    have e15 : (x.f0 == 15) = false := by rw [HOP.out]; rfl
    have e45 : (x.f0 == 45) = false := by rw [HOP.out]; rfl
    have e46 : (x.f0 == 46) = false := by rw [HOP.out]; rfl
    have e47 : (x.f0 == 47) = false := by rw [HOP.out]; rfl
    have e2 : (x.f0 == 2) = true := by rw [HOP.out]; rfl
    have e20 : (x.f0 == 20) = false := by rw [HOP.out]; rfl
    have HR : Aside0 (ownB x = false) := ⟨by unfold ownB named; rw [hq]; simp only [e1, e15, e45, e46, e47]; rw [hm, HOP.out]; simp; omega⟩
    have m1 : x.f1.toList.isEmpty = true := hm
    have m2 : (x.f1.toList == []) = true := by rw [← hm]; cases x.f1.toList <;> rfl
    have m3 : (x.f1.toList != []) = false := by rw [bne, m2]; rfl
    have r0 : decide (1 ≤ x.f2) = true := decide_eq_true (by omega)
    have r1 : decide (x.f2 ≤ 3) = false := decide_eq_false (by omega)
    clear hx hlc hA hq hop
    go_enter Tryd.func55, Tryd.ntmps55
    go_wp2_with ((with_reducible refine gate_dst (N := 1) rfl ?_); refine box_event rfl (N := 1) rfl (cs := #[.int .i64 x.f0, .string x.f1, .int .i64 x.f2, .slice A x.f3.length c, .int .i64 x.f4]) (t := 24) (by first | (go_simp; done) | (go_simp; rfl)) ?_; intro g hg w1 hbk hb1; have HG := Aside0.mk hg; have HB1 := Aside0.mk hb1; clear hg hb1; have z0 := blk_cell hbk 0; have z1 := blk_cell hbk 1; have z2 := blk_cell hbk 2; have z3 := blk_cell hbk 3; have z4 := blk_cell hbk 4)
    refine (name_walk x.f1 w1 hsz).mono ?_
    rintro e w2 ⟨rfl, hb2⟩
    rw [HQ.out]
    have hbk2 := blk_below hbk hb2
    have HB2 := Aside0.mk (below_step HB1.out hb2)
    clear hb2 hbk z0 z1 z2 z3 z4
    have z0 := blk_cell hbk2 0
    have z1 := blk_cell hbk2 1
    have z2 := blk_cell hbk2 2
    have z3 := blk_cell hbk2 3
    have z4 := blk_cell hbk2 4
    go_wp2_with fail
    go_ret
    exact ⟨by rw [HR.out]; rfl, HB2.out⟩
set_option maxHeartbeats 1000000 in
set_option maxRecDepth 100000 in
theorem own_v20y (x : S24) (w : World) (cs : List Value) (hx : k24.K w x cs) (hsz : x.f1.size ≤ 9223372036854775807) (hop : x.f0 = 20) (hq : nameB x.f1 = false) (hm : x.f1.toList.isEmpty = true) (ha : (-64) ≤ x.f2) (hb : x.f2 ≤ 64) : Calls Tryd.prog 55 #[.agg cs.toArray] w (SaysB w (ownB x)) := by
    obtain ⟨A, c, rfl, hlc, hA⟩ := k24_open hx
    have hu24 := Tryd.underlying24
    have HQ := Aside0.mk hq
    have HOP := Aside0.mk hop
    have e1 : (x.f0 == 1) = false := by rw [HOP.out]; rfl
    have e15 : (x.f0 == 15) = false := by rw [HOP.out]; rfl
    have e45 : (x.f0 == 45) = false := by rw [HOP.out]; rfl
    have e46 : (x.f0 == 46) = false := by rw [HOP.out]; rfl
    have e47 : (x.f0 == 47) = false := by rw [HOP.out]; rfl
    have e2 : (x.f0 == 2) = false := by rw [HOP.out]; rfl
    have e20 : (x.f0 == 20) = true := by rw [HOP.out]; rfl
    have HR : Aside0 (ownB x = true) := ⟨by unfold ownB named; rw [hq]; simp only [e1, e15, e45, e46, e47]; rw [hm, HOP.out]; simp; omega⟩
    have m1 : x.f1.toList.isEmpty = true := hm
    have m2 : (x.f1.toList == []) = true := by rw [← hm]; cases x.f1.toList <;> rfl
    have m3 : (x.f1.toList != []) = false := by rw [bne, m2]; rfl
    have r0 : decide ((-64) ≤ x.f2) = true := decide_eq_true (by omega)
    have r1 : decide (x.f2 ≤ 64) = true := decide_eq_true (by omega)
    clear hx hlc hA hq hop
    go_enter Tryd.func55, Tryd.ntmps55
    go_wp2_with ((with_reducible refine gate_dst (N := 1) rfl ?_); refine box_event rfl (N := 1) rfl (cs := #[.int .i64 x.f0, .string x.f1, .int .i64 x.f2, .slice A x.f3.length c, .int .i64 x.f4]) (t := 24) (by first | (go_simp; done) | (go_simp; rfl)) ?_; intro g hg w1 hbk hb1; have HG := Aside0.mk hg; have HB1 := Aside0.mk hb1; clear hg hb1; have z0 := blk_cell hbk 0; have z1 := blk_cell hbk 1; have z2 := blk_cell hbk 2; have z3 := blk_cell hbk 3; have z4 := blk_cell hbk 4)
    refine (name_walk x.f1 w1 hsz).mono ?_
    rintro e w2 ⟨rfl, hb2⟩
    rw [HQ.out]
    have hbk2 := blk_below hbk hb2
    have HB2 := Aside0.mk (below_step HB1.out hb2)
    clear hb2 hbk z0 z1 z2 z3 z4
    have z0 := blk_cell hbk2 0
    have z1 := blk_cell hbk2 1
    have z2 := blk_cell hbk2 2
    have z3 := blk_cell hbk2 3
    have z4 := blk_cell hbk2 4
    go_wp2_with fail
    go_ret
    exact ⟨by rw [HR.out]; rfl, HB2.out⟩
set_option maxHeartbeats 1000000 in
set_option maxRecDepth 100000 in
theorem own_v20lo (x : S24) (w : World) (cs : List Value) (hx : k24.K w x cs) (hsz : x.f1.size ≤ 9223372036854775807) (hop : x.f0 = 20) (hq : nameB x.f1 = false) (hm : x.f1.toList.isEmpty = true) (ha : x.f2 < (-64)) : Calls Tryd.prog 55 #[.agg cs.toArray] w (SaysB w (ownB x)) := by
    obtain ⟨A, c, rfl, hlc, hA⟩ := k24_open hx
    have hu24 := Tryd.underlying24
    have HQ := Aside0.mk hq
    have HOP := Aside0.mk hop
    have e1 : (x.f0 == 1) = false := by rw [HOP.out]; rfl
    have e15 : (x.f0 == 15) = false := by rw [HOP.out]; rfl
    have e45 : (x.f0 == 45) = false := by rw [HOP.out]; rfl
    have e46 : (x.f0 == 46) = false := by rw [HOP.out]; rfl
    have e47 : (x.f0 == 47) = false := by rw [HOP.out]; rfl
    have e2 : (x.f0 == 2) = false := by rw [HOP.out]; rfl
    have e20 : (x.f0 == 20) = true := by rw [HOP.out]; rfl
    have HR : Aside0 (ownB x = false) := ⟨by unfold ownB named; rw [hq]; simp only [e1, e15, e45, e46, e47]; rw [hm, HOP.out]; simp; omega⟩
    have m1 : x.f1.toList.isEmpty = true := hm
    have m2 : (x.f1.toList == []) = true := by rw [← hm]; cases x.f1.toList <;> rfl
    have m3 : (x.f1.toList != []) = false := by rw [bne, m2]; rfl
    have r0 : decide ((-64) ≤ x.f2) = false := decide_eq_false (by omega)
    clear hx hlc hA hq hop
    go_enter Tryd.func55, Tryd.ntmps55
    go_wp2_with ((with_reducible refine gate_dst (N := 1) rfl ?_); refine box_event rfl (N := 1) rfl (cs := #[.int .i64 x.f0, .string x.f1, .int .i64 x.f2, .slice A x.f3.length c, .int .i64 x.f4]) (t := 24) (by first | (go_simp; done) | (go_simp; rfl)) ?_; intro g hg w1 hbk hb1; have HG := Aside0.mk hg; have HB1 := Aside0.mk hb1; clear hg hb1; have z0 := blk_cell hbk 0; have z1 := blk_cell hbk 1; have z2 := blk_cell hbk 2; have z3 := blk_cell hbk 3; have z4 := blk_cell hbk 4)
    refine (name_walk x.f1 w1 hsz).mono ?_
    rintro e w2 ⟨rfl, hb2⟩
    rw [HQ.out]
    have hbk2 := blk_below hbk hb2
    have HB2 := Aside0.mk (below_step HB1.out hb2)
    clear hb2 hbk z0 z1 z2 z3 z4
    have z0 := blk_cell hbk2 0
    have z1 := blk_cell hbk2 1
    have z2 := blk_cell hbk2 2
    have z3 := blk_cell hbk2 3
    have z4 := blk_cell hbk2 4
    go_wp2_with fail
    go_ret
    exact ⟨by rw [HR.out]; rfl, HB2.out⟩
set_option maxHeartbeats 1000000 in
set_option maxRecDepth 100000 in
theorem own_v20hi (x : S24) (w : World) (cs : List Value) (hx : k24.K w x cs) (hsz : x.f1.size ≤ 9223372036854775807) (hop : x.f0 = 20) (hq : nameB x.f1 = false) (hm : x.f1.toList.isEmpty = true) (ha : (-64) ≤ x.f2) (hb : 64 < x.f2) : Calls Tryd.prog 55 #[.agg cs.toArray] w (SaysB w (ownB x)) := by
    obtain ⟨A, c, rfl, hlc, hA⟩ := k24_open hx
    have hu24 := Tryd.underlying24
    have HQ := Aside0.mk hq
    have HOP := Aside0.mk hop
    have e1 : (x.f0 == 1) = false := by rw [HOP.out]; rfl
    have e15 : (x.f0 == 15) = false := by rw [HOP.out]; rfl
    have e45 : (x.f0 == 45) = false := by rw [HOP.out]; rfl
    have e46 : (x.f0 == 46) = false := by rw [HOP.out]; rfl
    have e47 : (x.f0 == 47) = false := by rw [HOP.out]; rfl
    have e2 : (x.f0 == 2) = false := by rw [HOP.out]; rfl
    have e20 : (x.f0 == 20) = true := by rw [HOP.out]; rfl
    have HR : Aside0 (ownB x = false) := ⟨by unfold ownB named; rw [hq]; simp only [e1, e15, e45, e46, e47]; rw [hm, HOP.out]; simp; omega⟩
    have m1 : x.f1.toList.isEmpty = true := hm
    have m2 : (x.f1.toList == []) = true := by rw [← hm]; cases x.f1.toList <;> rfl
    have m3 : (x.f1.toList != []) = false := by rw [bne, m2]; rfl
    have r0 : decide ((-64) ≤ x.f2) = true := decide_eq_true (by omega)
    have r1 : decide (x.f2 ≤ 64) = false := decide_eq_false (by omega)
    clear hx hlc hA hq hop
    go_enter Tryd.func55, Tryd.ntmps55
    go_wp2_with ((with_reducible refine gate_dst (N := 1) rfl ?_); refine box_event rfl (N := 1) rfl (cs := #[.int .i64 x.f0, .string x.f1, .int .i64 x.f2, .slice A x.f3.length c, .int .i64 x.f4]) (t := 24) (by first | (go_simp; done) | (go_simp; rfl)) ?_; intro g hg w1 hbk hb1; have HG := Aside0.mk hg; have HB1 := Aside0.mk hb1; clear hg hb1; have z0 := blk_cell hbk 0; have z1 := blk_cell hbk 1; have z2 := blk_cell hbk 2; have z3 := blk_cell hbk 3; have z4 := blk_cell hbk 4)
    refine (name_walk x.f1 w1 hsz).mono ?_
    rintro e w2 ⟨rfl, hb2⟩
    rw [HQ.out]
    have hbk2 := blk_below hbk hb2
    have HB2 := Aside0.mk (below_step HB1.out hb2)
    clear hb2 hbk z0 z1 z2 z3 z4
    have z0 := blk_cell hbk2 0
    have z1 := blk_cell hbk2 1
    have z2 := blk_cell hbk2 2
    have z3 := blk_cell hbk2 3
    have z4 := blk_cell hbk2 4
    go_wp2_with fail
    go_ret
    exact ⟨by rw [HR.out]; rfl, HB2.out⟩
theorem own_walk (x : S24) (w : World) (cs : List Value) (hx : k24.K w x cs) (hsz : x.f1.size ≤ 9223372036854775807) : Calls Tryd.prog 55 #[.agg cs.toArray] w (SaysB w (ownB x)) := by
  cases hq : nameB x.f1
  · skip
    by_cases h1 : x.f0 = 1
    · exact own_f1 x w cs hx hsz h1 hq
    by_cases h15 : x.f0 = 15
    · exact own_f15 x w cs hx hsz h15 hq
    by_cases h45 : x.f0 = 45
    · exact own_f45 x w cs hx hsz h45 hq
    by_cases h46 : x.f0 = 46
    · exact own_f46 x w cs hx hsz h46 hq
    by_cases h47 : x.f0 = 47
    · exact own_f47 x w cs hx hsz h47 hq
    cases hm : x.f1.toList.isEmpty
    · by_cases h2 : x.f0 = 2
      · exact own_v2e x w cs hx hsz h2 hq hm
      by_cases h20 : x.f0 = 20
      · exact own_v20e x w cs hx hsz h20 hq hm
      exact own_ue x w cs hx hsz (by intro k hk; simp only [List.mem_cons, List.not_mem_nil, or_false] at hk; rcases hk with rfl | rfl | rfl | rfl | rfl | rfl | rfl <;> assumption) hq hm
    · by_cases h2 : x.f0 = 2
      · by_cases ha : 1 ≤ x.f2
        · by_cases hb : x.f2 ≤ 3
          · exact own_v2y x w cs hx hsz h2 hq hm ha hb
          · exact own_v2hi x w cs hx hsz h2 hq hm ha (by omega)
        · exact own_v2lo x w cs hx hsz h2 hq hm (by omega)
      by_cases h20 : x.f0 = 20
      · by_cases ha : (-64) ≤ x.f2
        · by_cases hb : x.f2 ≤ 64
          · exact own_v20y x w cs hx hsz h20 hq hm ha hb
          · exact own_v20hi x w cs hx hsz h20 hq hm ha (by omega)
        · exact own_v20lo x w cs hx hsz h20 hq hm (by omega)
      by_cases hn : x.f2 = 0
      · exact own_uz x w cs hx hsz (by intro k hk; simp only [List.mem_cons, List.not_mem_nil, or_false] at hk; rcases hk with rfl | rfl | rfl | rfl | rfl | rfl | rfl <;> assumption) hq hm hn
      · exact own_un x w cs hx hsz (by intro k hk; simp only [List.mem_cons, List.not_mem_nil, or_false] at hk; rcases hk with rfl | rfl | rfl | rfl | rfl | rfl | rfl <;> assumption) hq hm hn
  · skip
    by_cases h1 : x.f0 = 1
    · by_cases hn : x.f2 = 0
      · exact own_z1 x w cs hx hsz h1 hq hn
      · exact own_n1 x w cs hx hsz h1 hq hn
    by_cases h15 : x.f0 = 15
    · by_cases hn : x.f2 = 0
      · exact own_z15 x w cs hx hsz h15 hq hn
      · exact own_n15 x w cs hx hsz h15 hq hn
    by_cases h45 : x.f0 = 45
    · by_cases hn : x.f2 = 0
      · exact own_z45 x w cs hx hsz h45 hq hn
      · exact own_n45 x w cs hx hsz h45 hq hn
    by_cases h46 : x.f0 = 46
    · by_cases hn : x.f2 = 0
      · exact own_z46 x w cs hx hsz h46 hq hn
      · exact own_n46 x w cs hx hsz h46 hq hn
    by_cases h47 : x.f0 = 47
    · by_cases hn : x.f2 = 0
      · exact own_z47 x w cs hx hsz h47 hq hn
      · exact own_n47 x w cs hx hsz h47 hq hn
    by_cases h2 : x.f0 = 2
    · exact own_v2t x w cs hx hsz h2 hq
    by_cases h20 : x.f0 = 20
    · exact own_v20t x w cs hx hsz h20 hq
    exact own_ut x w cs hx hsz (by intro k hk; simp only [List.mem_cons, List.not_mem_nil, or_false] at hk; rcases hk with rfl | rfl | rfl | rfl | rfl | rfl | rfl <;> assumption) hq
end Go.Proofs.YtgdiodhaihmnbaaDoor.Own
namespace Go.Proofs.YtgdiodhaihmnbaaDoor.Own
open Go.RowKit Go.Proofs.YtgdiodhaihmnbaaDoorW.PrintWords Go.Proofs.YtgdiodhaihmnbaaDoorW.PrintLast Go.Proofs.YtgdiodhaihmnbaaDoorW.PrintMore Go.Proofs.YtgdiodhaihmnbaaDoor.PPrinterMatchesReference
/-- The kinds of an operator's kids, but for calls. -/
def shapeT : List (Int × List UInt8) := [(1, []), (2, []), (3, []), (4, []), (20, []), (30, []), (31, []), (5, [101]), (11, [101]), (12, [101]), (13, [101]), (21, [101]), (34, [101]), (35, [101]), (36, [101]), (37, [101]), (6, [101, 101]), (7, [101, 101]), (8, [101, 101]), (9, [101, 101]), (10, [101, 101]), (14, [101, 101]), (32, [101, 101]), (33, [101, 101]), (15, [101, 102]), (45, [101, 102]), (46, [101, 102]), (22, [105, 105]), (23, [105, 105]), (38, [105, 105]), (39, [105, 105]), (40, [102]), (48, [102]), (49, [102]), (50, [102]), (41, [102, 102]), (42, [102, 102]), (43, [102, 102]), (44, [102, 102]), (51, [102, 102])]
def atS (k : Int) : List (Int × List UInt8) → Option (List UInt8)
  | [] => none
  | (a, v) :: r => if k = a then some v else atS k r
def shapeS (op : Int) (n : Nat) : Option (List UInt8) := if op = 47 then some (List.replicate n 101) else atS op shapeT
def ShapeP (w : World) (q : Option (List UInt8)) (e : Ending) (w' : World) : Prop := ∃ s : ByteArray, e = .returned (.tuple #[.string s, .bool q.isSome]) ∧ s.data.toList = q.getD [] ∧ w = w'
set_option maxHeartbeats 1000000 in
set_option maxRecDepth 100000 in
theorem shape_1 (n : Int) (w : World) : Calls Tryd.prog 76 #[.int .i64 1, .int .i64 n] w (ShapeP w (some [])) := by
  go_enter Tryd.func76, Tryd.ntmps76
  go_wp2_with fail
  go_ret2
  exact ⟨_, rfl, rfl, rfl⟩
set_option maxHeartbeats 1000000 in
set_option maxRecDepth 100000 in
theorem shape_2 (n : Int) (w : World) : Calls Tryd.prog 76 #[.int .i64 2, .int .i64 n] w (ShapeP w (some [])) := by
  go_enter Tryd.func76, Tryd.ntmps76
  go_wp2_with fail
  go_ret2
  exact ⟨_, rfl, rfl, rfl⟩
set_option maxHeartbeats 1000000 in
set_option maxRecDepth 100000 in
theorem shape_3 (n : Int) (w : World) : Calls Tryd.prog 76 #[.int .i64 3, .int .i64 n] w (ShapeP w (some [])) := by
  go_enter Tryd.func76, Tryd.ntmps76
  go_wp2_with fail
  go_ret2
  exact ⟨_, rfl, rfl, rfl⟩
set_option maxHeartbeats 1000000 in
set_option maxRecDepth 100000 in
theorem shape_4 (n : Int) (w : World) : Calls Tryd.prog 76 #[.int .i64 4, .int .i64 n] w (ShapeP w (some [])) := by
  go_enter Tryd.func76, Tryd.ntmps76
  go_wp2_with fail
  go_ret2
  exact ⟨_, rfl, rfl, rfl⟩
set_option maxHeartbeats 1000000 in
set_option maxRecDepth 100000 in
theorem shape_20 (n : Int) (w : World) : Calls Tryd.prog 76 #[.int .i64 20, .int .i64 n] w (ShapeP w (some [])) := by
  go_enter Tryd.func76, Tryd.ntmps76
  go_wp2_with fail
  go_ret2
  exact ⟨_, rfl, rfl, rfl⟩
set_option maxHeartbeats 1000000 in
set_option maxRecDepth 100000 in
theorem shape_30 (n : Int) (w : World) : Calls Tryd.prog 76 #[.int .i64 30, .int .i64 n] w (ShapeP w (some [])) := by
  go_enter Tryd.func76, Tryd.ntmps76
  go_wp2_with fail
  go_ret2
  exact ⟨_, rfl, rfl, rfl⟩
set_option maxHeartbeats 1000000 in
set_option maxRecDepth 100000 in
theorem shape_31 (n : Int) (w : World) : Calls Tryd.prog 76 #[.int .i64 31, .int .i64 n] w (ShapeP w (some [])) := by
  go_enter Tryd.func76, Tryd.ntmps76
  go_wp2_with fail
  go_ret2
  exact ⟨_, rfl, rfl, rfl⟩
set_option maxHeartbeats 1000000 in
set_option maxRecDepth 100000 in
theorem shape_5 (n : Int) (w : World) : Calls Tryd.prog 76 #[.int .i64 5, .int .i64 n] w (ShapeP w (some [101])) := by
  go_enter Tryd.func76, Tryd.ntmps76
  go_wp2_with fail
  go_ret2
  exact ⟨_, rfl, rfl, rfl⟩
set_option maxHeartbeats 1000000 in
set_option maxRecDepth 100000 in
theorem shape_11 (n : Int) (w : World) : Calls Tryd.prog 76 #[.int .i64 11, .int .i64 n] w (ShapeP w (some [101])) := by
  go_enter Tryd.func76, Tryd.ntmps76
  go_wp2_with fail
  go_ret2
  exact ⟨_, rfl, rfl, rfl⟩
set_option maxHeartbeats 1000000 in
set_option maxRecDepth 100000 in
theorem shape_12 (n : Int) (w : World) : Calls Tryd.prog 76 #[.int .i64 12, .int .i64 n] w (ShapeP w (some [101])) := by
  go_enter Tryd.func76, Tryd.ntmps76
  go_wp2_with fail
  go_ret2
  exact ⟨_, rfl, rfl, rfl⟩
set_option maxHeartbeats 1000000 in
set_option maxRecDepth 100000 in
theorem shape_13 (n : Int) (w : World) : Calls Tryd.prog 76 #[.int .i64 13, .int .i64 n] w (ShapeP w (some [101])) := by
  go_enter Tryd.func76, Tryd.ntmps76
  go_wp2_with fail
  go_ret2
  exact ⟨_, rfl, rfl, rfl⟩
set_option maxHeartbeats 1000000 in
set_option maxRecDepth 100000 in
theorem shape_21 (n : Int) (w : World) : Calls Tryd.prog 76 #[.int .i64 21, .int .i64 n] w (ShapeP w (some [101])) := by
  go_enter Tryd.func76, Tryd.ntmps76
  go_wp2_with fail
  go_ret2
  exact ⟨_, rfl, rfl, rfl⟩
set_option maxHeartbeats 1000000 in
set_option maxRecDepth 100000 in
theorem shape_34 (n : Int) (w : World) : Calls Tryd.prog 76 #[.int .i64 34, .int .i64 n] w (ShapeP w (some [101])) := by
  go_enter Tryd.func76, Tryd.ntmps76
  go_wp2_with fail
  go_ret2
  exact ⟨_, rfl, rfl, rfl⟩
set_option maxHeartbeats 1000000 in
set_option maxRecDepth 100000 in
theorem shape_35 (n : Int) (w : World) : Calls Tryd.prog 76 #[.int .i64 35, .int .i64 n] w (ShapeP w (some [101])) := by
  go_enter Tryd.func76, Tryd.ntmps76
  go_wp2_with fail
  go_ret2
  exact ⟨_, rfl, rfl, rfl⟩
set_option maxHeartbeats 1000000 in
set_option maxRecDepth 100000 in
theorem shape_36 (n : Int) (w : World) : Calls Tryd.prog 76 #[.int .i64 36, .int .i64 n] w (ShapeP w (some [101])) := by
  go_enter Tryd.func76, Tryd.ntmps76
  go_wp2_with fail
  go_ret2
  exact ⟨_, rfl, rfl, rfl⟩
set_option maxHeartbeats 1000000 in
set_option maxRecDepth 100000 in
theorem shape_37 (n : Int) (w : World) : Calls Tryd.prog 76 #[.int .i64 37, .int .i64 n] w (ShapeP w (some [101])) := by
  go_enter Tryd.func76, Tryd.ntmps76
  go_wp2_with fail
  go_ret2
  exact ⟨_, rfl, rfl, rfl⟩
set_option maxHeartbeats 1000000 in
set_option maxRecDepth 100000 in
theorem shape_6 (n : Int) (w : World) : Calls Tryd.prog 76 #[.int .i64 6, .int .i64 n] w (ShapeP w (some [101, 101])) := by
  go_enter Tryd.func76, Tryd.ntmps76
  go_wp2_with fail
  go_ret2
  exact ⟨_, rfl, rfl, rfl⟩
set_option maxHeartbeats 1000000 in
set_option maxRecDepth 100000 in
theorem shape_7 (n : Int) (w : World) : Calls Tryd.prog 76 #[.int .i64 7, .int .i64 n] w (ShapeP w (some [101, 101])) := by
  go_enter Tryd.func76, Tryd.ntmps76
  go_wp2_with fail
  go_ret2
  exact ⟨_, rfl, rfl, rfl⟩
set_option maxHeartbeats 1000000 in
set_option maxRecDepth 100000 in
theorem shape_8 (n : Int) (w : World) : Calls Tryd.prog 76 #[.int .i64 8, .int .i64 n] w (ShapeP w (some [101, 101])) := by
  go_enter Tryd.func76, Tryd.ntmps76
  go_wp2_with fail
  go_ret2
  exact ⟨_, rfl, rfl, rfl⟩
set_option maxHeartbeats 1000000 in
set_option maxRecDepth 100000 in
theorem shape_9 (n : Int) (w : World) : Calls Tryd.prog 76 #[.int .i64 9, .int .i64 n] w (ShapeP w (some [101, 101])) := by
  go_enter Tryd.func76, Tryd.ntmps76
  go_wp2_with fail
  go_ret2
  exact ⟨_, rfl, rfl, rfl⟩
set_option maxHeartbeats 1000000 in
set_option maxRecDepth 100000 in
theorem shape_10 (n : Int) (w : World) : Calls Tryd.prog 76 #[.int .i64 10, .int .i64 n] w (ShapeP w (some [101, 101])) := by
  go_enter Tryd.func76, Tryd.ntmps76
  go_wp2_with fail
  go_ret2
  exact ⟨_, rfl, rfl, rfl⟩
set_option maxHeartbeats 1000000 in
set_option maxRecDepth 100000 in
theorem shape_14 (n : Int) (w : World) : Calls Tryd.prog 76 #[.int .i64 14, .int .i64 n] w (ShapeP w (some [101, 101])) := by
  go_enter Tryd.func76, Tryd.ntmps76
  go_wp2_with fail
  go_ret2
  exact ⟨_, rfl, rfl, rfl⟩
set_option maxHeartbeats 1000000 in
set_option maxRecDepth 100000 in
theorem shape_32 (n : Int) (w : World) : Calls Tryd.prog 76 #[.int .i64 32, .int .i64 n] w (ShapeP w (some [101, 101])) := by
  go_enter Tryd.func76, Tryd.ntmps76
  go_wp2_with fail
  go_ret2
  exact ⟨_, rfl, rfl, rfl⟩
set_option maxHeartbeats 1000000 in
set_option maxRecDepth 100000 in
theorem shape_33 (n : Int) (w : World) : Calls Tryd.prog 76 #[.int .i64 33, .int .i64 n] w (ShapeP w (some [101, 101])) := by
  go_enter Tryd.func76, Tryd.ntmps76
  go_wp2_with fail
  go_ret2
  exact ⟨_, rfl, rfl, rfl⟩
set_option maxHeartbeats 1000000 in
set_option maxRecDepth 100000 in
theorem shape_15 (n : Int) (w : World) : Calls Tryd.prog 76 #[.int .i64 15, .int .i64 n] w (ShapeP w (some [101, 102])) := by
  go_enter Tryd.func76, Tryd.ntmps76
  go_wp2_with fail
  go_ret2
  exact ⟨_, rfl, rfl, rfl⟩
set_option maxHeartbeats 1000000 in
set_option maxRecDepth 100000 in
theorem shape_45 (n : Int) (w : World) : Calls Tryd.prog 76 #[.int .i64 45, .int .i64 n] w (ShapeP w (some [101, 102])) := by
  go_enter Tryd.func76, Tryd.ntmps76
  go_wp2_with fail
  go_ret2
  exact ⟨_, rfl, rfl, rfl⟩
set_option maxHeartbeats 1000000 in
set_option maxRecDepth 100000 in
theorem shape_46 (n : Int) (w : World) : Calls Tryd.prog 76 #[.int .i64 46, .int .i64 n] w (ShapeP w (some [101, 102])) := by
  go_enter Tryd.func76, Tryd.ntmps76
  go_wp2_with fail
  go_ret2
  exact ⟨_, rfl, rfl, rfl⟩
set_option maxHeartbeats 1000000 in
set_option maxRecDepth 100000 in
theorem shape_22 (n : Int) (w : World) : Calls Tryd.prog 76 #[.int .i64 22, .int .i64 n] w (ShapeP w (some [105, 105])) := by
  go_enter Tryd.func76, Tryd.ntmps76
  go_wp2_with fail
  go_ret2
  exact ⟨_, rfl, rfl, rfl⟩
set_option maxHeartbeats 1000000 in
set_option maxRecDepth 100000 in
theorem shape_23 (n : Int) (w : World) : Calls Tryd.prog 76 #[.int .i64 23, .int .i64 n] w (ShapeP w (some [105, 105])) := by
  go_enter Tryd.func76, Tryd.ntmps76
  go_wp2_with fail
  go_ret2
  exact ⟨_, rfl, rfl, rfl⟩
set_option maxHeartbeats 1000000 in
set_option maxRecDepth 100000 in
theorem shape_38 (n : Int) (w : World) : Calls Tryd.prog 76 #[.int .i64 38, .int .i64 n] w (ShapeP w (some [105, 105])) := by
  go_enter Tryd.func76, Tryd.ntmps76
  go_wp2_with fail
  go_ret2
  exact ⟨_, rfl, rfl, rfl⟩
set_option maxHeartbeats 1000000 in
set_option maxRecDepth 100000 in
theorem shape_39 (n : Int) (w : World) : Calls Tryd.prog 76 #[.int .i64 39, .int .i64 n] w (ShapeP w (some [105, 105])) := by
  go_enter Tryd.func76, Tryd.ntmps76
  go_wp2_with fail
  go_ret2
  exact ⟨_, rfl, rfl, rfl⟩
set_option maxHeartbeats 1000000 in
set_option maxRecDepth 100000 in
theorem shape_40 (n : Int) (w : World) : Calls Tryd.prog 76 #[.int .i64 40, .int .i64 n] w (ShapeP w (some [102])) := by
  go_enter Tryd.func76, Tryd.ntmps76
  go_wp2_with fail
  go_ret2
  exact ⟨_, rfl, rfl, rfl⟩
set_option maxHeartbeats 1000000 in
set_option maxRecDepth 100000 in
theorem shape_48 (n : Int) (w : World) : Calls Tryd.prog 76 #[.int .i64 48, .int .i64 n] w (ShapeP w (some [102])) := by
  go_enter Tryd.func76, Tryd.ntmps76
  go_wp2_with fail
  go_ret2
  exact ⟨_, rfl, rfl, rfl⟩
set_option maxHeartbeats 1000000 in
set_option maxRecDepth 100000 in
theorem shape_49 (n : Int) (w : World) : Calls Tryd.prog 76 #[.int .i64 49, .int .i64 n] w (ShapeP w (some [102])) := by
  go_enter Tryd.func76, Tryd.ntmps76
  go_wp2_with fail
  go_ret2
  exact ⟨_, rfl, rfl, rfl⟩
set_option maxHeartbeats 1000000 in
set_option maxRecDepth 100000 in
theorem shape_50 (n : Int) (w : World) : Calls Tryd.prog 76 #[.int .i64 50, .int .i64 n] w (ShapeP w (some [102])) := by
  go_enter Tryd.func76, Tryd.ntmps76
  go_wp2_with fail
  go_ret2
  exact ⟨_, rfl, rfl, rfl⟩
set_option maxHeartbeats 1000000 in
set_option maxRecDepth 100000 in
theorem shape_41 (n : Int) (w : World) : Calls Tryd.prog 76 #[.int .i64 41, .int .i64 n] w (ShapeP w (some [102, 102])) := by
  go_enter Tryd.func76, Tryd.ntmps76
  go_wp2_with fail
  go_ret2
  exact ⟨_, rfl, rfl, rfl⟩
set_option maxHeartbeats 1000000 in
set_option maxRecDepth 100000 in
theorem shape_42 (n : Int) (w : World) : Calls Tryd.prog 76 #[.int .i64 42, .int .i64 n] w (ShapeP w (some [102, 102])) := by
  go_enter Tryd.func76, Tryd.ntmps76
  go_wp2_with fail
  go_ret2
  exact ⟨_, rfl, rfl, rfl⟩
set_option maxHeartbeats 1000000 in
set_option maxRecDepth 100000 in
theorem shape_43 (n : Int) (w : World) : Calls Tryd.prog 76 #[.int .i64 43, .int .i64 n] w (ShapeP w (some [102, 102])) := by
  go_enter Tryd.func76, Tryd.ntmps76
  go_wp2_with fail
  go_ret2
  exact ⟨_, rfl, rfl, rfl⟩
set_option maxHeartbeats 1000000 in
set_option maxRecDepth 100000 in
theorem shape_44 (n : Int) (w : World) : Calls Tryd.prog 76 #[.int .i64 44, .int .i64 n] w (ShapeP w (some [102, 102])) := by
  go_enter Tryd.func76, Tryd.ntmps76
  go_wp2_with fail
  go_ret2
  exact ⟨_, rfl, rfl, rfl⟩
set_option maxHeartbeats 1000000 in
set_option maxRecDepth 100000 in
theorem shape_51 (n : Int) (w : World) : Calls Tryd.prog 76 #[.int .i64 51, .int .i64 n] w (ShapeP w (some [102, 102])) := by
  go_enter Tryd.func76, Tryd.ntmps76
  go_wp2_with fail
  go_ret2
  exact ⟨_, rfl, rfl, rfl⟩
set_option maxHeartbeats 1000000 in
set_option maxRecDepth 100000 in
theorem shape_none (op n : Int) (w : World) (hno : ∀ k ∈ ([1, 2, 3, 4, 20, 30, 31, 5, 11, 12, 13, 21, 34, 35, 36, 37, 6, 7, 8, 9, 10, 14, 32, 33, 15, 45, 46, 22, 23, 38, 39, 40, 48, 49, 50, 41, 42, 43, 44, 51, 47] : List Int), op ≠ k) : Calls Tryd.prog 76 #[.int .i64 op, .int .i64 n] w (ShapeP w none) := by
  have e1 : (op == 1) = false := by simpa using hno 1 (by decide)
  have e2 : (op == 2) = false := by simpa using hno 2 (by decide)
  have e3 : (op == 3) = false := by simpa using hno 3 (by decide)
  have e4 : (op == 4) = false := by simpa using hno 4 (by decide)
  have e20 : (op == 20) = false := by simpa using hno 20 (by decide)
  have e30 : (op == 30) = false := by simpa using hno 30 (by decide)
  have e31 : (op == 31) = false := by simpa using hno 31 (by decide)
  have e5 : (op == 5) = false := by simpa using hno 5 (by decide)
  have e11 : (op == 11) = false := by simpa using hno 11 (by decide)
  have e12 : (op == 12) = false := by simpa using hno 12 (by decide)
  have e13 : (op == 13) = false := by simpa using hno 13 (by decide)
  have e21 : (op == 21) = false := by simpa using hno 21 (by decide)
  have e34 : (op == 34) = false := by simpa using hno 34 (by decide)
  have e35 : (op == 35) = false := by simpa using hno 35 (by decide)
  have e36 : (op == 36) = false := by simpa using hno 36 (by decide)
  have e37 : (op == 37) = false := by simpa using hno 37 (by decide)
  have e6 : (op == 6) = false := by simpa using hno 6 (by decide)
  have e7 : (op == 7) = false := by simpa using hno 7 (by decide)
  have e8 : (op == 8) = false := by simpa using hno 8 (by decide)
  have e9 : (op == 9) = false := by simpa using hno 9 (by decide)
  have e10 : (op == 10) = false := by simpa using hno 10 (by decide)
  have e14 : (op == 14) = false := by simpa using hno 14 (by decide)
  have e32 : (op == 32) = false := by simpa using hno 32 (by decide)
  have e33 : (op == 33) = false := by simpa using hno 33 (by decide)
  have e15 : (op == 15) = false := by simpa using hno 15 (by decide)
  have e45 : (op == 45) = false := by simpa using hno 45 (by decide)
  have e46 : (op == 46) = false := by simpa using hno 46 (by decide)
  have e22 : (op == 22) = false := by simpa using hno 22 (by decide)
  have e23 : (op == 23) = false := by simpa using hno 23 (by decide)
  have e38 : (op == 38) = false := by simpa using hno 38 (by decide)
  have e39 : (op == 39) = false := by simpa using hno 39 (by decide)
  have e40 : (op == 40) = false := by simpa using hno 40 (by decide)
  have e48 : (op == 48) = false := by simpa using hno 48 (by decide)
  have e49 : (op == 49) = false := by simpa using hno 49 (by decide)
  have e50 : (op == 50) = false := by simpa using hno 50 (by decide)
  have e41 : (op == 41) = false := by simpa using hno 41 (by decide)
  have e42 : (op == 42) = false := by simpa using hno 42 (by decide)
  have e43 : (op == 43) = false := by simpa using hno 43 (by decide)
  have e44 : (op == 44) = false := by simpa using hno 44 (by decide)
  have e51 : (op == 51) = false := by simpa using hno 51 (by decide)
  have e47 : (op == 47) = false := by simpa using hno 47 (by decide)
  clear hno
  go_enter Tryd.func76, Tryd.ntmps76
  go_wp2_with fail
  go_ret2
  exact ⟨_, rfl, rfl, rfl⟩
set_option maxHeartbeats 1000000 in
set_option maxRecDepth 100000 in
theorem shape_call (n : Nat) (hn : n ≤ 9223372036854775807) (w : World) : Calls Tryd.prog 76 #[.int .i64 47, .int .i64 n] w (ShapeP w (some (List.replicate n 101))) := by
  go_enter Tryd.func76, Tryd.ntmps76
  go_wp2_with fail
  go_loop [6, 7] (fun v i => ∃ (k : Nat) (o : ByteArray), k ≤ n ∧ i = .int .i64 k ∧ v = .string o ∧ Aside0 (o.data.toList = List.replicate k 101)) (fun _ i => n - (intOf i).toNat)
  case atStart => exact ⟨0, ⟨#[]⟩, by omega, rfl, rfl, ⟨rfl⟩⟩
  case round =>
    obtain ⟨k, o, hk, rfl, rfl, HE⟩ := hrel
    have hos : o.size = k := by rw [← data_length, HE.out, List.length_replicate]
    by_cases hlt : k < n
    · have hz : ¬ 9223372036854775807 < o.size + 1 := by omega
      clear hos
      go_wp2
      go_round
      case rel => exact ⟨k + 1, o ++ ⟨#[101]⟩, by omega, by go_num, rfl, ⟨by rw [ByteArray.data_append, Array.toList_append, HE.out, List.replicate_succ']⟩⟩
      case measure => simp [intOf]; omega
    · have hke : k = n := by omega
      have HE2 : Aside0 (o.data.toList = List.replicate n 101) := ⟨by have := HE.out; rw [hke] at this; exact this⟩
      clear hke hos
      go_wp2
      go_ret2
      exact ⟨o, rfl, HE2.out, rfl⟩
theorem shape_walk (op : Int) (n : Nat) (hn : n ≤ 9223372036854775807) (w : World) : Calls Tryd.prog 76 #[.int .i64 op, .int .i64 n] w (ShapeP w (shapeS op n)) := by
  by_cases h47 : op = 47
  · subst h47; exact shape_call n hn w
  by_cases h1 : op = 1
  · subst h1; exact shape_1 n w
  by_cases h2 : op = 2
  · subst h2; exact shape_2 n w
  by_cases h3 : op = 3
  · subst h3; exact shape_3 n w
  by_cases h4 : op = 4
  · subst h4; exact shape_4 n w
  by_cases h20 : op = 20
  · subst h20; exact shape_20 n w
  by_cases h30 : op = 30
  · subst h30; exact shape_30 n w
  by_cases h31 : op = 31
  · subst h31; exact shape_31 n w
  by_cases h5 : op = 5
  · subst h5; exact shape_5 n w
  by_cases h11 : op = 11
  · subst h11; exact shape_11 n w
  by_cases h12 : op = 12
  · subst h12; exact shape_12 n w
  by_cases h13 : op = 13
  · subst h13; exact shape_13 n w
  by_cases h21 : op = 21
  · subst h21; exact shape_21 n w
  by_cases h34 : op = 34
  · subst h34; exact shape_34 n w
  by_cases h35 : op = 35
  · subst h35; exact shape_35 n w
  by_cases h36 : op = 36
  · subst h36; exact shape_36 n w
  by_cases h37 : op = 37
  · subst h37; exact shape_37 n w
  by_cases h6 : op = 6
  · subst h6; exact shape_6 n w
  by_cases h7 : op = 7
  · subst h7; exact shape_7 n w
  by_cases h8 : op = 8
  · subst h8; exact shape_8 n w
  by_cases h9 : op = 9
  · subst h9; exact shape_9 n w
  by_cases h10 : op = 10
  · subst h10; exact shape_10 n w
  by_cases h14 : op = 14
  · subst h14; exact shape_14 n w
  by_cases h32 : op = 32
  · subst h32; exact shape_32 n w
  by_cases h33 : op = 33
  · subst h33; exact shape_33 n w
  by_cases h15 : op = 15
  · subst h15; exact shape_15 n w
  by_cases h45 : op = 45
  · subst h45; exact shape_45 n w
  by_cases h46 : op = 46
  · subst h46; exact shape_46 n w
  by_cases h22 : op = 22
  · subst h22; exact shape_22 n w
  by_cases h23 : op = 23
  · subst h23; exact shape_23 n w
  by_cases h38 : op = 38
  · subst h38; exact shape_38 n w
  by_cases h39 : op = 39
  · subst h39; exact shape_39 n w
  by_cases h40 : op = 40
  · subst h40; exact shape_40 n w
  by_cases h48 : op = 48
  · subst h48; exact shape_48 n w
  by_cases h49 : op = 49
  · subst h49; exact shape_49 n w
  by_cases h50 : op = 50
  · subst h50; exact shape_50 n w
  by_cases h41 : op = 41
  · subst h41; exact shape_41 n w
  by_cases h42 : op = 42
  · subst h42; exact shape_42 n w
  by_cases h43 : op = 43
  · subst h43; exact shape_43 n w
  by_cases h44 : op = 44
  · subst h44; exact shape_44 n w
  by_cases h51 : op = 51
  · subst h51; exact shape_51 n w
  have : shapeS op n = none := by
    unfold shapeS shapeT
    simp only [atS, h47, h1, h2, h3, h4, h20, h30, h31, h5, h11, h12, h13, h21, h34, h35, h36, h37, h6, h7, h8, h9, h10, h14, h32, h33, h15, h45, h46, h22, h23, h38, h39, h40, h48, h49, h50, h41, h42, h43, h44, h51, if_false]
  rw [this]
  exact shape_none op n w (by intro k hk; simp only [List.mem_cons, List.not_mem_nil, or_false] at hk; rcases hk with rfl | rfl | rfl | rfl | rfl | rfl | rfl | rfl | rfl | rfl | rfl | rfl | rfl | rfl | rfl | rfl | rfl | rfl | rfl | rfl | rfl | rfl | rfl | rfl | rfl | rfl | rfl | rfl | rfl | rfl | rfl | rfl | rfl | rfl | rfl | rfl | rfl | rfl | rfl | rfl | rfl <;> assumption)
end Go.Proofs.YtgdiodhaihmnbaaDoor.Own
namespace Go.Proofs.YtgdiodhaihmnbaaDoor.Own
open Go
section
variable {P : Program} {ops : Array Oper} {md : Region.Mode} {C : World → Prop}
def anyL (P : Program) (md : Region.Mode) (ops : Array Oper) (C : World → Prop) (n : Nat) (L : Array Bool → Act → Prop) : Nat → Array Bool → Act → Prop
  | 0, listed, a => L listed a
  | f + 1, listed, a => Region.ready md ops listed ≠ [] ∧ ∀ i ∈ Region.ready md ops listed, i < n ∧ qOp P ops C i (anyL P md ops C n L f (listed.setIfInBounds i true)) a
theorem any_of_head {n g : Nat} {L : Array Bool → Act → Prop} {Q' : Exit → Act → World → Prop} (hL : ∀ listed a w, C w → L listed a → wpAny P md ops Q' g listed a w) :
    ∀ (f : Nat) (listed : Array Bool) (a : Act) (w : World), C w → anyL P md ops C n L f listed a → wpAny P md ops Q' (f + g) listed a w
  | 0, listed, a, w, hw, h => by rw [Nat.zero_add]; exact hL _ _ _ hw h
  | f + 1, listed, a, w, hw, h => by
    rw [show f + 1 + g = (f + g) + 1 by omega]
    exact ⟨fun h0 => absurd h0 h.1, fun i hi => wpOp_of_qOp hw (fun a' w' hw' h' => any_of_head hL f _ a' w' hw' h') (h.2 i hi).2⟩
theorem anyL_first {n i : Nat} {oi : Oper} {v : Value} {L : Array Bool → Act → Prop} (hi : ops[i]? = some oi) (hsel : ∀ (j : Nat) (o : Oper) cs b, ops[j]? = some o → o.op ≠ .select cs b)
    (hs : Region.sinkB md ops n = true) (hc : Region.chainB md ops n = true) (hn : n < ops.size) (hin : i < n)
    (hdone : ∀ listed a, L listed a → ∀ j ∈ Region.ready md ops listed, n ≤ j) :
    ∀ (f : Nat) (listed : Array Bool) (a : Act), HeadInv md ops n listed →
      (∀ j oj, ops[j]? = some oj → j ≠ i → listed.getD j true = false → (∀ e ∈ oj.after, Region.binds md e = true → e.on ≠ i) → oi.apart ops oj = true) →
      i ∈ Region.ready md ops listed → YieldsIn P ops C oi v a →
      anyL P md ops C n L f (listed.setIfInBounds i true) (a.put oi.dst v) → anyL P md ops C n L (f + 1) listed a := by
  intro f
  induction f with
  | zero =>
    intro listed a inv _ hr hy H
    have hun := (mem_ready.1 hr).1
    refine ⟨fun h => (by rw [h] at hr; cases hr), fun j hj => ?_⟩
    have hjn : j < n := by
      rcases Nat.lt_or_ge j n with h | h
      · exact h
      · exact absurd hj (tail_waits hs hc hn inv _ i rfl hin hun j h)
    refine ⟨hjn, ?_⟩
    by_cases hji : j = i
    · subst hji; exact hy.qOp hi H
    · have := hdone _ _ H j (ready_mono hj hji)
      omega
  | succ f ih =>
    intro listed a inv hfree hr hy H
    have hun := (mem_ready.1 hr).1
    refine ⟨fun h => (by rw [h] at hr; cases hr), fun j hj => ?_⟩
    have hjn : j < n := by
      rcases Nat.lt_or_ge j n with h | h
      · exact h
      · exact absurd hj (tail_waits hs hc hn inv _ i rfl hin hun j h)
    refine ⟨hjn, ?_⟩
    by_cases hji : j = i
    · subst hji; exact hy.qOp hi H
    · have h1 := (H.2 j (ready_mono hj hji)).2
      obtain ⟨hjun, oj, hoj, hall⟩ := mem_ready.1 hj
      have hnot : ∀ e ∈ oj.after, Region.binds md e = true → e.on ≠ i := fun e he hb heq => by
        have h1 := hall e he hb
        rw [heq, getD_both hun] at h1
        cases h1
      have h2 := qOp_put hoj (hfree j oj hoj hji hjun hnot) (fun cs b => hsel i oi cs b hi) (fun cs b => hsel j oj cs b hoj) hy h1
      have hfree' : ∀ k ok, ops[k]? = some ok → k ≠ i → (listed.setIfInBounds j true).getD k true = false →
          (∀ e ∈ ok.after, Region.binds md e = true → e.on ≠ i) → oi.apart ops ok = true := fun k ok hk hki hun hno => by
        refine hfree k ok hk hki ?_ hno
        by_cases hjk : j = k
        · subst hjk; exact hjun
        · rw [getD_set_ne true hjk] at hun; exact hun
      refine qOp_mono (fun a' h3 => ih (listed.setIfInBounds j true) a' (inv.set hj hjn) hfree' (ready_mono hr (Ne.symm hji)) h3.1 ?_) h2
      rw [Array.setIfInBounds_comm _ _ hji]
      exact h3.2
theorem anyL_lex {n g : Nat} {Lq : Act → Prop} (hsel : Region.noSelect ops = true) (hs : Region.sinkB md ops n = true) (hc : Region.chainB md ops n = true) (hn : n < ops.size) :
    ∀ (l : List Oper) (k : Nat) (listed : Array Bool) (a : Act), (∀ j, j < l.length → l[j]? = ops[k + j]?) → k + l.length = n → HeadInv md ops n listed →
    Region.lexHead md ops g l.length k listed = true → wpQuiet P ops C Lq l a →
    anyL P md ops C n (fun listed' a' => Region.seqB md ops g n listed' = true ∧ Lq a') l.length listed a
  | [], k, listed, a, _, hk, _, hB, h => by
    have : k = n := by simpa using hk
    subst this
    exact ⟨by simpa [Region.lexHead] using hB, h⟩
  | o :: l, k, listed, a, hl, hk, inv, hB, h => by
    have h0 : ops[k]? = some o := by simpa using (hl 0 (by simp)).symm
    simp only [List.length_cons, Region.lexHead, Bool.and_eq_true] at hB
    obtain ⟨⟨hr, hf⟩, hB'⟩ := hB
    have hkn : k < n := by simp only [List.length_cons] at hk; omega
    have hr' : k ∈ Region.ready md ops listed := by simpa using hr
    have hst : qOp P ops C k (wpQuiet P ops C Lq l) a := by unfold qOp; simp only [h0]; exact h
    obtain ⟨v, hy, hK⟩ := yieldsIn_of_qOp h0 hst
    exact anyL_first h0 (Region.noSelect_spec hsel) hs hc hn hkn (fun listed' a' hL => seqB_ready hL.1) l.length listed a inv (Region.free_spec h0 hf) hr' hy
      (anyL_lex hsel hs hc hn l (k + 1) _ _ (fun j hj => by have := hl (j + 1) (by simp; omega); simpa [Nat.add_assoc, Nat.add_comm 1 j] using this) (by simp only [List.length_cons] at hk; omega) (inv.set hr' hkn) hB' hK)
theorem wp_quiet_tail {id : Nat} {Q : Exit → Act → World → Prop} {a : Act} {w : World} {l : List Oper} (C : World → Prop) (n : Nat) (hm : P.follows .mixedOrders = true) (hB : Region.lexTailB .any l.toArray n = true) (hC : C w.drew)
    (h : wpQuiet P l.toArray C (fun a' => ∀ w', C w' → wpList P l.toArray Q (l.drop n) a' w') (l.take n) a) : (Code.region id l.toArray true).wp P Q a w := by
  simp only [Region.lexTailB, Bool.and_eq_true, decide_eq_true_eq] at hB
  obtain ⟨⟨⟨⟨hsel, hn⟩, hs⟩, hc⟩, hlex⟩ := hB
  have hn' : n < l.length := by simpa using hn
  have htl : (l.take n).length = n := by simp; omega
  have hdl : (l.drop n).length = l.toArray.size - n := by simp
  have inv0 : HeadInv .any l.toArray n (Array.replicate l.toArray.size false) :=
    ⟨by simp, fun j oj _ hl => (by rw [getD_replicate_false] at hl; cases hl), fun t _ ht => getD_in (by simpa using ht) (getD_replicate_false _ _)⟩
  have H := anyL_lex (md := .any) (g := l.toArray.size - n) hsel hs hc hn (l.take n) 0 _ a (fun j hj => by
    have hj' : j < n := by rw [htl] at hj; exact hj
    simp [hj']) (by simpa using htl) inv0 (by rw [htl]; exact hlex) h
  refine wp_region_any hm ?_
  have := any_of_head (C := C) (Q' := Q) (g := l.toArray.size - n) (fun listed a' w' hw' hL => by
    have := wpAny_of_seq (md := .any) (Q' := Q) (l.drop n) n listed a' w' (fun j => by simp [List.getElem?_drop]) (by rw [hdl]; exact hL.1) (hL.2 w' hw')
    rwa [hdl] at this) _ _ _ w.drew hC H
  rw [htl, show n + (l.toArray.size - n) = l.toArray.size by omega] at this
  exact this
section steps
variable {Q : Act → Prop} {a : Act} {o : Oper} {rest : List Oper}
theorem q_want (hg : o.guard = none) (h : ∀ K : Act → Prop, (∀ a, wpQuiet P ops C Q rest a → K a) → o.quiet P a C K) : wpQuiet P ops C Q (o :: rest) a :=
  wpQuiet_step fun K hK => by simp only [Region.wanted, hg, if_true]; exact h K hK
/-- An operation that yields its value in every world of the class. -/
theorem q_val {v : Value} (hg : o.guard = none) (hrun : ∀ w, C w → (execOp a.eval o).run P w = .ok (.value v) w) (h : wpQuiet P ops C Q rest (a.put o.dst v)) : wpQuiet P ops C Q (o :: rest) a :=
  q_want hg fun _ hK => ⟨v, fun w hw => by unfold Oper.quietAt; rw [hrun w hw]; exact ⟨rfl, rfl⟩, hK _ h⟩
theorem q_ex (hg : o.guard = none) (h : ∃ v, (∀ w, C w → (execOp a.eval o).run P w = .ok (.value v) w) ∧ wpQuiet P ops C Q rest (a.put o.dst v)) : wpQuiet P ops C Q (o :: rest) a :=
  let ⟨_, h1, h2⟩ := h
  q_val hg h1 h2
/-- A call that hands back its value and leaves a world of the class. -/
theorem q_call {v : Value} {f : FuncId} {args : Array Value} (hg : o.guard = none) (hrun : ∀ w, C w → (execOp a.eval o).run P w = .ok (.enter f args) w)
    (hc : ∀ w, C w → Calls P f args w fun e w' => e = .returned v ∧ C w') (h : wpQuiet P ops C Q rest (a.put o.dst v)) : wpQuiet P ops C Q (o :: rest) a :=
  q_want hg fun _ hK => ⟨v, fun w hw => by unfold Oper.quietAt; rw [hrun w hw]; exact ⟨rfl, hc w hw⟩, hK _ h⟩
end steps
end
end Go.Proofs.YtgdiodhaihmnbaaDoor.Own
namespace Go.Proofs.YtgdiodhaihmnbaaDoor.Own
open Go.RowKit Go.Proofs.YtgdiodhaihmnbaaDoorW.PrintWords Go.Proofs.YtgdiodhaihmnbaaDoorW.PrintLast Go.Proofs.YtgdiodhaihmnbaaDoorW.PrintMore Go.Proofs.YtgdiodhaihmnbaaDoor.PPrinterMatchesReference
/-- Have the kids the kinds that the operator requires? -/
def kindAt (l : List UInt8) (ks : List S24) (i : Nat) : Bool := kindC (ks.getD i z24).f0 == ((l.getD i 0).toNat : Int)
def fitsB (op : Int) (ks : List S24) : Bool := match shapeS op ks.length with
  | none => false
  | some l => decide (l.length = ks.length) && (List.range ks.length).all (kindAt l ks)
set_option maxHeartbeats 1000000 in
set_option maxRecDepth 100000 in
theorem fits_walk (op : Int) (ks : List S24) (w : World) (A : Option Addr) (c : Nat) (hx : k24.C w A ks.length ks) (hn : ks.length ≤ 9223372036854775807) : Calls Tryd.prog 56 #[.int .i64 op, .slice A ks.length c] w (SaysB w (fitsB op ks)) := by
  have HX := Aside0.mk hx
  have hu24 := Tryd.underlying24
  clear hx
  cases hs : shapeS op ks.length with
  | none =>
    have hr : fitsB op ks = false := by simp [fitsB, hs]
    have HS := Aside0.mk hs
    rw [hr]
    clear hr hs
    go_enter Tryd.func56, Tryd.ntmps56
    go_wp2_with fail
    refine (shape_walk op ks.length hn w).mono ?_
    rintro e w1 ⟨s, he, hsd, rfl⟩
    rw [HS.out] at he hsd
    subst he
    have HSD := Aside0.mk hsd
    clear hsd
    go_wp2_with fail
    go_ret
    exact ⟨rfl, Below.refl _ _⟩
  | some l =>
    have HS := Aside0.mk hs
    by_cases hl : l.length = ks.length
    · have HR : Aside0 (fitsB op ks = (List.range ks.length).all (kindAt l ks)) := ⟨by simp [fitsB, hs, hl]⟩
      rw [HR.out]
      have HLL := Aside0.mk hl
      clear hs hl HR
      go_enter Tryd.func56, Tryd.ntmps56
      go_wp2_with fail
      refine (shape_walk op ks.length hn w).mono ?_
      rintro e w1 ⟨s, he, hsd, rfl⟩
      rw [HS.out] at he hsd
      subst he
      simp only [Option.isSome, Option.getD_some] at hsd
      have HSD := Aside0.mk hsd
      have hss : s.size = ks.length := by rw [← data_length, hsd, HLL.out]
      have hsb : ((s.size : Int) != (ks.length : Int)) = false := by rw [hss]; simp
      have HSS := Aside0.mk hss
      clear hsd hss
      go_wp2_with fail
      go_loopw [7] (fun i wr => ∃ k : Nat, k ≤ ks.length ∧ i = .int .i64 k ∧ Aside0 ((List.range k).all (kindAt l ks) = true) ∧ Aside0 (Below w.heap.size w wr)) (fun i _ => ks.length - (intOf i).toNat)
      case atStart => exact ⟨0, by omega, rfl, ⟨rfl⟩, ⟨Below.refl _ _⟩⟩
      case round =>
        obtain ⟨k, hk, rfl, HE, HB⟩ := hrel
        by_cases hlt : k < ks.length
        · obtain ⟨ad, A3, c3, e1, g0, g1, g2, g3, g4, gl, gi⟩ := at_T24 (Kd.C_below HX.out HB.out) k (by omega) (by omega)
          cases e1
          simp only [Int.toNat_natCast] at g0
          clear g1 g2 g3 g4 gl gi
          have hks : k < s.size := by have := HSS.out; omega
          have HC : Aside0 (kindAt l ks k = (kindC (rd_T24 ks k).f0 == (((s[k]'hks).toNat : Int)))) := ⟨by
            have hl2 : k < s.data.toList.length := by rw [data_length]; exact hks
            have : (l.getD k 0) = s[k]'hks := by
              rw [← HSD.out]
              simp only [List.getD, List.getElem?_eq_getElem hl2, Option.getD_some]; rfl
            unfold kindAt
            rw [this]; rfl⟩
          obtain ⟨q, hq⟩ : ∃ q, kindC (rd_T24 ks k).f0 = q := ⟨_, rfl⟩
          have hkd : ∀ n, Calls Tryd.prog 54 #[.int .i64 (rd_T24 ks k).f0] (wr.drewN n) fun e w' => e = .returned (.int .u8 q) ∧ w' = wr.drewN n := fun n => by
            rw [← hq]; exact (kind_walk _ _).mono fun e w' h => ⟨h.1, h.2.symm⟩
          have HQ := Aside0.mk hq
          clear hq
          obtain ⟨r, HR⟩ : ∃ r, Aside0 (kindAt l ks k = r) := ⟨_, ⟨rfl⟩⟩
          have hb : (q != (((s[k]'hks).toNat : Int))) = !r := by rw [← HR.out, HC.out, HQ.out]; rfl
          cases r
          · have hb2 : (q != (((s[k]'hks).toNat : Int))) = true := hb
            clear hb
            go_wp2_with fail
            go_quiet ((go_at_call 54; exact Calls.quiet_of_same (hkd _)))
            go_wp2_with fail
            go_ret
            exact ⟨by rw [range_all_false _ _ _ hlt HR.out]; rfl, pw_below_drewN HB.out _⟩
          · have hb2 : (q != (((s[k]'hks).toNat : Int))) = false := hb
            clear hb
            go_wp2_with fail
            go_quiet ((go_at_call 54; exact Calls.quiet_of_same (hkd _)))
            go_wp2_with fail
            go_roundw
            case rel => exact ⟨k + 1, by omega, by go_num, ⟨by rw [range_all, HE.out, HR.out]; rfl⟩, ⟨pw_below_drewN HB.out _⟩⟩
            case measure => simp [intOf]; omega
        · have hke : k = ks.length := by omega
          have HF : Aside0 ((List.range ks.length).all (kindAt l ks) = true) := ⟨by have := HE.out; rw [hke] at this; exact this⟩
          clear hke
          go_wp2
          go_ret
          exact ⟨by rw [HF.out]; rfl, HB.out⟩
    · have hr : fitsB op ks = false := by simp [fitsB, hs, hl]
      rw [hr]
      have hl2 : l.length ≠ ks.length := hl
      clear hr hs hl
      go_enter Tryd.func56, Tryd.ntmps56
      go_wp2_with fail
      refine (shape_walk op ks.length hn w).mono ?_
      rintro e w1 ⟨s, he, hsd, rfl⟩
      rw [HS.out] at he hsd
      subst he
      simp only [Option.isSome, Option.getD_some] at hsd
      have hss : s.size = l.length := by rw [← data_length, hsd]
      have hsb : ((s.size : Int) != (ks.length : Int)) = true := by rw [bne_iff_ne]; omega
      clear hsd hss hl2
      go_wp2_with fail
      go_ret
      exact ⟨rfl, Below.refl _ _⟩
end Go.Proofs.YtgdiodhaihmnbaaDoor.Own
namespace Go.Proofs.YtgdiodhaihmnbaaDoor.Own
open Go.RowKit Go.Proofs.YtgdiodhaihmnbaaDoorW.PrintWords Go.Proofs.YtgdiodhaihmnbaaDoorW.PrintLast Go.Proofs.YtgdiodhaihmnbaaDoorW.PrintMore Go.Proofs.YtgdiodhaihmnbaaDoor.PPrinterMatchesReference
mutual
def frmN : S24 → Int → Bool
  | ⟨op, s, n, ks, at_⟩, lv => !decide (lv < 1) && ownB ⟨op, s, n, ks, at_⟩ && fitsB op ks && frmL ks (lv - 1)
def frmL : List S24 → Int → Bool
  | [], _ => true
  | x :: r, lv => frmN x lv && frmL r lv
end
theorem frmN_def (x : S24) (lv : Int) : frmN x lv = (!decide (lv < 1) && ownB x && fitsB x.f0 x.f3 && frmL x.f3 (lv - 1)) := by cases x; rw [frmN]
def validB (x : S24) : Bool := decide (cntN x 400 ≤ 400) && frmN x 24
def isForm (x : S24) : Bool := validB x && kindC x.f0 == 102
/-- A call that answers one int and makes memory alone. -/
def SaysI (w : World) (n : Int) (e : Ending) (w' : World) : Prop := e = .returned (.int .i64 n) ∧ Below w.heap.size w w'
theorem size_kid {x y : S24} (h : y ∈ x.f3) : SizeOf.sizeOf y < SizeOf.sizeOf x := by
  have h3 := List.sizeOf_lt_of_mem h
  have h4 : SizeOf.sizeOf x.f3 < SizeOf.sizeOf x := by cases x; simp; omega
  omega
set_option maxHeartbeats 1000000 in
set_option maxRecDepth 100000 in
theorem count_walk (n : Nat) : ∀ (x : S24) (left : Int) (w : World) (cs : List Value), SizeOf.sizeOf x < n → 0 ≤ left → left ≤ 1000000 → k24.K w x cs → Calls Tryd.prog 35 #[.agg cs.toArray, .int .i64 left] w (SaysI w (cntN x left)) := by
  induction n with
  | zero => intro x left w cs h; omega
  | succ n ih =>
    intro x left w cs hn hl0 hl1 hx
    obtain ⟨A, c, rfl, hlc, hA⟩ := k24_open hx
    have HA := Aside0.mk hA
    have hlen := row_len hA
    have hu24 := Tryd.underlying24
    have IH : Aside0 (∀ y ∈ x.f3, ∀ (left : Int) (w : World) (cs : List Value), 0 ≤ left → left ≤ 1000000 → k24.K w y cs → Calls Tryd.prog 35 #[.agg cs.toArray, .int .i64 left] w (SaysI w (cntN y left))) :=
      ⟨fun y hy left w cs h0 h1 h2 => ih y left w cs (by have := size_kid hy; omega) h0 h1 h2⟩
    rw [cntN_def]
    clear hA hx hlc hn ih
    go_enter Tryd.func35, Tryd.ntmps35
    go_wp2_with ((with_reducible refine gate_dst (N := 2) rfl ?_); refine box_event rfl (N := 2) rfl (cs := #[.int .i64 x.f0, .string x.f1, .int .i64 x.f2, .slice A x.f3.length c, .int .i64 x.f4]) (t := 24) (by first | (go_simp; done) | (go_simp; rfl)) ?_; intro g hg w1 hbk hb1; have HG := Aside0.mk hg; have HB1 := Aside0.mk hb1; have HBK := Aside0.mk hbk; clear hg hb1 hbk)
    go_loopw [5, 6] (fun s i wr => ∃ (k : Nat) (sum : Int), k ≤ x.f3.length ∧ i = .int .i64 k ∧ s = .int .i64 sum ∧ 1 ≤ sum ∧ sum ≤ left + 1 ∧ Aside0 (cntL (x.f3.drop k) left sum = cntL x.f3 left 1) ∧ Aside0 (Below w1.heap.size w1 wr)) (fun _ i _ => x.f3.length - (intOf i).toNat)
    case atStart => exact ⟨0, 1, by omega, rfl, rfl, by omega, by omega, ⟨rfl⟩, ⟨Below.refl _ _⟩⟩
    case round =>
      obtain ⟨k, sum, hk, rfl, rfl, hs1, hs2, HE, HB⟩ := hrel
      have hbk := blk_below HBK.out HB.out
      have z3 := blk_cell hbk 3
      by_cases hlt : k < x.f3.length
      · by_cases hsl : sum ≤ left
        · obtain ⟨ad, A3, c3, e1, g0, g1, g2, g3, g4, gl, gi⟩ := at_T24 (Kd.C_below HA.out (below_step HB1.out HB.out)) k (by omega) (by omega)
          cases e1
          simp only [Int.toNat_natCast] at g0 g1 g2 g3 g4
          have KX : Aside0 (k24.K wr (rd_T24 x.f3 k) [.int .i64 (rd_T24 x.f3 k).f0, .string (rd_T24 x.f3 k).f1, .int .i64 (rd_T24 x.f3 k).f2, .slice A3 (rd_T24 x.f3 k).f3.length c3, .int .i64 (rd_T24 x.f3 k).f4]) := ⟨k24_mk wr _ gl gi⟩
          have HM : Aside0 (rd_T24 x.f3 k ∈ x.f3) := ⟨List.mem_of_mem_drop (by rw [drop_rd x.f3 k hlt]; exact List.mem_cons_self)⟩
          have HST : Aside0 (cntL (x.f3.drop (k + 1)) left (sum + cntN (rd_T24 x.f3 k) (left - sum)) = cntL x.f3 left 1) := ⟨by rw [← HE.out, drop_rd x.f3 k hlt, cntL, if_pos hsl]⟩
          have hr := cntN_range (rd_T24 x.f3 k) (left - sum) (by omega)
          have hb : decide (sum ≤ left) = true := decide_eq_true hsl
          clear gl gi hbk
          obtain ⟨r, HR⟩ : ∃ r, Aside0 (cntN (rd_T24 x.f3 k) (left - sum) = r) := ⟨_, ⟨rfl⟩⟩
          rw [HR.out] at hr
          go_wp2_with fail
          refine (IH.out _ HM.out (left - sum) wr _ (by omega) (by omega) KX.out).mono ?_
          rintro e w2 ⟨rfl, hb2⟩
          rw [HR.out]
          have HB2 := Aside0.mk (below_step HB.out hb2)
          clear hb2 g0 g1 g2 g3 g4 z3
          go_wp2_with fail
          go_roundw
          case rel => exact ⟨k + 1, sum + r, by omega, by go_num, by go_num, by omega, by omega, ⟨by have := HST.out; rw [HR.out] at this; exact this⟩, HB2⟩
          case measure => simp [intOf]; omega
        · have HF : Aside0 (cntL x.f3 left 1 = sum) := ⟨by rw [← HE.out, drop_rd x.f3 k hlt, cntL, if_neg hsl]⟩
          have hb : decide (sum ≤ left) = false := decide_eq_false hsl
          go_wp2_with fail
          go_ret
          exact ⟨by rw [HF.out]; rfl, below_step HB1.out HB.out⟩
      · have HF : Aside0 (cntL x.f3 left 1 = sum) := ⟨by rw [← HE.out, List.drop_of_length_le (by omega), cntL]⟩
        go_wp2_with fail
        go_ret
        exact ⟨by rw [HF.out]; rfl, below_step HB1.out HB.out⟩
set_option maxHeartbeats 2000000 in
set_option maxRecDepth 100000 in
theorem formed_walk (n : Nat) : ∀ (x : S24) (lv : Int) (w : World) (cs : List Value), SizeOf.sizeOf x < n → numOK x → -1000000 ≤ lv → lv ≤ 1000000 → k24.K w x cs → Calls Tryd.prog 36 #[.agg cs.toArray, .int .i64 lv] w (SaysB w (frmN x lv)) := by
  induction n with
  | zero => intro x lv w cs h; omega
  | succ n ih =>
    intro x lv w cs hn hok hl0 hl1 hx
    have HX := Aside0.mk hx
    obtain ⟨A, c, rfl, hlc, hA⟩ := k24_open hx
    have HA := Aside0.mk hA
    have hlen := row_len hA
    have hu24 := Tryd.underlying24
    have HOK := Aside0.mk ((numOK_def x).1 hok)
    have IH : Aside0 (∀ y ∈ x.f3, ∀ (lv : Int) (w : World) (cs : List Value), -1000000 ≤ lv → lv ≤ 1000000 → k24.K w y cs → Calls Tryd.prog 36 #[.agg cs.toArray, .int .i64 lv] w (SaysB w (frmN y lv))) :=
      ⟨fun y hy lv w cs h0 h1 h2 => ih y lv w cs (by have := size_kid hy; omega) (numsOK_mem ((numOK_def x).1 hok).2 hy) h0 h1 h2⟩
    obtain ⟨qo, HO⟩ : ∃ q, Aside0 (ownB x = q) := ⟨_, ⟨rfl⟩⟩
    obtain ⟨qf, HF⟩ : ∃ q, Aside0 (fitsB x.f0 x.f3 = q) := ⟨_, ⟨rfl⟩⟩
    have hd := frmN_def x lv
    rw [HO.out, HF.out] at hd
    clear hA hx hlc hn ih hok
    by_cases hlv : lv < 1
    · have hb : decide (lv < 1) = true := decide_eq_true hlv
      rw [hb] at hd
      simp only [Bool.not_true, Bool.false_and] at hd
      rw [hd]
      clear hd hlv
      go_enter Tryd.func36, Tryd.ntmps36
      go_wp2_with ((with_reducible refine gate_dst (N := 2) rfl ?_); refine box_event rfl (N := 2) rfl (cs := #[.int .i64 x.f0, .string x.f1, .int .i64 x.f2, .slice A x.f3.length c, .int .i64 x.f4]) (t := 24) (by first | (go_simp; done) | (go_simp; rfl)) ?_; intro g hg w1 hbk hb1; have HG := Aside0.mk hg; have HB1 := Aside0.mk hb1; have z0 := blk_cell hbk 0; have z1 := blk_cell hbk 1; have z2 := blk_cell hbk 2; have z3 := blk_cell hbk 3; have z4 := blk_cell hbk 4; have HBK := Aside0.mk hbk; clear hg hb1 hbk)
      go_ret
      exact ⟨rfl, HB1.out⟩
    have hb : decide (lv < 1) = false := decide_eq_false hlv
    rw [hb] at hd
    simp only [Bool.not_false, Bool.true_and] at hd
    have hlv1 : 1 ≤ lv := by omega
    clear hlv
    cases qo
    · simp only [Bool.false_and] at hd
      rw [hd]
      clear hd
      go_enter Tryd.func36, Tryd.ntmps36
      go_wp2_with ((with_reducible refine gate_dst (N := 2) rfl ?_); refine box_event rfl (N := 2) rfl (cs := #[.int .i64 x.f0, .string x.f1, .int .i64 x.f2, .slice A x.f3.length c, .int .i64 x.f4]) (t := 24) (by first | (go_simp; done) | (go_simp; rfl)) ?_; intro g hg w1 hbk hb1; have HG := Aside0.mk hg; have HB1 := Aside0.mk hb1; have z0 := blk_cell hbk 0; have z1 := blk_cell hbk 1; have z2 := blk_cell hbk 2; have z3 := blk_cell hbk 3; have z4 := blk_cell hbk 4; have HBK := Aside0.mk hbk; clear hg hb1 hbk)
      refine (own_walk x w1 _ (k24.K_below HB1.out HX.out) HOK.out.1.2).mono ?_
      rintro e w2 ⟨rfl, hb2⟩
      rw [HO.out]
      have hbk2 := blk_below HBK.out hb2
      have HB2 := Aside0.mk (below_step HB1.out hb2)
      clear hb2 z0 z1 z2 z3 z4
      have z0 := blk_cell hbk2 0
      have z1 := blk_cell hbk2 1
      have z2 := blk_cell hbk2 2
      have z3 := blk_cell hbk2 3
      have z4 := blk_cell hbk2 4
      have HBK2 := Aside0.mk hbk2
      clear hbk2
      go_wp2_with fail
      go_ret
      exact ⟨rfl, HB2.out⟩
    cases qf
    · simp only [Bool.and_false, Bool.false_and] at hd
      rw [hd]
      clear hd
      go_enter Tryd.func36, Tryd.ntmps36
      go_wp2_with ((with_reducible refine gate_dst (N := 2) rfl ?_); refine box_event rfl (N := 2) rfl (cs := #[.int .i64 x.f0, .string x.f1, .int .i64 x.f2, .slice A x.f3.length c, .int .i64 x.f4]) (t := 24) (by first | (go_simp; done) | (go_simp; rfl)) ?_; intro g hg w1 hbk hb1; have HG := Aside0.mk hg; have HB1 := Aside0.mk hb1; have z0 := blk_cell hbk 0; have z1 := blk_cell hbk 1; have z2 := blk_cell hbk 2; have z3 := blk_cell hbk 3; have z4 := blk_cell hbk 4; have HBK := Aside0.mk hbk; clear hg hb1 hbk)
      refine (own_walk x w1 _ (k24.K_below HB1.out HX.out) HOK.out.1.2).mono ?_
      rintro e w2 ⟨rfl, hb2⟩
      rw [HO.out]
      have hbk2 := blk_below HBK.out hb2
      have HB2 := Aside0.mk (below_step HB1.out hb2)
      clear hb2 z0 z1 z2 z3 z4
      have z0 := blk_cell hbk2 0
      have z1 := blk_cell hbk2 1
      have z2 := blk_cell hbk2 2
      have z3 := blk_cell hbk2 3
      have z4 := blk_cell hbk2 4
      have HBK2 := Aside0.mk hbk2
      clear hbk2
      go_wp2_with fail
      refine (fits_walk x.f0 x.f3 w2 A c (Kd.C_below HA.out HB2.out) hlen).mono ?_
      rintro e w3 ⟨rfl, hb3⟩
      rw [HF.out]
      have HBK3 := Aside0.mk (blk_below HBK2.out hb3)
      have HB3 := Aside0.mk (below_step HB2.out hb3)
      clear hb3 z0 z1 z2 z3 z4
      go_wp2_with fail
      go_ret
      exact ⟨rfl, HB3.out⟩
    simp only [Bool.true_and] at hd
    rw [hd]
    clear hd
    go_enter Tryd.func36, Tryd.ntmps36
    go_wp2_with ((with_reducible refine gate_dst (N := 2) rfl ?_); refine box_event rfl (N := 2) rfl (cs := #[.int .i64 x.f0, .string x.f1, .int .i64 x.f2, .slice A x.f3.length c, .int .i64 x.f4]) (t := 24) (by first | (go_simp; done) | (go_simp; rfl)) ?_; intro g hg w1 hbk hb1; have HG := Aside0.mk hg; have HB1 := Aside0.mk hb1; have z0 := blk_cell hbk 0; have z1 := blk_cell hbk 1; have z2 := blk_cell hbk 2; have z3 := blk_cell hbk 3; have z4 := blk_cell hbk 4; have HBK := Aside0.mk hbk; clear hg hb1 hbk)
    refine (own_walk x w1 _ (k24.K_below HB1.out HX.out) HOK.out.1.2).mono ?_
    rintro e w2 ⟨rfl, hb2⟩
    rw [HO.out]
    have hbk2 := blk_below HBK.out hb2
    have HB2 := Aside0.mk (below_step HB1.out hb2)
    clear hb2 z0 z1 z2 z3 z4
    have z0 := blk_cell hbk2 0
    have z1 := blk_cell hbk2 1
    have z2 := blk_cell hbk2 2
    have z3 := blk_cell hbk2 3
    have z4 := blk_cell hbk2 4
    have HBK2 := Aside0.mk hbk2
    clear hbk2
    go_wp2_with fail
    refine (fits_walk x.f0 x.f3 w2 A c (Kd.C_below HA.out HB2.out) hlen).mono ?_
    rintro e w3 ⟨rfl, hb3⟩
    rw [HF.out]
    have HBK3 := Aside0.mk (blk_below HBK2.out hb3)
    have HB3 := Aside0.mk (below_step HB2.out hb3)
    clear hb3 z0 z1 z2 z3 z4
    go_wp2_with fail
    go_loopw [5] (fun i wr => ∃ k : Nat, k ≤ x.f3.length ∧ i = .int .i64 k ∧ Aside0 (frmL (x.f3.drop k) (lv - 1) = frmL x.f3 (lv - 1)) ∧ Aside0 (Below w3.heap.size w3 wr)) (fun i _ => x.f3.length - (intOf i).toNat)
    case atStart => exact ⟨0, by omega, rfl, ⟨rfl⟩, ⟨Below.refl _ _⟩⟩
    case round =>
      obtain ⟨k, hk, rfl, HE, HB⟩ := hrel
      have hbk := blk_below HBK3.out HB.out
      have z3 := blk_cell hbk 3
      by_cases hlt : k < x.f3.length
      · obtain ⟨ad, A3, c3, e1, g0, g1, g2, g3, g4, gl, gi⟩ := at_T24 (Kd.C_below HA.out (below_step HB3.out HB.out)) k (by omega) (by omega)
        cases e1
        simp only [Int.toNat_natCast] at g0 g1 g2 g3 g4
        have KX : Aside0 (k24.K wr (rd_T24 x.f3 k) [.int .i64 (rd_T24 x.f3 k).f0, .string (rd_T24 x.f3 k).f1, .int .i64 (rd_T24 x.f3 k).f2, .slice A3 (rd_T24 x.f3 k).f3.length c3, .int .i64 (rd_T24 x.f3 k).f4]) := ⟨k24_mk wr _ gl gi⟩
        have HM : Aside0 (rd_T24 x.f3 k ∈ x.f3) := ⟨List.mem_of_mem_drop (by rw [drop_rd x.f3 k hlt]; exact List.mem_cons_self)⟩
        have HST : Aside0 ((frmN (rd_T24 x.f3 k) (lv - 1) && frmL (x.f3.drop (k + 1)) (lv - 1)) = frmL x.f3 (lv - 1)) := ⟨by rw [← HE.out, drop_rd x.f3 k hlt, frmL]⟩
        clear gl gi hbk
        obtain ⟨r, HR⟩ : ∃ r, Aside0 (frmN (rd_T24 x.f3 k) (lv - 1) = r) := ⟨_, ⟨rfl⟩⟩
        go_wp2_with fail
        refine (IH.out _ HM.out (lv - 1) wr _ (by omega) (by omega) KX.out).mono ?_
        rintro e w4 ⟨rfl, hb4⟩
        rw [HR.out]
        have HB4 := Aside0.mk (below_step HB.out hb4)
        clear hb4 g0 g1 g2 g3 g4 z3
        cases r
        · go_wp2_with fail
          go_ret
          exact ⟨by rw [← HST.out, HR.out]; rfl, below_step HB3.out HB4.out⟩
        · go_wp2_with fail
          go_roundw
          case rel => exact ⟨k + 1, by omega, by go_num, ⟨by rw [← HST.out, HR.out]; rfl⟩, HB4⟩
          case measure => simp [intOf]; omega
      · have HF2 : Aside0 (frmL x.f3 (lv - 1) = true) := ⟨by rw [← HE.out, List.drop_of_length_le (by omega), frmL]⟩
        clear hbk
        go_wp2_with fail
        go_ret
        exact ⟨by rw [HF2.out]; rfl, below_step HB3.out HB.out⟩
set_option maxHeartbeats 2000000 in
set_option maxRecDepth 100000 in
theorem valid_walk (x : S24) (hok : numOK x) (w : World) (cs : List Value) (hx : k24.K w x cs) : Calls Tryd.prog 12 #[.agg cs.toArray] w (SaysB w (validB x)) := by
  have HX := Aside0.mk hx
  obtain ⟨A, c, rfl, hlc, hA⟩ := k24_open hx
  have hu24 := Tryd.underlying24
  have HOK := Aside0.mk hok
  obtain ⟨n, HN⟩ : ∃ n, Aside0 (cntN x 400 = n) := ⟨_, ⟨rfl⟩⟩
  obtain ⟨q, HQ⟩ : ∃ q, Aside0 (frmN x 24 = q) := ⟨_, ⟨rfl⟩⟩
  have hd : validB x = (decide (n ≤ 400) && q) := by rw [validB, HN.out, HQ.out]
  rw [hd]
  clear hx hA hlc hok hd
  go_enter Tryd.func12, Tryd.ntmps12
  go_wp2_with ((with_reducible refine gate_dst (N := 1) rfl ?_); refine box_event rfl (N := 1) rfl (cs := #[.int .i64 x.f0, .string x.f1, .int .i64 x.f2, .slice A x.f3.length c, .int .i64 x.f4]) (t := 24) (by first | (go_simp; done) | (go_simp; rfl)) ?_; intro g hg w1 hbk hb1; have HG := Aside0.mk hg; have HB1 := Aside0.mk hb1; have z0 := blk_cell hbk 0; have z1 := blk_cell hbk 1; have z2 := blk_cell hbk 2; have z3 := blk_cell hbk 3; have z4 := blk_cell hbk 4; have HBK := Aside0.mk hbk; clear hg hb1 hbk)
  refine (count_walk _ x 400 w1 _ (Nat.lt_succ_self _) (by omega) (by omega) (k24.K_below HB1.out HX.out)).mono ?_
  rintro e w2 ⟨rfl, hb2⟩
  rw [HN.out]
  have hbk2 := blk_below HBK.out hb2
  have HB2 := Aside0.mk (below_step HB1.out hb2)
  clear hb2 z0 z1 z2 z3 z4
  have z0 := blk_cell hbk2 0
  have z1 := blk_cell hbk2 1
  have z2 := blk_cell hbk2 2
  have z3 := blk_cell hbk2 3
  have z4 := blk_cell hbk2 4
  clear hbk2
  by_cases hn : n ≤ 400
  · have hb : decide (n ≤ 400) = true := decide_eq_true hn
    go_wp2_with fail
    refine (formed_walk _ x 24 w2 _ (Nat.lt_succ_self _) HOK.out (by omega) (by omega) (k24.K_below HB2.out HX.out)).mono ?_
    rintro e w3 ⟨rfl, hb3⟩
    rw [HQ.out]
    have HB3 := Aside0.mk (below_step HB2.out hb3)
    clear hb3 z0 z1 z2 z3 z4
    go_wp2_with fail
    go_ret
    exact ⟨by rw [hb]; rfl, HB3.out⟩
  · have hb : decide (n ≤ 400) = false := decide_eq_false hn
    go_wp2_with fail
    go_ret
    exact ⟨by rw [hb]; rfl, HB2.out⟩
end Go.Proofs.YtgdiodhaihmnbaaDoor.Own
namespace Go.Proofs.YtgdiodhaihmnbaaDoor.Own
open Go.RowKit
/-- The value at an int key. -/
def lookI (k : Int) : List MapEntry → Option Value
  | [] => none
  | e :: r => match e.key with
    | .int .i64 a => if k = a then some e.val else lookI k r
    | _ => lookI k r
/-- All keys are ints. -/
def keysI : List MapEntry → Bool
  | [] => true
  | e :: r => (match e.key with | .int .i64 _ => true | _ => false) && keysI r
/-- No entry of the list has the key. -/
def noKey (k : Int) : List MapEntry → Bool
  | [] => true
  | e :: r => (match e.key with | .int .i64 a => k != a | _ => false) && noKey k r
theorem findNow_I (k : Int) : ∀ (l : List MapEntry) (i : Nat), keysI l = true → ∃ q, Instr.findNow (.int .i64) (.int .i64 k) l i = some q ∧ q.map (·.2) = lookI k l
  | [], _, _ => ⟨none, rfl, rfl⟩
  | e :: r, i, h => by
    rw [keysI, Bool.and_eq_true] at h
    obtain ⟨h1, h2⟩ := h
    obtain ⟨q, hq, hl⟩ := findNow_I k r (i + 1) h2
    rw [Instr.findNow, lookI]
    obtain ⟨ek, ev, eb⟩ := e
    cases ek with
    | int kk a =>
      cases kk <;> simp at h1
      by_cases hka : k = a
      · subst hka
        exact ⟨some (i, ev), by simp [Instr.sameNow], by simp⟩
      · have hb : (k == a) = false := by simp [hka]
        exact ⟨q, by simp [Instr.sameNow, hb, hq], by simp [hka, hl]⟩
    | _ => simp at h1
theorem noKey_look (k : Int) : ∀ l, noKey k l = true → keysI l = true ∧ lookI k l = none
  | [], _ => ⟨rfl, rfl⟩
  | e :: r, h => by
    rw [noKey, Bool.and_eq_true] at h
    obtain ⟨h1, h2⟩ := h
    obtain ⟨h3, h4⟩ := noKey_look k r h2
    rw [keysI, lookI]
    obtain ⟨ek, ev, eb⟩ := e
    cases ek with
    | int kk a =>
      cases kk <;> simp at h1
      simp [h1, h3, h4]
    | _ => simp at h1
theorem run_checkKey_int (w : World) (e : Bool) (kt : TypeId) (P : Program) (hk : P.underlying kt = some (.int .i64)) (k : Int) : (Instr.checkKey e 10000 kt (.int .i64 k)).run P w = .ok () w := by
  rw [show (10000 : Nat) = 9999 + 1 from rfl, Instr.checkKey]
  simp [run_underlying hk]
theorem run_insert_new {P : Program} {t e : TypeId} (kt : TypeId) (ht : P.underlying t = some (.map kt e)) (hk : P.underlying kt = some (.int .i64)) (w : World) (l : List MapEntry) (c : Nat) (k : Int) (v : Value) (h : noKey k l = true) :
    (Instr.mapUpdate t (.map (some w.heap.size)) (.int .i64 k) v).run P (w.alloc (.map l.toArray c)) = .ok () (w.alloc (.map (l ++ [(⟨.int .i64 k, v, c⟩ : MapEntry)]).toArray (c + 1))) := by
  obtain ⟨h1, h2⟩ := noKey_look k l h
  obtain ⟨q, hq, hl⟩ := findNow_I k l 0 h1
  rw [h2, Option.map_eq_none_iff] at hl
  subst hl
  have hb : (w.alloc (.map l.toArray c)).heap[w.heap.size]? = some (.map l.toArray c) := by unfold World.alloc; simp [-World.alloc_eq]
  simp [Instr.mapUpdate, Instr.findKey, run_underlying ht, run_underlying hk, MapKept.run_getObj_map hb, run_checkKey_int _ _ _ _ hk, hq, MapKept.run_setObj_map _ hb, Result.andThen]
  unfold World.alloc
  simp only [List.append_toArray, Array.setIfInBounds]
  simp [-World.alloc_eq, Array.set_push]
theorem run_look {P : Program} {t e : TypeId} (kt : TypeId) (ht : P.underlying t = some (.map kt e)) (hk : P.underlying kt = some (.int .i64)) (z : Value) (hz : ∀ w, (zeroValue e).run P w = .ok z w)
    (w : World) (r : Nat) (l : List MapEntry) (c : Nat) (hb : w.heap[r]? = some (.map l.toArray c)) (hl : keysI l = true) (k : Int) :
    (Instr.lookup t (.map (some r)) (.int .i64 k) true).run P w = .ok (.tuple #[(lookI k l).getD z, .bool (lookI k l).isSome]) w := by
  obtain ⟨q, hq, hl⟩ := findNow_I k l 0 hl
  rw [← hl]
  cases q with
  | none => simp [Instr.lookup, Instr.findKey, run_underlying ht, run_underlying hk, MapKept.run_getObj_map hb, run_checkKey_int _ _ _ _ hk, hq, hz, Result.andThen]
  | some p => obtain ⟨i, v⟩ := p; simp [Instr.lookup, Instr.findKey, run_underlying ht, run_underlying hk, MapKept.run_getObj_map hb, run_checkKey_int _ _ _ _ hk, hq, Result.andThen]
theorem run_look1 {P : Program} {t e : TypeId} (kt : TypeId) (ht : P.underlying t = some (.map kt e)) (hk : P.underlying kt = some (.int .i64)) (z : Value) (hz : ∀ w, (zeroValue e).run P w = .ok z w)
    (w : World) (r : Nat) (l : List MapEntry) (c : Nat) (hb : w.heap[r]? = some (.map l.toArray c)) (hl : keysI l = true) (k : Int) :
    (Instr.lookup t (.map (some r)) (.int .i64 k) false).run P w = .ok ((lookI k l).getD z) w := by
  obtain ⟨q, hq, hl⟩ := findNow_I k l 0 hl
  rw [← hl]
  cases q with
  | none => simp [Instr.lookup, Instr.findKey, run_underlying ht, run_underlying hk, MapKept.run_getObj_map hb, run_checkKey_int _ _ _ _ hk, hq, hz, Result.andThen]
  | some p => obtain ⟨i, v⟩ := p; simp [Instr.lookup, Instr.findKey, run_underlying ht, run_underlying hk, MapKept.run_getObj_map hb, run_checkKey_int _ _ _ _ hk, hq, Result.andThen]
section
open Go.Proofs.YtgdiodhaihmnbaaDoorW.PrintWords
variable {P : Program} {ops : Array Oper} {Q : Exit → Act → World → Prop} {a : Act} {rest : List Oper} {o : Oper}
theorem insert_event {w : World} (hgd : o.guard = none) (hN : o.dst = none) {t e : TypeId} (kt : TypeId) (ht : P.underlying t = some (.map kt e)) (hk : P.underlying kt = some (.int .i64)) {m k x : Operand} (ho : o.op = .insert t m k x)
    (l : List MapEntry) (c : Nat) (ki : Int) (v : Value) (hm : a.eval m = .map (some w.heap.size)) (hki : a.eval k = .int .i64 ki) (hv : a.eval x = v) (hno : noKey ki l = true)
    (h : wpList P ops Q rest a (w.alloc (.map (l ++ [(⟨.int .i64 ki, v, c⟩ : MapEntry)]).toArray (c + 1)))) : wpList P ops Q (o :: rest) a (w.alloc (.map l.toArray c)) := by
  refine wpList_plain hgd fun K hK => ?_
  unfold Oper.wp
  have hrun : (execOp a.eval o).run P (w.alloc (.map l.toArray c)) = .ok .skip (w.alloc (.map (l ++ [(⟨.int .i64 ki, v, c⟩ : MapEntry)]).toArray (c + 1))) := by
    have := run_insert_new kt ht hk w l c ki v hno
    obtain ⟨od, oo, ot, op, oa, og⟩ := o
    simp only at ho
    subst ho
    simp [execOp, hm, hki, hv, this, Result.andThen]
  rw [hrun]
  show K (a.put o.dst undef) _
  rw [hN]
  exact hK _ _ h
end
end Go.Proofs.YtgdiodhaihmnbaaDoor.Own
namespace Go.Proofs.YtgdiodhaihmnbaaDoor.Own
open Go.RowKit Go.Proofs.YtgdiodhaihmnbaaDoorW.PrintWords Go.Proofs.YtgdiodhaihmnbaaDoorW.PrintLast Go.Proofs.YtgdiodhaihmnbaaDoorW.PrintMore Go.Proofs.YtgdiodhaihmnbaaDoor.PPrinterMatchesReference
def binT : List (Int × List UInt8 × Int × Int × Int) := [(44, [32, 60, 61, 62, 32], 1, 1, 2), (43, [32, 61, 62, 32], 2, 3, 2), (42, [32, 124, 124, 32], 3, 3, 4), (41, [32, 38, 38, 32], 4, 4, 5), (51, [32, 117, 110, 116, 105, 108, 32], 5, 6, 5), (32, [32, 105, 110, 32], 7, 8, 8), (33, [32, 61, 32], 7, 8, 8), (38, [32, 61, 32], 7, 8, 8), (39, [32, 60, 32], 7, 8, 8), (6, [32, 43, 32], 8, 8, 9), (22, [32, 43, 32], 8, 8, 9), (8, [32, 45, 32], 8, 8, 9), (23, [32, 45, 32], 8, 8, 9), (14, [32, 43, 43, 32], 9, 9, 10), (7, [32, 38, 32], 10, 10, 11), (10, [32, 45, 62, 32], 11, 11, 12), (9, [46], 12, 12, 13)]
def preT : List (Int × List UInt8 × Int × Int × Int) := [(40, [110, 111, 116, 32], 6, 6, 0), (48, [97, 108, 119, 97, 121, 115, 32], 6, 6, 0), (49, [101, 118, 101, 110, 116, 117, 97, 108, 108, 121, 32], 6, 6, 0), (50, [97, 102, 116, 101, 114, 32], 6, 6, 0), (35, [110, 111, 32], 7, 8, 0), (34, [115, 111, 109, 101, 32], 7, 8, 0), (36, [111, 110, 101, 32], 7, 8, 0), (37, [108, 111, 110, 101, 32], 7, 8, 0), (21, [35], 12, 12, 0), (11, [126], 13, 13, 0), (12, [94], 13, 13, 0), (13, [42], 13, 13, 0)]
/-- A table as the entries of a map: the values are structs of four cells. -/
def entT : List (Int × List UInt8 × Int × Int × Int) → Nat → List MapEntry
  | [], _ => []
  | (k, s, l, m, n) :: r, i => ⟨.int .i64 k, .agg #[.string ⟨s.toArray⟩, .int .i64 l, .int .i64 m, .int .i64 n], i⟩ :: entT r (i + 1)
set_option maxHeartbeats 1000000 in
set_option maxRecDepth 100000 in
theorem bin_walk (w : World) : Calls Tryd.prog 57 #[] w (fun e w' => e = .returned (.map (some w.heap.size)) ∧ w' = w.alloc (.map (entT binT 0).toArray 17)) := by
  have hmm := @run_makeMap Tryd.prog
  go_enter Tryd.func57, Tryd.ntmps57
  go_wp2_with (refine insert_event rfl rfl 3 Tryd.underlying73 Tryd.underlying3 rfl _ _ _ _ rfl rfl rfl (by rfl) ?_)
  go_ret
  exact ⟨rfl, rfl⟩
set_option maxHeartbeats 1000000 in
set_option maxRecDepth 100000 in
theorem pre_walk (w : World) : Calls Tryd.prog 58 #[] w (fun e w' => e = .returned (.map (some w.heap.size)) ∧ w' = w.alloc (.map (entT preT 0).toArray 12)) := by
  have hmm := @run_makeMap Tryd.prog
  go_enter Tryd.func58, Tryd.ntmps58
  go_wp2_with (refine insert_event rfl rfl 3 Tryd.underlying73 Tryd.underlying3 rfl _ _ _ _ rfl rfl rfl (by rfl) ?_)
  go_ret
  exact ⟨rfl, rfl⟩
set_option maxHeartbeats 1000000 in
set_option maxRecDepth 100000 in
theorem new_walk (w : World) : Calls Tryd.prog 37 #[] w (fun e w' => e = .returned (.pointer (some ⟨w.heap.size + 2, 0, none⟩)) ∧ w' = ((w.alloc (.map (entT binT 0).toArray 17)).alloc (.map (entT preT 0).toArray 12)).alloc (.cells #[.pointer none, .slice none 0 0, .map (some w.heap.size), .map (some (w.heap.size + 1))] 75)) := by
  go_enter Tryd.func37, Tryd.ntmps37
  go_wp2_with (first | (go_at_call 57; refine (bin_walk _).mono ?_; rintro e w1 ⟨rfl, rfl⟩) | (go_at_call 58; refine (pre_walk _).mono ?_; rintro e w1 ⟨rfl, rfl⟩))
  go_ret
  exact ⟨rfl, rfl⟩
end Go.Proofs.YtgdiodhaihmnbaaDoor.Own
namespace Go.Proofs.YtgdiodhaihmnbaaDoor.Own
open Go.Proofs.YtgdiodhaihmnbaaDoor.PPrinterMatchesReference
/-- The row of a table at a key: text, level, needs. -/
def atT (k : Int) : List (Int × List UInt8 × Int × Int × Int) → Option (List UInt8 × Int × Int × Int)
  | [] => none
  | (a, v) :: r => if k = a then some v else atT k r
def lvl (op : Int) : Int :=
  match atT op binT with
  | some (_, l, _, _) => l
  | none => match atT op preT with
    | some (_, l, _, _) => l
    | none => if op = 5 then 14 else 15
/-- The words of the nodes without kids. -/
def wordT (op : Int) : List UInt8 :=
  if op = 3 then [117, 110, 105, 118] else if op = 4 then [105, 100, 101, 110] else if op = 30 then [116, 114, 117, 101] else if op = 31 then [102, 97, 108, 115, 101] else []
/-- Does the operand stand bare? -/
def bare (op need : Int) (fin : Bool) : Bool := decide (lvl op ≥ need) && (fin || !(decide (op = 45) || decide (op = 46)))
mutual
/-- The text of a node. -/
def txt : S24 → Bool → List UInt8
  | ⟨op, s, n, ks, _⟩, fin =>
    match atT op binT with
    | some (t, _, a, b) => opd ks 0 a false ++ t ++ opd ks 1 b fin
    | none => match atT op preT with
      | some (t, _, a, _) => t ++ opd ks 0 a fin
      | none =>
        if op = 1 then s.data.toList
        else if op = 2 then [110, 111, 110, 101] ++ (if n = 1 then [] else [91] ++ Lib.itoa n ++ [93])
        else if op = 20 then Lib.itoa n
        else if op = 5 then opd ks 0 14 false ++ [39]
        else if op = 45 then [97, 108, 108, 32] ++ (s.data.toList ++ [58, 32] ++ opd ks 0 8 true ++ [32, 124, 32] ++ nod ks 1)
        else if op = 46 then [115, 111, 109, 101, 32] ++ (s.data.toList ++ [58, 32] ++ opd ks 0 8 true ++ [32, 124, 32] ++ nod ks 1)
        else if op = 15 then [123] ++ (s.data.toList ++ [58, 32] ++ opd ks 0 8 true ++ [32, 124, 32] ++ nod ks 1) ++ [125]
        else if op = 47 then s.data.toList ++ [91] ++ argl ks true ++ [93]
        else wordT op
/-- Operand i of the kids, where a level is needed. -/
def opd : List S24 → Nat → Int → Bool → List UInt8
  | [], _, _, _ => []
  | x :: _, 0, need, fin => if bare x.f0 need fin then txt x fin else [40] ++ txt x true ++ [41]
  | _ :: r, i + 1, need, fin => opd r i need fin
/-- The text of kid i. -/
def nod : List S24 → Nat → List UInt8
  | [], _ => []
  | x :: _, 0 => txt x true
  | _ :: r, i + 1 => nod r i
/-- The arguments of a call, the first or later ones. -/
def argl : List S24 → Bool → List UInt8
  | [], _ => []
  | x :: r, first => (if first then [] else [44, 32]) ++ (if bare x.f0 8 true then txt x true else [40] ++ txt x true ++ [41]) ++ argl r false
end
/-- An operand. -/
def opr (x : S24) (need : Int) (fin : Bool) : List UInt8 := if bare x.f0 need fin then txt x fin else [40] ++ txt x true ++ [41]
/-- What stands behind a quantifier's word. -/
def bnd (x : S24) : List UInt8 := x.f1.data.toList ++ [58, 32] ++ opd x.f3 0 8 true ++ [32, 124, 32] ++ nod x.f3 1
theorem txt_def (x : S24) (fin : Bool) : txt x fin = match atT x.f0 binT with
    | some (t, _, a, b) => opd x.f3 0 a false ++ t ++ opd x.f3 1 b fin
    | none => match atT x.f0 preT with
      | some (t, _, a, _) => t ++ opd x.f3 0 a fin
      | none =>
        if x.f0 = 1 then x.f1.data.toList
        else if x.f0 = 2 then [110, 111, 110, 101] ++ (if x.f2 = 1 then [] else [91] ++ Lib.itoa x.f2 ++ [93])
        else if x.f0 = 20 then Lib.itoa x.f2
        else if x.f0 = 5 then opd x.f3 0 14 false ++ [39]
        else if x.f0 = 45 then [97, 108, 108, 32] ++ bnd x
        else if x.f0 = 46 then [115, 111, 109, 101, 32] ++ bnd x
        else if x.f0 = 15 then [123] ++ bnd x ++ [125]
        else if x.f0 = 47 then x.f1.data.toList ++ [91] ++ argl x.f3 true ++ [93]
        else wordT x.f0 := by cases x; rw [txt]; rfl
theorem opd_rd : ∀ (ks : List S24) (i : Nat) (need : Int) (fin : Bool), need ≤ 15 → opd ks i need fin = opr (ks.getD i z24) need fin
  | [], i, need, fin, h => by
    have : bare 0 need fin = true := by
      have : lvl 0 = 15 := by decide
      simp [bare, this, h]
    simp only [opd, List.getD_nil, opr, z24, this, if_true]
    rw [txt_def]
    rfl
  | x :: r, 0, need, fin, _ => by simp [opd, opr]
  | x :: r, i + 1, need, fin, h => by rw [opd, opd_rd r i need fin h]; simp
theorem nod_rd : ∀ (ks : List S24) (i : Nat), nod ks i = txt (ks.getD i z24) true
  | [], i => by
    simp only [nod, List.getD_nil, z24]
    rw [txt_def]
    rfl
  | x :: r, 0 => by simp [nod]
  | x :: r, i + 1 => by rw [nod, nod_rd r i]; simp
theorem argl_cons (x : S24) (r : List S24) (first : Bool) : argl (x :: r) first = (if first then [] else [44, 32]) ++ opr x 8 true ++ argl r false := by rw [argl, opr]
/-- The tables, and the maps that hold them. -/
theorem keys_entT : ∀ (l : List (Int × List UInt8 × Int × Int × Int)) (i : Nat), keysI (entT l i) = true
  | [], _ => rfl
  | (k, s, a, b, c) :: r, i => by rw [entT, keysI, keys_entT r (i + 1)]; rfl
theorem look_entT (k : Int) : ∀ (l : List (Int × List UInt8 × Int × Int × Int)) (i : Nat), lookI k (entT l i) = (atT k l).map fun (s, a, b, c) => .agg #[.string ⟨s.toArray⟩, .int .i64 a, .int .i64 b, .int .i64 c]
  | [], _ => rfl
  | (a, s, l, b, c) :: r, i => by
    rw [entT, lookI, atT]
    by_cases h : k = a
    · simp [h]
    · simp [h, look_entT k r (i + 1)]
end Go.Proofs.YtgdiodhaihmnbaaDoor.Own
namespace Go.Proofs.YtgdiodhaihmnbaaDoor.Own
open Go.Proofs.YtgdiodhaihmnbaaDoor.PPrinterMatchesReference
/-- A token: 1 a word, 2 a number, 3 a symbol; its bytes. -/
abbrev Tok := Nat × List UInt8
def symT (s : List UInt8) : Tok := (3, s)
def wrdT (s : List UInt8) : Tok := (1, s)
/-- Without the blanks around it. -/
def trimT (s : List UInt8) : List UInt8 := s.filter (· != 32)
/-- Is it a word's text? -/
def opTok (s : List UInt8) : Tok := if letU ((trimT s).getD 0 0).toNat then wrdT (trimT s) else symT (trimT s)
def numTok (n : Int) : List Tok := if n < 0 then [symT [45], (2, Lib.itoa (0 - n))] else [(2, Lib.itoa n)]
mutual
/-- The tokens of a node. -/
def toks : S24 → Bool → List Tok
  | ⟨op, s, n, ks, _⟩, fin =>
    match atT op binT with
    | some (t, _, a, b) => opdT ks 0 a false ++ [opTok t] ++ opdT ks 1 b fin
    | none => match atT op preT with
      | some (t, _, a, _) => [opTok t] ++ opdT ks 0 a fin
      | none =>
        if op = 1 then [wrdT s.data.toList]
        else if op = 2 then [wrdT [110, 111, 110, 101]] ++ (if n = 1 then [] else [symT [91]] ++ numTok n ++ [symT [93]])
        else if op = 20 then numTok n
        else if op = 5 then opdT ks 0 14 false ++ [symT [39]]
        else if op = 45 then [wrdT [97, 108, 108]] ++ ([wrdT s.data.toList, symT [58]] ++ opdT ks 0 8 true ++ [symT [124]] ++ nodT ks 1)
        else if op = 46 then [wrdT [115, 111, 109, 101]] ++ ([wrdT s.data.toList, symT [58]] ++ opdT ks 0 8 true ++ [symT [124]] ++ nodT ks 1)
        else if op = 15 then [symT [123]] ++ ([wrdT s.data.toList, symT [58]] ++ opdT ks 0 8 true ++ [symT [124]] ++ nodT ks 1) ++ [symT [125]]
        else if op = 47 then [wrdT s.data.toList, symT [91]] ++ argT ks true ++ [symT [93]]
        else [wrdT (wordT op)]
def opdT : List S24 → Nat → Int → Bool → List Tok
  | [], _, _, _ => []
  | x :: _, 0, need, fin => if bare x.f0 need fin then toks x fin else [symT [40]] ++ toks x true ++ [symT [41]]
  | _ :: r, i + 1, need, fin => opdT r i need fin
def nodT : List S24 → Nat → List Tok
  | [], _ => []
  | x :: _, 0 => toks x true
  | _ :: r, i + 1 => nodT r i
def argT : List S24 → Bool → List Tok
  | [], _ => []
  | x :: r, first => (if first then [] else [symT [44]]) ++ (if bare x.f0 8 true then toks x true else [symT [40]] ++ toks x true ++ [symT [41]]) ++ argT r false
end
end Go.Proofs.YtgdiodhaihmnbaaDoor.Own
