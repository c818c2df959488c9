/- Steps towards the statement: the printer's texts of two valid formulas are equal exactly if the formulas are; walks of the program's functions and the plain law behind them. This text: part 4 of 4. No condition of its own. -/
import Derived.Laws.EntriesVeiled
import Derived.ProofKit
import Derived.OpenShut
import Derived.ShutString
import Derived.Deep.Slices
import Derived.Deep.Fields
import Derived.Test.YtgdiodhaihmnbaaDoorInj1
import Derived.Test.YtgdiodhaihmnbaaDoorInj2
import Derived.Test.YtgdiodhaihmnbaaDoorInj3
set_option linter.unusedSimpArgs false
set_option linter.unusedVariables false
namespace Go.Proofs.YtgdiodhaihmnbaaDoor.Own
open Go.RowKit Go.Proofs.YtgdiodhaihmnbaaDoorW.PrintWords Go.Proofs.YtgdiodhaihmnbaaDoorW.PrintLast Go.Proofs.YtgdiodhaihmnbaaDoorW.PrintMore Go.Proofs.YtgdiodhaihmnbaaDoor.PPrinterMatchesReference

/-- The name of a sort, empty where there is none. -/
def sortName (so : List S42) (i : Int) : ByteArray := if i < 0 ∨ (so.length : Int) ≤ i then ⟨#[]⟩ else (so.getD i.toNat z42).f0

/-- The memory that Spec's closures look at: the specification, the printer's pointer, the closure sort. -/
structure Env (b g gp gs : Nat) (so : List S42) (w0 w : World) : Prop where
  spec : ∃ (A0 : Option Addr) (c0 : Nat) (v1 v2 v3 : Value), w.heap[g]? = some (.cells #[.slice A0 so.length c0, v1, v2, v3] 30 (0, 0)) ∧ k42.C w0 A0 so.length so
  ptr : w.heap[gp]? = some (.cells #[.pointer (some ⟨b, 0, none⟩)] 65 (0, 0))
  fn : w.heap[gs]? = some (.cells #[.func (.func 46) #[] #[.pointer (some ⟨g, 0, none⟩)]] 80 (0, 0))
  gb : g ≠ b ∧ gp ≠ b ∧ gs ≠ b
theorem Env.wrote {b g gp gs : Nat} {so : List S42} {w0 w w1 : World} {B m2 m1 : Nat} {bs : List UInt8} (h : Env b g gp gs so w0 w) (k : Wrote B b m2 m1 bs w w1) : Env b g gp gs so w0 w1 := by
  obtain ⟨⟨A0, c0, v1, v2, v3, h1, h2⟩, h3, h4, h5⟩ := h
  exact ⟨⟨A0, c0, v1, v2, v3, k.blk h1 h5.1 (by decide), h2⟩, k.blk h3 h5.2.1 (by decide), k.blk h4 h5.2.2 (by decide), h5⟩
theorem Env.below {b g gp gs : Nat} {so : List S42} {w0 w w1 : World} (h : Env b g gp gs so w0 w) (k : Below w.heap.size w w1) : Env b g gp gs so w0 w1 := by
  obtain ⟨⟨A0, c0, v1, v2, v3, h1, h2⟩, h3, h4, h5⟩ := h
  exact ⟨⟨A0, c0, v1, v2, v3, blk_below h1 k, h2⟩, blk_below h3 k, blk_below h4 k, h5⟩

set_option maxHeartbeats 1000000 in
set_option maxRecDepth 100000 in
theorem sort_walk (b g gp gs : Nat) (so : List S42) (w0 w : World) (i : Int) (h : Env b g gp gs so w0 w) (hb : Below w0.heap.size w0 w) (hi1 : -9223372036854775808 ≤ i) (hi2 : i ≤ 9223372036854775807) :
    Calls Tryd.prog 46 #[.int .i64 i, .pointer (some ⟨g, 0, none⟩)] w fun e w' => e = .returned (.string (sortName so i)) ∧ w = w' := by
  obtain ⟨⟨A0, c0, v1, v2, v3, h1, h2⟩, _, _, _⟩ := h
  have z0 := blk_cell h1 0
  have hlen := row_len h2
  by_cases hlo : i < 0
  · have hr : sortName so i = ⟨#[]⟩ := by unfold sortName; rw [if_pos (.inl hlo)]
    have hb1 : decide (i < 0) = true := decide_eq_true hlo
    rw [hr]
    clear hr h1 h2
    go_enter Tryd.func46, Tryd.ntmps46
    go_wp2_with fail
    go_ret
    exact ⟨rfl, rfl⟩
  · by_cases hhi : (so.length : Int) ≤ i
    · have hr : sortName so i = ⟨#[]⟩ := by unfold sortName; rw [if_pos (.inr hhi)]
      have hb1 : decide (i < 0) = false := decide_eq_false hlo
      have hb2 : decide ((so.length : Int) ≤ i) = true := decide_eq_true hhi
      rw [hr]
      clear hr h1 h2
      go_enter Tryd.func46, Tryd.ntmps46
      go_wp2_with fail
      go_ret
      exact ⟨rfl, rfl⟩
    · obtain ⟨k, rfl⟩ : ∃ k : Nat, i = k := ⟨i.toNat, by omega⟩
      have hr : sortName so k = (so.getD k z42).f0 := by unfold sortName; rw [if_neg (by omega)]; simp
      have hb1 : decide ((k : Int) < 0) = false := decide_eq_false hlo
      have hlt : k < so.length := by omega
      obtain ⟨ad, e1, g0, g1⟩ := at_T42 h2 k (by omega) (by omega)
      cases e1
      simp only [Int.toNat_natCast] at g0
      replace g0 := pw_cell_below hb g0
      change _ = some (Value.string (so.getD k z42).f0) at g0
      rw [hr]
      have hlt2 : (k : Int) < (so.length : Int) := by omega
      clear hr h1 h2 g1 hb hlo hhi
      generalize so.getD k z42 = u at *
      go_enter Tryd.func46, Tryd.ntmps46
      go_wp2_with fail
      go_ret
      exact ⟨rfl, rfl⟩

theorem sortName_size (so : List S42) (hs : ∀ x ∈ so, x.f0.size ≤ 1000) (i : Int) : (sortName so i).size ≤ 1000 := by
  unfold sortName
  split
  · exact Nat.zero_le _
  · rename_i h
    exact hs _ (mem_get z42 so _ (by omega))

set_option maxHeartbeats 1000000 in
set_option maxRecDepth 100000 in
/-- The closure that writes the name of a sort. -/
theorem fsort_walk (b g gp gs : Nat) (so : List S42) (w0 w : World) (i : Int) (B m2 m1 : Nat) (bs : List UInt8) (h : Env b g gp gs so w0 w) (hb : Below w0.heap.size w0 w) (hi1 : -9223372036854775808 ≤ i) (hi2 : i ≤ 9223372036854775807)
    (hP : IsP B b m2 m1 bs w) (hlen : bs.length + (sortName so i).size ≤ most) :
    Calls Tryd.prog 49 #[.int .i64 i, .pointer (some ⟨gp, 0, none⟩), .pointer (some ⟨gs, 0, none⟩)] w fun e w' => e = .returned (.tuple #[]) ∧ Wrote B b m2 m1 (bs ++ (sortName so i).data.toList) w w' := by
  have hlt := hP.lt
  have hlow := hP.low
  have HP := Aside0.mk hP
  have HE := Aside0.mk h
  have HB := Aside0.mk hb
  clear h hb hP
  go_enter Tryd.func49, Tryd.ntmps49
  go_wp2_with fail
  obtain ⟨C, hCe⟩ : ∃ C : World → Prop, C = fun W => Below w.heap.size w W := ⟨_, rfl⟩
  have q0 : ∀ W, C W → W.cell? ⟨gp, 0, none⟩ = some (.pointer (some ⟨b, 0, none⟩)) := fun W hW => by rw [hCe] at hW; exact blk_cell (HE.out.below hW).ptr 0
  have q1 : ∀ W, C W → W.cell? ⟨gs, 0, none⟩ = some (.func (.func 46) #[] #[.pointer (some ⟨g, 0, none⟩)]) := fun W hW => by rw [hCe] at hW; exact blk_cell (HE.out.below hW).fn 0
  have hc : ∀ W, C W → Calls Tryd.prog 46 #[.int .i64 i, .pointer (some ⟨g, 0, none⟩)] W fun e w' => e = .returned (.string (sortName so i)) ∧ C w' := fun W hW => by
    have hW2 := hW
    rw [hCe] at hW2
    exact (sort_walk b g gp gs so w0 W i (HE.out.below hW2) (below_step HB.out hW2) hi1 hi2).mono fun e w' h => ⟨h.1, h.2 ▸ hW⟩
  refine wp_quiet_tail C 6 (by kernel_rfl) (by kernel_rfl) (by rw [hCe]; exact below_drew1 (Below.refl _ _)) ?_
  simp only [List.take_succ_cons, List.take_zero, List.drop_succ_cons, List.drop_zero]
  iterate 5
    refine q_ex rfl ?_
    apply Exists.intro
    refine ⟨fun W hW => ?_, ?_⟩
    · have p0 := q0 W hW
      have p1 := q1 W hW
      go_simp
      try rfl
    simp only [Act.put, List.setIfInBounds_toArray, List.set_cons_zero, List.set_cons_succ]
  refine q_call rfl (fun W hW => by go_simp) hc ?_
  simp only [Act.put, List.setIfInBounds_toArray, List.set_cons_zero, List.set_cons_succ]
  intro W hW
  rw [hCe] at hW
  clear q0 q1 hc hCe
  have HW := Aside0.mk hW
  clear hW
  go_wp2_with fail
  refine (writeString_walk B b m2 m1 bs _ W (HP.out.below HW.out) (by unfold most at hlen; exact hlen) (by have := HW.out.size; omega)).mono ?_
  rintro e w1 ⟨rfl, hw1⟩
  have HW1 := Aside0.mk (Wrote.after HW.out (by omega) hw1)
  clear hw1
  go_wp2_with fail
  go_end0
  exact ⟨rfl, HW1.out⟩
end Go.Proofs.YtgdiodhaihmnbaaDoor.Own
namespace Go.Proofs.YtgdiodhaihmnbaaDoor.Own
open Go.RowKit Go.Proofs.YtgdiodhaihmnbaaDoorW.PrintWords Go.Proofs.YtgdiodhaihmnbaaDoorW.PrintLast Go.Proofs.YtgdiodhaihmnbaaDoorW.PrintMore Go.Proofs.YtgdiodhaihmnbaaDoor.PPrinterMatchesReference

/-- A parameter's text. -/
def parT (so : List S42) (x : S47) : List UInt8 := x.f0.data.toList ++ [58, 32] ++ (sortName so x.f1).data.toList

set_option maxHeartbeats 1000000 in
set_option maxRecDepth 100000 in
/-- The closure that writes a parameter. -/
theorem fpar_walk (b g gp gs : Nat) (so : List S42) (w0 w : World) (x : S47) (B m2 m1 : Nat) (bs : List UInt8) (h : Env b g gp gs so w0 w) (hb : Below w0.heap.size w0 w) (hi1 : -9223372036854775808 ≤ x.f1) (hi2 : x.f1 ≤ 9223372036854775807)
    (hP : IsP B b m2 m1 bs w) (hlen : bs.length + (parT so x).length ≤ most) :
    Calls Tryd.prog 51 #[.agg #[.string x.f0, .int .i64 x.f1], .pointer (some ⟨gp, 0, none⟩), .pointer (some ⟨gs, 0, none⟩)] w fun e w' => e = .returned (.tuple #[]) ∧ Wrote B b m2 m1 (bs ++ parT so x) w w' := by
  have hlt := hP.lt
  have hlow := hP.low
  have HP := Aside0.mk hP
  have HE := Aside0.mk h
  have HB := Aside0.mk hb
  have hu47 := Tryd.underlying47
  have hl2 : bs.length + (x.f0.size + 2 + (sortName so x.f1).size) ≤ most := by
    unfold parT at hlen
    simp only [List.length_append, data_length, List.length_cons, List.length_nil] at hlen; omega
  have hs1 : ¬ 9223372036854775807 < x.f0.size + 2 := by unfold most at hl2; omega
  have HS1 := Aside0.mk (show (x.f0 ++ (⟨#[58, 32]⟩ : ByteArray)).size = x.f0.size + 2 by rw [ByteArray.size_append]; rfl)
  have hs2 : ¬ 9223372036854775807 < x.f0.size + 2 + (sortName so x.f1).size := by unfold most at hl2; omega
  have HL := Aside0.mk hl2
  have hass : bs ++ parT so x = bs ++ ((x.f0 ++ ⟨#[58, 32]⟩) ++ sortName so x.f1).data.toList := by unfold parT; simp [ByteArray.data_append]
  rw [hass]
  obtain ⟨sn, hsn⟩ : ∃ sn, sn = sortName so x.f1 := ⟨_, rfl⟩
  have HSN := Aside0.mk hsn
  rw [← hsn] at hs2 HL ⊢
  clear h hb hP hl2 hlen hass hsn
  go_enter Tryd.func51, Tryd.ntmps51
  go_wp2_with fail
  obtain ⟨C, hCe⟩ : ∃ C : World → Prop, C = fun W => Below (w.alloc (.cells #[.string x.f0, .int .i64 x.f1] 47)).heap.size (w.alloc (.cells #[.string x.f0, .int .i64 x.f1] 47)) W := ⟨_, rfl⟩
  have HC := Aside0.mk hCe
  clear hCe
  have hwB : ∀ W, C W → Below w.heap.size w W := fun W hW => by rw [HC.out] at hW; exact below_step (below_alloc (Below.refl _ _) _) hW
  have q0 : ∀ W, C W → W.cell? ⟨gp, 0, none⟩ = some (.pointer (some ⟨b, 0, none⟩)) := fun W hW => blk_cell (HE.out.below (hwB W hW)).ptr 0
  have q1 : ∀ W, C W → W.cell? ⟨gs, 0, none⟩ = some (.func (.func 46) #[] #[.pointer (some ⟨g, 0, none⟩)]) := fun W hW => blk_cell (HE.out.below (hwB W hW)).fn 0
  have q2 : ∀ W, C W → W.cell? ⟨w.heap.size, 0, none⟩ = some (.string x.f0) := fun W hW => by rw [HC.out] at hW; exact blk_cell (blk_below (blk_new w _) hW) 0
  have q3 : ∀ W, C W → W.cell? ⟨w.heap.size, 1, none⟩ = some (.int .i64 x.f1) := fun W hW => by rw [HC.out] at hW; exact blk_cell (blk_below (blk_new w _) hW) 1
  have hc : ∀ W, C W → Calls Tryd.prog 46 #[.int .i64 x.f1, .pointer (some ⟨g, 0, none⟩)] W fun e w' => e = .returned (.string sn) ∧ C w' := fun W hW => by
    have hW2 := hwB W hW
    rw [HSN.out]
    exact (sort_walk b g gp gs so w0 W x.f1 (HE.out.below hW2) (below_step HB.out hW2) hi1 hi2).mono fun e w' h => ⟨h.1, h.2 ▸ hW⟩
  refine wp_quiet_tail C 11 (by kernel_rfl) (by kernel_rfl) (by rw [HC.out]; exact below_drew1 (Below.refl _ _)) ?_
  simp only [List.take_succ_cons, List.take_zero, List.drop_succ_cons, List.drop_zero]
  iterate 9
    refine q_ex rfl ?_
    apply Exists.intro
    refine ⟨fun W hW => ?_, ?_⟩
    · have p0 := q0 W hW
      have p1 := q1 W hW
      have p2 := q2 W hW
      have p3 := q3 W hW
      go_simp
      try rfl
    simp only [Act.put, List.setIfInBounds_toArray, List.set_cons_zero, List.set_cons_succ]
  refine q_call rfl (fun W hW => by go_simp) hc ?_
  simp only [Act.put, List.setIfInBounds_toArray, List.set_cons_zero, List.set_cons_succ]
  refine q_ex rfl ?_
  apply Exists.intro
  refine ⟨fun W hW => ?_, ?_⟩
  · have hh := HS1.out
    have hs2' : ¬ 9223372036854775807 < (x.f0 ++ (⟨#[58, 32]⟩ : ByteArray)).size + sn.size := by rw [hh]; exact hs2
    go_simp
    try rfl
  simp only [Act.put, List.setIfInBounds_toArray, List.set_cons_zero, List.set_cons_succ]
  intro W hW
  have HW := Aside0.mk (hwB W hW)
  clear hW q0 q1 q2 q3 hc hwB HC
  go_wp2_with fail
  refine (writeString_walk B b m2 m1 bs _ W (HP.out.below HW.out) ?l1 (by have := HW.out.size; omega)).mono ?_
  case l1 => have := HL.out; have h2 := HS1.out; rw [ByteArray.size_append, h2]; unfold most at this; omega
  rintro e w1 ⟨rfl, hw1⟩
  have HW1 := Aside0.mk (Wrote.after HW.out (by omega) hw1)
  clear hw1
  go_wp2_with fail
  go_end0
  exact ⟨rfl, HW1.out⟩

/-- Texts with a separator between them. -/
def sepT {α : Type} (f : α → List UInt8) (s : List UInt8) : List α → Bool → List UInt8
  | [], _ => []
  | x :: r, first => (if first then [] else s) ++ f x ++ sepT f s r false
theorem sepT_step {α : Type} (f : α → List UInt8) (s : List UInt8) (z : α) (xs : List α) (k : Nat) (pre : List UInt8) (h : sepT f s xs true = pre ++ sepT f s (xs.drop k) (decide (k = 0))) (hk : k < xs.length) :
    sepT f s xs true = ((pre ++ (if k = 0 then [] else s)) ++ f (xs.getD k z)) ++ sepT f s (xs.drop (k + 1)) (decide (k + 1 = 0)) := by
  rw [h, drop_get z xs k hk, sepT]
  by_cases hk0 : k = 0 <;> simp [hk0]

set_option maxHeartbeats 2000000 in
set_option maxRecDepth 100000 in
theorem listS_walk (xs : List Int) (hI : ∀ x ∈ xs, -9223372036854775808 ≤ x ∧ x ≤ 9223372036854775807) (b g gp gs : Nat) (so : List S42) (w0 w : World) (B m2 m1 : Nat) (bs : List UInt8) (A : Option Addr) (c : Nat) (hx : (Kd.int .i64).C w A xs.length xs) (hxw : w.heap.size ≤ w.heap.size) (h : Env b g gp gs so w0 w) (hb : Below w0.heap.size w0 w) (hB0 : w0.heap.size ≤ B)
    (hx0 : (Kd.int .i64).C w0 A xs.length xs) (hP : IsP B b m2 m1 bs w) (hlen : bs.length + (sepT (fun i => (sortName so i).data.toList) [32, 45, 62, 32] xs true).length ≤ most) :
    Calls Tryd.prog 48 #[.pointer (some ⟨b, 0, none⟩), .slice A xs.length c, .string ⟨#[32, 45, 62, 32]⟩, .func (.func 49) #[] #[.pointer (some ⟨gp, 0, none⟩), .pointer (some ⟨gs, 0, none⟩)]] w fun e w' => e = .returned (.tuple #[]) ∧ Wrote B b m2 m1 (bs ++ sepT (fun i => (sortName so i).data.toList) [32, 45, 62, 32] xs true) w w' := by
  have HI := Aside0.mk hI
  have HX := Aside0.mk hx0
  have HP := Aside0.mk hP
  have HB := Aside0.mk hb
  have HE := Aside0.mk h
  have HL := Aside0.mk hlen
  have hlt := hP.lt
  have hlow := hP.low
  have hmx := row_len hx
  clear hI hx hP hb h hlen hx0 hxw
  go_enter Tryd.func48, Tryd.ntmps48
  go_wp2_with fail
  go_loopw [12] (fun v wr => ∃ k : Nat, k ≤ xs.length ∧ v = .int .i64 k ∧ Aside0 (∃ pre, sepT (fun i => (sortName so i).data.toList) [32, 45, 62, 32] xs true = pre ++ sepT (fun i => (sortName so i).data.toList) [32, 45, 62, 32] (xs.drop k) (decide (k = 0)) ∧ Wrote B b m2 m1 (bs ++ pre) w wr)) (fun v _ => xs.length - (intOf v).toNat)
  case atStart => exact ⟨0, Nat.zero_le _, rfl, ⟨[], by simp, by simpa using ⟨HP.out, Below.refl _ _, Lib.OthersKept.refl _ _ _⟩⟩⟩
  case round =>
    obtain ⟨k, hk, rfl, ⟨pre, hpre, hwr⟩⟩ := hrel
    have HPRE := Aside0.mk hpre
    have HWR := Aside0.mk hwr
    clear hpre hwr
    by_cases hlt2 : k < xs.length
    · have hbw := HWR.out.from_ HB.out hB0
      obtain ⟨ad, e1, g0⟩ := int_at HX.out k hlt2
      cases e1
      replace g0 := pw_cell_below hbw g0
      have HBW := Aside0.mk hbw
      have HM := Aside0.mk (HI.out _ (mem_get 0 xs k hlt2))
      have hs1 := sepT_step _ _ 0 xs k pre HPRE.out hlt2
      have hl3 : bs.length + (pre.length + (if k = 0 then ([] : List UInt8) else [32, 45, 62, 32]).length + (sortName so (xs.getD k 0)).size) ≤ most := by
        have := HL.out
        rw [hs1] at this
        simp only [List.length_append, data_length] at this ⊢
        omega
      have HS1 := Aside0.mk hs1
      have HL3 := Aside0.mk hl3
      have HENV := Aside0.mk (HE.out.wrote HWR.out)
      clear hs1 hl3 hbw
      generalize xs.getD k 0 = u at *
      have hbsz : b < wr.heap.size := by have := HWR.out.size; omega
      by_cases hk0 : k = 0
      · have hs : (if k = 0 then ([] : List UInt8) else [32, 45, 62, 32]) = [] := by simp [hk0]
        rw [hs] at HS1 HL3
        have hkb : decide (0 < k) = false := by simp [hk0]
        clear hk0 hs
        go_wp2_with fail
        refine (fsort_walk b g gp gs so w0 wr u B m2 m1 (bs ++ pre) HENV.out HBW.out HM.out.1 HM.out.2 HWR.out.1 ?s3).mono ?_
        case s3 => have := HL3.out; rw [List.length_append]; simp at this; omega
        rintro e w2 ⟨rfl, hw2⟩
        have HW2 := Aside0.mk (HWR.out.trans hw2)
        clear hw2 g0
        go_wp2
        go_roundw
        case rel => exact ⟨k + 1, by omega, by go_num, ⟨⟨_, HS1.out, by simpa using HW2.out⟩⟩⟩
        case measure => simp [intOf]; omega
      · have hs : (if k = 0 then ([] : List UInt8) else [32, 45, 62, 32]) = [32, 45, 62, 32] := by simp [hk0]
        rw [hs] at HS1 HL3
        have hkb : decide (0 < k) = true := by simp; omega
        clear hk0 hs
        go_wp2_with fail
        refine (writeString_walk B b m2 m1 (bs ++ pre) _ _ HWR.out.1 ?l1 ?l2).mono ?_
        case l1 => have := HL3.out; rw [List.length_append]; unfold most at this; simp only [List.length_cons, List.length_nil] at this; show _ + 4 ≤ _; omega
        case l2 => have := HWR.out.1.low; omega
        rintro e w1 ⟨rfl, hw1⟩
        have HW1 := Aside0.mk (HWR.out.trans hw1)
        have HBW1 := Aside0.mk (HW1.out.from_ HB.out hB0)
        have HENV1 := Aside0.mk (HE.out.wrote HW1.out)
        clear hw1 g0
        go_wp2_with fail
        refine (fsort_walk b g gp gs so w0 w1 u B m2 m1 _ HENV1.out HBW1.out HM.out.1 HM.out.2 HW1.out.1 ?u3).mono ?_
        case u3 => have := HL3.out; simp only [List.length_append, List.length_cons, List.length_nil] at this ⊢; simp; omega
        rintro e w2 ⟨rfl, hw2⟩
        have HW2 := Aside0.mk (HW1.out.trans hw2)
        clear hw2
        go_wp2
        go_roundw
        case rel => exact ⟨k + 1, by omega, by go_num, ⟨⟨_, HS1.out, by simpa using HW2.out⟩⟩⟩
        case measure => simp [intOf]; omega
    · have hke : k = xs.length := by omega
      have HEE : Aside0 (sepT (fun i => (sortName so i).data.toList) [32, 45, 62, 32] xs true = pre) := ⟨by have := HPRE.out; rw [this, List.drop_of_length_le (by omega)]; simp [sepT]⟩
      clear hke
      go_wp2
      go_end0
      exact ⟨rfl, by rw [HEE.out]; exact HWR.out⟩
set_option maxHeartbeats 2000000 in
set_option maxRecDepth 100000 in
theorem listP_walk (xs : List S47) (hI : ∀ x ∈ xs, -9223372036854775808 ≤ x.f1 ∧ x.f1 ≤ 9223372036854775807) (b g gp gs : Nat) (so : List S42) (w0 w : World) (B m2 m1 : Nat) (bs : List UInt8) (A : Option Addr) (c : Nat) (hx : k47.C w A xs.length xs) (hxw : w.heap.size ≤ w.heap.size) (h : Env b g gp gs so w0 w) (hb : Below w0.heap.size w0 w) (hB0 : w0.heap.size ≤ B)
    (hx0 : k47.C w0 A xs.length xs) (hP : IsP B b m2 m1 bs w) (hlen : bs.length + (sepT (parT so) [44, 32] xs true).length ≤ most) :
    Calls Tryd.prog 50 #[.pointer (some ⟨b, 0, none⟩), .slice A xs.length c, .string ⟨#[44, 32]⟩, .func (.func 51) #[] #[.pointer (some ⟨gp, 0, none⟩), .pointer (some ⟨gs, 0, none⟩)]] w fun e w' => e = .returned (.tuple #[]) ∧ Wrote B b m2 m1 (bs ++ sepT (parT so) [44, 32] xs true) w w' := by
  have HI := Aside0.mk hI
  have HX := Aside0.mk hx0
  have HP := Aside0.mk hP
  have HB := Aside0.mk hb
  have HE := Aside0.mk h
  have HL := Aside0.mk hlen
  have hlt := hP.lt
  have hlow := hP.low
  have hmx := row_len hx
  have hu47 := Tryd.underlying47
  clear hI hx hP hb h hlen hx0 hxw
  go_enter Tryd.func50, Tryd.ntmps50
  go_wp2_with fail
  go_loopw [12] (fun v wr => ∃ k : Nat, k ≤ xs.length ∧ v = .int .i64 k ∧ Aside0 (∃ pre, sepT (parT so) [44, 32] xs true = pre ++ sepT (parT so) [44, 32] (xs.drop k) (decide (k = 0)) ∧ Wrote B b m2 m1 (bs ++ pre) w wr)) (fun v _ => xs.length - (intOf v).toNat)
  case atStart => exact ⟨0, Nat.zero_le _, rfl, ⟨[], by simp, by simpa using ⟨HP.out, Below.refl _ _, Lib.OthersKept.refl _ _ _⟩⟩⟩
  case round =>
    obtain ⟨k, hk, rfl, ⟨pre, hpre, hwr⟩⟩ := hrel
    have HPRE := Aside0.mk hpre
    have HWR := Aside0.mk hwr
    clear hpre hwr
    by_cases hlt2 : k < xs.length
    · have hbw := HWR.out.from_ HB.out hB0
      obtain ⟨ad, e1, g0, g1⟩ := at_T47 HX.out k (by omega) (by omega)
      cases e1
      simp only [Int.toNat_natCast] at g0 g1
      replace g0 := pw_cell_below hbw g0
      replace g1 := pw_cell_below hbw g1
      change _ = some (Value.string (xs.getD k z47).f0) at g0
      change _ = some (Value.int .i64 (xs.getD k z47).f1) at g1
      have HBW := Aside0.mk hbw
      have HM := Aside0.mk (HI.out _ (mem_get z47 xs k hlt2))
      have hs1 := sepT_step _ _ z47 xs k pre HPRE.out hlt2
      have hl3 : bs.length + (pre.length + (if k = 0 then ([] : List UInt8) else [44, 32]).length + (parT so (xs.getD k z47)).length) ≤ most := by
        have := HL.out
        rw [hs1] at this
        simp only [List.length_append, data_length] at this ⊢
        omega
      have HS1 := Aside0.mk hs1
      have HL3 := Aside0.mk hl3
      have HENV := Aside0.mk (HE.out.wrote HWR.out)
      clear hs1 hl3 hbw
      generalize xs.getD k z47 = u at *
      have hbsz : b < wr.heap.size := by have := HWR.out.size; omega
      by_cases hk0 : k = 0
      · have hs : (if k = 0 then ([] : List UInt8) else [44, 32]) = [] := by simp [hk0]
        rw [hs] at HS1 HL3
        have hkb : decide (0 < k) = false := by simp [hk0]
        clear hk0 hs
        go_wp2_with fail
        have hba : Below wr.heap.size wr (wr.alloc (.cells #[.string u.f0, .int .i64 u.f1] 47)) := below_alloc (Below.refl _ _) _
        have HBA := Aside0.mk hba
        refine (fpar_walk b g gp gs so w0 _ u B m2 m1 (bs ++ pre) (HENV.out.below hba) (below_step HBW.out hba) HM.out.1 HM.out.2 (HWR.out.1.below hba) ?s3).mono ?_
        case s3 => have := HL3.out; rw [List.length_append]; simp at this; omega
        rintro e w2 ⟨rfl, hw2⟩
        have HW2 := Aside0.mk (HWR.out.trans (Wrote.after HBA.out (by omega) hw2))
        clear hw2 g0 g1 hba
        go_wp2
        go_roundw
        case rel => exact ⟨k + 1, by omega, by go_num, ⟨⟨_, HS1.out, by simpa using HW2.out⟩⟩⟩
        case measure => simp [intOf]; omega
      · have hs : (if k = 0 then ([] : List UInt8) else [44, 32]) = [44, 32] := by simp [hk0]
        rw [hs] at HS1 HL3
        have hkb : decide (0 < k) = true := by simp; omega
        clear hk0 hs
        go_wp2_with fail
        have hbk := blk_new wr (.cells #[.string u.f0, .int .i64 u.f1] 47)
        have hba : Below wr.heap.size wr (wr.alloc (.cells #[.string u.f0, .int .i64 u.f1] 47)) := below_alloc (Below.refl _ _) _
        have HBA := Aside0.mk hba
        refine (writeString_walk B b m2 m1 (bs ++ pre) _ _ (HWR.out.1.below hba) ?l1 ?l2).mono ?_
        case l1 => have := HL3.out; rw [List.length_append]; unfold most at this; simp only [List.length_cons, List.length_nil] at this; show _ + 2 ≤ _; omega
        case l2 => have := HWR.out.1.low; have := HBA.out.size; omega
        rintro e w1 ⟨rfl, hw1⟩
        have hbk1 := hw1.blk hbk (by omega) (by decide)
        have HW1 := Aside0.mk (HWR.out.trans (Wrote.after HBA.out (by omega) hw1))
        have HBW1 := Aside0.mk (HW1.out.from_ HB.out hB0)
        have HENV1 := Aside0.mk (HE.out.wrote HW1.out)
        clear hw1 g0 g1 hba hbk
        have g0 := blk_cell hbk1 0
        have g1 := blk_cell hbk1 1
        go_wp2_with fail
        refine (fpar_walk b g gp gs so w0 w1 u B m2 m1 _ HENV1.out HBW1.out HM.out.1 HM.out.2 HW1.out.1 ?u3).mono ?_
        case u3 => have := HL3.out; simp only [List.length_append, List.length_cons, List.length_nil] at this ⊢; simp; omega
        rintro e w2 ⟨rfl, hw2⟩
        have HW2 := Aside0.mk (HW1.out.trans hw2)
        clear hw2
        go_wp2
        go_roundw
        case rel => exact ⟨k + 1, by omega, by go_num, ⟨⟨_, HS1.out, by simpa using HW2.out⟩⟩⟩
        case measure => simp [intOf]; omega
    · have hke : k = xs.length := by omega
      have HEE : Aside0 (sepT (parT so) [44, 32] xs true = pre) := ⟨by have := HPRE.out; rw [this, List.drop_of_length_le (by omega)]; simp [sepT]⟩
      clear hke
      go_wp2
      go_end0
      exact ⟨rfl, by rw [HEE.out]; exact HWR.out⟩
end Go.Proofs.YtgdiodhaihmnbaaDoor.Own
namespace Go.Proofs.YtgdiodhaihmnbaaDoor.Own
open Go.RowKit Go.Proofs.YtgdiodhaihmnbaaDoorW.PrintWords Go.Proofs.YtgdiodhaihmnbaaDoorW.PrintLast Go.Proofs.YtgdiodhaihmnbaaDoorW.PrintMore Go.Proofs.YtgdiodhaihmnbaaDoor.PPrinterMatchesReference

/-- The text of a sort. -/
def sortT (s : S42) : List UInt8 := [115, 111, 114, 116, 32] ++ s.f0.data.toList ++ (if s.f1 then [32, 111, 114, 100, 101, 114, 101, 100] else []) ++ [59, 10]
/-- The text of a field. -/
def fldT (so : List S42) (f : S45) : List UInt8 := (if f.f2 then [118, 97, 114, 32] else []) ++ ([102, 105, 101, 108, 100, 32] ++ f.f0.data.toList ++ [58, 32]) ++ sepT (fun i => (sortName so i).data.toList) [32, 45, 62, 32] f.f1 true ++ [59, 10]
/-- The text of a predicate. -/
def predT (so : List S42) (p : S50) : List UInt8 := ([112, 114, 101, 100, 32] ++ p.f0.data.toList ++ [91]) ++ sepT (parT so) [44, 32] p.f1 true ++ ([93, 32, 123, 32] ++ txt p.f2 true ++ [32, 125, 10])
/-- The text of a fact. -/
def factT (f : S52) : List UInt8 := [102, 97, 99, 116, 32] ++ f.f0.data.toList ++ [32, 123, 32] ++ txt f.f1 true ++ [32, 125, 10]
def catT {α : Type} (f : α → List UInt8) : List α → List UInt8
  | [] => []
  | x :: r => f x ++ catT f r
/-- The text of a specification. -/
def specT (x : SpD) : List UInt8 := catT sortT x.so ++ catT (fldT x.so) x.fi ++ catT (predT x.so) x.pr ++ catT factT x.fa
theorem catT_step {α : Type} (f : α → List UInt8) (z : α) (xs : List α) (k : Nat) (pre : List UInt8) (h : catT f xs = pre ++ catT f (xs.drop k)) (hk : k < xs.length) :
    catT f xs = (pre ++ f (xs.getD k z)) ++ catT f (xs.drop (k + 1)) := by
  rw [h, drop_get z xs k hk, catT]; simp
/-- The numbers of a specification are machine numbers, its bodies have a text. -/
structure SpOK (x : SpD) : Prop where
  fi : ∀ f ∈ x.fi, ∀ i ∈ f.f1, -9223372036854775808 ≤ i ∧ i ≤ 9223372036854775807
  pr : ∀ p ∈ x.pr, ∀ q ∈ p.f1, -9223372036854775808 ≤ q.f1 ∧ q.f1 ≤ 9223372036854775807
  pb : ∀ p ∈ x.pr, numOK p.f2 ∧ txt p.f2 true ≠ []
  fb : ∀ p ∈ x.fa, numOK p.f1 ∧ txt p.f1 true ≠ []

/-- What stands in memory while Spec writes. -/
structure Sp (x : SpD) (A0 A1 A2 A3 : Option Addr) (c0 c1 c2 c3 : Nat) (w0 : World) (B b m2 m1 g gp gs : Nat) (bs : List UInt8) (w : World) : Prop where
  blk : w.heap[g]? = some (.cells #[.slice A0 x.so.length c0, .slice A1 x.fi.length c1, .slice A2 x.pr.length c2, .slice A3 x.fa.length c3] 30 (0, 0))
  ptr : w.heap[gp]? = some (.cells #[.pointer (some ⟨b, 0, none⟩)] 65 (0, 0))
  fn : w.heap[gs]? = some (.cells #[.func (.func 46) #[] #[.pointer (some ⟨g, 0, none⟩)]] 80 (0, 0))
  gb : g ≠ b ∧ gp ≠ b ∧ gs ≠ b
  own : IsP B b m2 m1 bs w
  nil : bs = [] → ∃ p, IsPa B b m2 m1 p (.slice none 0 0) [] w
  low : Below w0.heap.size w0 w
  base : w0.heap.size ≤ B
theorem app_ne {a b : List UInt8} (h : 0 < b.length) : a ++ b ≠ [] := fun e => by have := congrArg List.length e; simp at this; rw [this.2] at h; cases h
section
variable {x : SpD} {A0 A1 A2 A3 : Option Addr} {c0 c1 c2 c3 : Nat} {w0 w w1 w2 : World} {B b m2 m1 g gp gs : Nat} {bs bs' : List UInt8}
theorem Sp.env (h : Sp x A0 A1 A2 A3 c0 c1 c2 c3 w0 B b m2 m1 g gp gs bs w) (hx : k42.C w0 A0 x.so.length x.so) : Env b g gp gs x.so w0 w := ⟨⟨_, _, _, _, _, h.blk, hx⟩, h.ptr, h.fn, h.gb⟩
theorem Sp.wrote (h : Sp x A0 A1 A2 A3 c0 c1 c2 c3 w0 B b m2 m1 g gp gs bs w) (k : Wrote B b m2 m1 bs' w w1) (hb : bs' ≠ []) : Sp x A0 A1 A2 A3 c0 c1 c2 c3 w0 B b m2 m1 g gp gs bs' w1 :=
  ⟨k.blk h.blk h.gb.1 (by decide), k.blk h.ptr h.gb.2.1 (by decide), k.blk h.fn h.gb.2.2 (by decide), h.gb, k.1, fun e => absurd e hb, k.from_ h.low h.base, h.base⟩
theorem Sp.sz (h : Sp x A0 A1 A2 A3 c0 c1 c2 c3 w0 B b m2 m1 g gp gs bs w) : B ≤ w.heap.size := by have := h.own.low; have := h.own.lt; omega
theorem Sp.below (h : Sp x A0 A1 A2 A3 c0 c1 c2 c3 w0 B b m2 m1 g gp gs bs w) (k : Below w.heap.size w w1) : Sp x A0 A1 A2 A3 c0 c1 c2 c3 w0 B b m2 m1 g gp gs bs w1 :=
  ⟨blk_below h.blk k, blk_below h.ptr k, blk_below h.fn k, h.gb, h.own.below k, fun e => let ⟨p, q⟩ := h.nil e; ⟨p, q.below k⟩, below_step h.low k, h.base⟩
end

set_option maxHeartbeats 4000000 in
set_option maxRecDepth 100000 in
theorem spec_walk (x : SpD) (hn : SpOK x) (w : World) (cs : List Value) (hx : SpK w x cs) (ht : Tab w) (hlen : (specT x).length ≤ most) :
    Calls Tryd.prog 16 #[.agg cs.toArray] w fun e w' => e = .returned (.string ⟨(specT x).toArray⟩) ∧ Below w.heap.size w w' := by
  obtain ⟨A0, A1, A2, A3, c0, c1, c2, c3, rfl, x0, x1, x2, x3⟩ := hx
  have X0 := Aside0.mk x0
  have X1 := Aside0.mk x1
  have X2 := Aside0.mk x2
  have X3 := Aside0.mk x3
  have HN := Aside0.mk hn
  have HT := Aside0.mk ht
  have HL := Aside0.mk hlen
  have hm0 := row_len x0
  have hm1 := row_len x1
  have hm2 := row_len x2
  have hm3 := row_len x3
  have hu30 := Tryd.underlying30
  have hu42 := Tryd.underlying42
  have hu45 := Tryd.underlying45
  have hu50 := Tryd.underlying50
  have hu52 := Tryd.underlying52
  have hu24 := Tryd.underlying24
  clear x0 x1 x2 x3 hn ht hlen
  go_enter Tryd.func16, Tryd.ntmps16
  go_wp2_with fail
  have hb0 : Below w.heap.size w (w.alloc (.cells #[.slice A0 x.so.length c0, .slice A1 x.fi.length c1, .slice A2 x.pr.length c2, .slice A3 x.fa.length c3] 30)) := below_alloc (Below.refl _ _) _
  have hbk0 := blk_new w (.cells #[.slice A0 x.so.length c0, .slice A1 x.fi.length c1, .slice A2 x.pr.length c2, .slice A3 x.fa.length c3] 30)
  refine (newp_walk _).mono ?_
  rintro e w1 ⟨b, m2, m1, rfl, hP, hb1⟩
  have hbk1 := blk_below hbk0 hb1
  have hlt := hP.lt
  have hlow := hP.low
  have HSP : Aside0 (Sp x A0 A1 A2 A3 c0 c1 c2 c3 w w.heap.size b m2 m1 w.heap.size w1.heap.size (w1.heap.size + 1) [] ((w1.alloc (.cells #[.pointer (some ⟨b, 0, none⟩)] 65)).alloc (.cells #[.func (.func 46) #[] #[.pointer (some ⟨w.heap.size, 0, none⟩)]] 80))) := ⟨by
    have hl : w.heap.size < b := by simp at hlow; omega
    have hba : Below w1.heap.size w1 ((w1.alloc (.cells #[.pointer (some ⟨b, 0, none⟩)] 65)).alloc (.cells #[.func (.func 46) #[] #[.pointer (some ⟨w.heap.size, 0, none⟩)]] 80)) := below_alloc (below_alloc (Below.refl _ _) _) _
    have hP2 : IsPa w.heap.size b m2 m1 none (.slice none 0 0) [] w1 := ⟨by omega, hP.blk, hP.self, World.ownsRow_nil _ _ _ _, hP.two, hP.one⟩
    exact ⟨blk_below hbk1 hba, blk_alloc (blk_new _ _) _, blk_two _ _ _, ⟨by omega, by omega, by omega⟩, ⟨_, _, hP2.below hba⟩, fun _ => ⟨_, hP2.below hba⟩, below_step (below_step hb0 hb1) hba, Nat.le_refl _⟩⟩
  clear hb1 hbk0 hb0 hP hbk1 hlow hlt
  have z0 := blk_cell HSP.out.blk 0
  go_wp2_with fail
  clear z0
  go_loopw [18] (fun v wr => ∃ k : Nat, k ≤ x.so.length ∧ v = .int .i64 k ∧ Aside0 (∃ pre, catT sortT x.so = pre ++ catT sortT (x.so.drop k) ∧ Sp x A0 A1 A2 A3 c0 c1 c2 c3 w w.heap.size b m2 m1 w.heap.size w1.heap.size (w1.heap.size + 1) pre wr)) (fun v _ => x.so.length - (intOf v).toNat)
  case atStart => exact ⟨0, Nat.zero_le _, rfl, ⟨[], by simp, HSP.out⟩⟩
  case round =>
    clear HSP
    obtain ⟨k, hk, rfl, ⟨pre, hpre, hwr⟩⟩ := hrel
    have HPRE := Aside0.mk hpre
    have HSP := Aside0.mk hwr
    clear hpre hwr
    by_cases hlt2 : k < x.so.length
    · obtain ⟨ad, e1, g0, g1⟩ := at_T42 X0.out k (by omega) (by omega)
      cases e1
      simp only [Int.toNat_natCast] at g0 g1
      replace g0 := pw_cell_below HSP.out.low g0
      replace g1 := pw_cell_below HSP.out.low g1
      change _ = some (Value.string (x.so.getD k z42).f0) at g0
      change _ = some (Value.bool (x.so.getD k z42).f1) at g1
      have hs1 := catT_step _ z42 x.so k pre HPRE.out hlt2
      have hl3 : pre.length + (sortT (x.so.getD k z42)).length ≤ most := by
        have := HL.out
        unfold specT at this
        rw [hs1] at this
        simp only [List.length_append] at this ⊢
        omega
      generalize x.so.getD k z42 = u at *
      have hl4 : pre.length + (5 + u.f0.size + (if u.f1 then [32, 111, 114, 100, 101, 114, 101, 100] else ([] : List UInt8)).length + 2) ≤ most := by
        unfold sortT at hl3
        simp only [List.length_append, data_length, List.length_cons, List.length_nil] at hl3 ⊢; omega
      have HS1 := Aside0.mk hs1
      have HL3 := Aside0.mk hl4
      have hz1 : ¬ 9223372036854775807 < 5 + u.f0.size := by unfold most at hl4; omega
      clear hs1 hl3 hl4
      go_wp2_with fail
      have hbsz := HSP.out.own.lt
      have HSPa := Aside0.mk (HSP.out.below (below_alloc (Below.refl _ _) (.cells #[.string u.f0, .bool u.f1] 42)))
      have hbk := blk_new wr (.cells #[.string u.f0, .bool u.f1] 42)
      clear g0 g1 HSP
      obtain ⟨C, hCe⟩ : ∃ C : World → Prop, C = fun W => Below (wr.alloc (.cells #[.string u.f0, .bool u.f1] 42)).heap.size (wr.alloc (.cells #[.string u.f0, .bool u.f1] 42)) W := ⟨_, rfl⟩
      have HC := Aside0.mk hCe
      clear hCe
      have q0 : ∀ W, C W → W.cell? ⟨w1.heap.size, 0, none⟩ = some (.pointer (some ⟨b, 0, none⟩)) := fun W hW => by rw [HC.out] at hW; exact blk_cell (HSPa.out.below hW).ptr 0
      have r0 : ∀ W, C W → W.cell? ⟨wr.heap.size, 0, none⟩ = some (.string u.f0) := fun W hW => by rw [HC.out] at hW; exact blk_cell (blk_below hbk hW) 0
      refine wp_quiet_tail C 6 (by kernel_rfl) (by kernel_rfl) (by rw [HC.out]; exact below_drew1 (Below.refl _ _)) ?_
      simp only [List.take_succ_cons, List.take_zero, List.drop_succ_cons, List.drop_zero]
      iterate 6
        refine q_ex rfl ?_
        apply Exists.intro
        refine ⟨fun W hW => ?_, ?_⟩
        · have p0 := q0 W hW
          have s0 := r0 W hW
          go_simp
          try rfl
        simp only [Act.put, List.setIfInBounds_toArray, List.set_cons_zero, List.set_cons_succ]
      intro W hW
      have HW := Aside0.mk (show Below (wr.alloc (.cells #[.string u.f0, .bool u.f1] 42)).heap.size (wr.alloc (.cells #[.string u.f0, .bool u.f1] 42)) W by rw [HC.out] at hW; exact hW)
      have hbkW := blk_below hbk HW.out
      have HSPW := Aside0.mk (HSPa.out.below HW.out)
      clear q0 r0 hW HC hbk
      go_wp2_with fail
      refine (writeString_walk _ b m2 m1 _ _ W HSPW.out.own ?l1 HSPW.out.sz).mono ?_
      case l1 => have hl := HL3.out; rw [ByteArray.size_append]; unfold most at hl; show _ + (5 + _) ≤ _; omega
      rintro e w2 ⟨rfl, hw⟩
      have hbkw2 := hw.blk hbkW (by omega) (by decide)
      have HSPw2 := Aside0.mk (HSPW.out.wrote hw (app_ne (by rw [data_length, ByteArray.size_append]; show 0 < 5 + _; omega)))
      clear hw hbkW HSPW
      have zp := blk_cell HSPw2.out.ptr 0
      have ze := blk_cell hbkw2 1
      cases hf : u.f1
      · rw [hf] at ze HL3 hbkw2
        go_wp2_with fail
        refine (writeString_walk _ b m2 m1 _ _ w2 HSPw2.out.own ?l2 HSPw2.out.sz).mono ?_
        case l2 => have hl := HL3.out; rw [List.length_append, data_length, ByteArray.size_append]; unfold most at hl; show _ + (5 + _) + 2 ≤ _; omega
        rintro e w4 ⟨rfl, hw⟩
        have hbkw4 := hw.blk hbkw2 (by omega) (by decide)
        have HSPw4 := Aside0.mk (HSPw2.out.wrote hw (app_ne (by decide)))
        clear hw hbkw2 HSPw2
        clear zp ze hbkw4
        go_wp2
        go_roundw
        case rel => exact ⟨k + 1, by omega, by go_num, ⟨⟨_, HS1.out, by have := HSPw4.out; simp [ByteArray.data_append, sortT, hf] at this ⊢; exact this⟩⟩⟩
        case measure => simp [intOf]; omega
      · rw [hf] at ze HL3 hbkw2
        go_wp2_with fail
        refine (writeString_walk _ b m2 m1 _ _ w2 HSPw2.out.own ?l3 HSPw2.out.sz).mono ?_
        case l3 => have hl := HL3.out; rw [List.length_append, data_length, ByteArray.size_append]; unfold most at hl; simp only [if_true, List.length_cons, List.length_nil] at hl; show _ + (5 + _) + 8 ≤ _; omega
        rintro e w3 ⟨rfl, hw⟩
        have hbkw3 := hw.blk hbkw2 (by omega) (by decide)
        have HSPw3 := Aside0.mk (HSPw2.out.wrote hw (app_ne (by decide)))
        clear hw hbkw2 HSPw2
        clear zp ze
        have zp := blk_cell HSPw3.out.ptr 0
        go_wp2_with fail
        refine (writeString_walk _ b m2 m1 _ _ w3 HSPw3.out.own ?l4 HSPw3.out.sz).mono ?_
        case l4 => have hl := HL3.out; rw [List.length_append, List.length_append, data_length, ByteArray.size_append]; unfold most at hl; simp only [if_true, List.length_cons, List.length_nil] at hl; show _ + (5 + _) + 8 + 2 ≤ _; omega
        rintro e w4 ⟨rfl, hw⟩
        have hbkw4 := hw.blk hbkw3 (by omega) (by decide)
        have HSPw4 := Aside0.mk (HSPw3.out.wrote hw (app_ne (by decide)))
        clear hw hbkw3 HSPw3
        clear zp hbkw4
        go_wp2
        go_roundw
        case rel => exact ⟨k + 1, by omega, by go_num, ⟨⟨_, HS1.out, by have := HSPw4.out; simp [ByteArray.data_append, sortT, hf] at this ⊢; exact this⟩⟩⟩
        case measure => simp [intOf]; omega
    · have hke : k = x.so.length := by omega
      have HE : Aside0 (catT sortT x.so = pre) := ⟨by have := HPRE.out; rw [this, List.drop_of_length_le (by omega)]; simp [catT]⟩
      clear HPRE hke
      have z0 := blk_cell HSP.out.blk 1
      go_wp2_with fail
      clear z0
      have HSQ := HSP
      have HPE := HE
      clear HSP HE
      go_loopw [43] (fun v wr => ∃ k : Nat, k ≤ x.fi.length ∧ v = .int .i64 k ∧ Aside0 (∃ pre, catT (fldT x.so) x.fi = pre ++ catT (fldT x.so) (x.fi.drop k) ∧ Sp x A0 A1 A2 A3 c0 c1 c2 c3 w w.heap.size b m2 m1 w.heap.size w1.heap.size (w1.heap.size + 1) (catT sortT x.so ++ pre) wr)) (fun v _ => x.fi.length - (intOf v).toNat)
      case atStart => exact ⟨0, Nat.zero_le _, rfl, ⟨[], by simp, by rw [HPE.out]; simpa using HSQ.out⟩⟩
      case round =>
        clear HSQ HPE hlt2
        obtain ⟨k, hk, rfl, ⟨pre, hpre, hwr⟩⟩ := hrel
        have HPRE := Aside0.mk hpre
        have HSP := Aside0.mk hwr
        clear hpre hwr
        by_cases hlt2 : k < x.fi.length
        · obtain ⟨ad, A5, c5, e1, g0, g1, g2, _, gs⟩ := at_T45 X1.out k (by omega) (by omega)
          cases e1
          simp only [Int.toNat_natCast] at g0 g1 g2
          replace g0 := pw_cell_below HSP.out.low g0
          replace g1 := pw_cell_below HSP.out.low g1
          replace g2 := pw_cell_below HSP.out.low g2
          change _ = some (Value.string (x.fi.getD k z45).f0) at g0
          change _ = some (Value.slice A5 (x.fi.getD k z45).f1.length c5) at g1
          change _ = some (Value.bool (x.fi.getD k z45).f2) at g2
          change (Kd.int .i64).C w A5 (x.fi.getD k z45).f1.length (x.fi.getD k z45).f1 at gs
          have GS := Aside0.mk gs
          have HU := Aside0.mk (HN.out.fi _ (mem_get z45 x.fi k hlt2))
          have hs1 := catT_step _ z45 x.fi k pre HPRE.out hlt2
          have hl3 : (catT sortT x.so).length + (pre.length + (fldT x.so (x.fi.getD k z45)).length) ≤ most := by
            have := HL.out
            unfold specT at this
            rw [hs1] at this
            simp only [List.length_append] at this ⊢
            omega
          clear gs
          generalize x.fi.getD k z45 = u at *
          have hl4 : (catT sortT x.so ++ pre).length + ((if u.f2 then [118, 97, 114, 32] else ([] : List UInt8)).length + (6 + u.f0.size + 2) + (sepT (fun i => (sortName x.so i).data.toList) [32, 45, 62, 32] u.f1 true).length + 2) ≤ most := by
            unfold fldT at hl3
            simp only [List.length_append, data_length, List.length_cons, List.length_nil] at hl3 ⊢; omega
          have HS1 := Aside0.mk hs1
          have HL3 := Aside0.mk hl4
          have hz1 : ¬ 9223372036854775807 < 6 + u.f0.size := by unfold most at hl4; omega
          have hz2 : ¬ 9223372036854775807 < ((⟨#[102, 105, 101, 108, 100, 32]⟩ : ByteArray) ++ u.f0).size + 2 := by rw [ByteArray.size_append]; show ¬ _ < 6 + _ + 2; unfold most at hl4; omega
          have hz3 : ¬ 9223372036854775807 < 6 + u.f0.size + 2 := by unfold most at hl4; omega
          have HZ := Aside0.mk (show ((⟨#[102, 105, 101, 108, 100, 32]⟩ : ByteArray) ++ u.f0 ++ (⟨#[58, 32]⟩ : ByteArray)).size = 6 + u.f0.size + 2 by rw [ByteArray.size_append, ByteArray.size_append]; rfl)
          obtain ⟨bs, hbs⟩ : ∃ bs, bs = catT sortT x.so ++ pre := ⟨_, rfl⟩
          have HBS := Aside0.mk hbs
          rw [← hbs] at HSP HL3
          clear hs1 hl3 hl4 hbs
          have hbsz := HSP.out.own.lt
          cases hf : u.f2
          · rw [hf] at g2 HL3
            have HSPa := Aside0.mk (HSP.out.below (below_alloc (Below.refl _ _) (.cells #[.string u.f0, .slice A5 u.f1.length c5, .bool false] 45)))
            have hbk := blk_new wr (.cells #[.string u.f0, .slice A5 u.f1.length c5, .bool false] 45)
            clear HSP
            have zp := blk_cell HSPa.out.ptr 0
            go_wp2_with fail
            clear g0 g1 g2 zp
            obtain ⟨C, hCe⟩ : ∃ C : World → Prop, C = fun W => Below (wr.alloc (.cells #[.string u.f0, .slice A5 u.f1.length c5, .bool false] 45)).heap.size (wr.alloc (.cells #[.string u.f0, .slice A5 u.f1.length c5, .bool false] 45)) W := ⟨_, rfl⟩
            have HC := Aside0.mk hCe
            clear hCe
            have q0 : ∀ W, C W → W.cell? ⟨w1.heap.size, 0, none⟩ = some (.pointer (some ⟨b, 0, none⟩)) := fun W hW => by rw [HC.out] at hW; exact blk_cell (HSPa.out.below hW).ptr 0
            have r0 : ∀ W, C W → W.cell? ⟨wr.heap.size, 0, none⟩ = some (.string u.f0) := fun W hW => by rw [HC.out] at hW; exact blk_cell (blk_below hbk hW) 0
            refine wp_quiet_tail C 7 (by kernel_rfl) (by kernel_rfl) (by rw [HC.out]; exact below_drew1 (Below.refl _ _)) ?_
            simp only [List.take_succ_cons, List.take_zero, List.drop_succ_cons, List.drop_zero]
            iterate 7
              refine q_ex rfl ?_
              apply Exists.intro
              refine ⟨fun W hW => ?_, ?_⟩
              · have p0 := q0 W hW
                have s0 := r0 W hW
                go_simp
                try rfl
              simp only [Act.put, List.setIfInBounds_toArray, List.set_cons_zero, List.set_cons_succ]
            intro W hW
            have HW := Aside0.mk (show Below (wr.alloc (.cells #[.string u.f0, .slice A5 u.f1.length c5, .bool false] 45)).heap.size (wr.alloc (.cells #[.string u.f0, .slice A5 u.f1.length c5, .bool false] 45)) W by rw [HC.out] at hW; exact hW)
            have hbkW := blk_below hbk HW.out
            have HSPW := Aside0.mk (HSPa.out.below HW.out)
            clear q0 r0 hW HC hbk
            go_wp2_with fail
            refine (writeString_walk _ b m2 m1 _ _ W HSPW.out.own ?l104 HSPW.out.sz).mono ?_
            case l104 => have hl := HL3.out; have hz := HZ.out; rw [hz]; unfold most at hl; simp only [Bool.false_eq_true, if_false, if_true, List.length_cons, List.length_nil] at hl; omega
            rintro e w2 ⟨rfl, hw⟩
            have hbkw2 := hw.blk hbkW (by omega) (by decide)
            have HSPw2 := Aside0.mk (HSPW.out.wrote hw (app_ne (by have hz := HZ.out; rw [data_length, hz]; omega)))
            clear hw hbkW HSPW
            have zp := blk_cell HSPw2.out.ptr 0
            have ze := blk_cell hbkw2 1
            go_wp2_with fail
            refine (listS_walk u.f1 HU.out b w.heap.size w1.heap.size (w1.heap.size + 1) x.so w w2 w.heap.size m2 m1 _ A5 c5 (Kd.C_below GS.out HSPw2.out.low) (Nat.le_refl _) (HSPw2.out.env X0.out) HSPw2.out.low HSPw2.out.base GS.out HSPw2.out.own ?jfalse).mono ?_
            case jfalse => have hl := HL3.out; have hz := HZ.out; rw [List.length_append, data_length, hz]; simp only [Bool.false_eq_true, if_false, if_true, List.length_cons, List.length_nil] at hl; show _ + _ + _ ≤ _; omega
            rintro e w3 ⟨rfl, hw⟩
            have hbkw3 := hw.blk hbkw2 (by omega) (by decide)
            have HSPw3 := Aside0.mk (HSPw2.out.wrote hw (fun e => by have hz := HZ.out; have := congrArg List.length e; simp only [List.length_append, data_length, hz, List.length_nil] at this; omega))
            clear hw hbkw2 HSPw2 zp ze
            have zp := blk_cell HSPw3.out.ptr 0
            go_wp2_with fail
            refine (writeString_walk _ b m2 m1 _ _ w3 HSPw3.out.own ?l105 HSPw3.out.sz).mono ?_
            case l105 => have hl := HL3.out; have hz := HZ.out; rw [List.length_append, List.length_append, data_length, hz]; unfold most at hl; simp only [Bool.false_eq_true, if_false, if_true, List.length_cons, List.length_nil] at hl; show _ + _ + _ + 2 ≤ _; omega
            rintro e w4 ⟨rfl, hw⟩
            have hbkw4 := hw.blk hbkw3 (by omega) (by decide)
            have HSPw4 := Aside0.mk (HSPw3.out.wrote hw (app_ne (by decide)))
            clear hw hbkw3 HSPw3
            clear zp hbkw4
            go_wp2
            go_roundw
            case rel => exact ⟨k + 1, by omega, by go_num, ⟨⟨_, HS1.out, by have := HSPw4.out; rw [HBS.out] at this; simp [ByteArray.data_append, fldT, hf] at this ⊢; exact this⟩⟩⟩
            case measure => simp [intOf]; omega
          · rw [hf] at g2 HL3
            have HSPa := Aside0.mk (HSP.out.below (below_alloc (Below.refl _ _) (.cells #[.string u.f0, .slice A5 u.f1.length c5, .bool true] 45)))
            have hbk := blk_new wr (.cells #[.string u.f0, .slice A5 u.f1.length c5, .bool true] 45)
            clear HSP
            have zp := blk_cell HSPa.out.ptr 0
            go_wp2_with fail
            clear g0 g1 g2 zp
            have HSPv := HSPa
            have hbkv := hbk
            clear HSPa hbk
            refine (writeString_walk _ b m2 m1 bs _ _ HSPv.out.own ?l106 HSPv.out.sz).mono ?_
            case l106 => have hl := HL3.out; unfold most at hl; simp only [Bool.false_eq_true, if_false, if_true, List.length_cons, List.length_nil] at hl; show _ + 4 ≤ _; omega
            rintro e v1 ⟨rfl, hw⟩
            have hbkv1 := hw.blk hbkv (by omega) (by decide)
            have HSPv1 := Aside0.mk (HSPv.out.wrote hw (app_ne (by decide)))
            clear hw hbkv HSPv
            go_wp2_with fail
            obtain ⟨C, hCe⟩ : ∃ C : World → Prop, C = fun W => Below (v1).heap.size (v1) W := ⟨_, rfl⟩
            have HC := Aside0.mk hCe
            clear hCe
            have q0 : ∀ W, C W → W.cell? ⟨w1.heap.size, 0, none⟩ = some (.pointer (some ⟨b, 0, none⟩)) := fun W hW => by rw [HC.out] at hW; exact blk_cell (HSPv1.out.below hW).ptr 0
            have r0 : ∀ W, C W → W.cell? ⟨wr.heap.size, 0, none⟩ = some (.string u.f0) := fun W hW => by rw [HC.out] at hW; exact blk_cell (blk_below hbkv1 hW) 0
            refine wp_quiet_tail C 7 (by kernel_rfl) (by kernel_rfl) (by rw [HC.out]; exact below_drew1 (Below.refl _ _)) ?_
            simp only [List.take_succ_cons, List.take_zero, List.drop_succ_cons, List.drop_zero]
            iterate 7
              refine q_ex rfl ?_
              apply Exists.intro
              refine ⟨fun W hW => ?_, ?_⟩
              · have p0 := q0 W hW
                have s0 := r0 W hW
                go_simp
                try rfl
              simp only [Act.put, List.setIfInBounds_toArray, List.set_cons_zero, List.set_cons_succ]
            intro W hW
            have HW := Aside0.mk (show Below (v1).heap.size (v1) W by rw [HC.out] at hW; exact hW)
            have hbkW := blk_below hbkv1 HW.out
            have HSPW := Aside0.mk (HSPv1.out.below HW.out)
            clear q0 r0 hW HC hbkv1
            go_wp2_with fail
            refine (writeString_walk _ b m2 m1 _ _ W HSPW.out.own ?l107 HSPW.out.sz).mono ?_
            case l107 => have hl := HL3.out; have hz := HZ.out; rw [hz]; rw [List.length_append]; unfold most at hl; simp only [Bool.false_eq_true, if_false, if_true, List.length_cons, List.length_nil] at hl; show _ + 4 + _ ≤ _; omega
            rintro e w2 ⟨rfl, hw⟩
            have hbkw2 := hw.blk hbkW (by omega) (by decide)
            have HSPw2 := Aside0.mk (HSPW.out.wrote hw (app_ne (by have hz := HZ.out; rw [data_length, hz]; omega)))
            clear hw hbkW HSPW
            have zp := blk_cell HSPw2.out.ptr 0
            have ze := blk_cell hbkw2 1
            go_wp2_with fail
            refine (listS_walk u.f1 HU.out b w.heap.size w1.heap.size (w1.heap.size + 1) x.so w w2 w.heap.size m2 m1 _ A5 c5 (Kd.C_below GS.out HSPw2.out.low) (Nat.le_refl _) (HSPw2.out.env X0.out) HSPw2.out.low HSPw2.out.base GS.out HSPw2.out.own ?jtrue).mono ?_
            case jtrue => have hl := HL3.out; have hz := HZ.out; rw [List.length_append, List.length_append, data_length, hz]; simp only [Bool.false_eq_true, if_false, if_true, List.length_cons, List.length_nil] at hl; show _ + 4 + _ + _ ≤ _; omega
            rintro e w3 ⟨rfl, hw⟩
            have hbkw3 := hw.blk hbkw2 (by omega) (by decide)
            have HSPw3 := Aside0.mk (HSPw2.out.wrote hw (fun e => by have hz := HZ.out; have := congrArg List.length e; simp only [List.length_append, data_length, hz, List.length_nil] at this; omega))
            clear hw hbkw2 HSPw2 zp ze
            have zp := blk_cell HSPw3.out.ptr 0
            go_wp2_with fail
            refine (writeString_walk _ b m2 m1 _ _ w3 HSPw3.out.own ?l108 HSPw3.out.sz).mono ?_
            case l108 => have hl := HL3.out; have hz := HZ.out; rw [List.length_append, List.length_append, List.length_append, data_length, hz]; unfold most at hl; simp only [Bool.false_eq_true, if_false, if_true, List.length_cons, List.length_nil] at hl; show _ + 4 + _ + _ + 2 ≤ _; omega
            rintro e w4 ⟨rfl, hw⟩
            have hbkw4 := hw.blk hbkw3 (by omega) (by decide)
            have HSPw4 := Aside0.mk (HSPw3.out.wrote hw (app_ne (by decide)))
            clear hw hbkw3 HSPw3
            clear zp hbkw4
            go_wp2
            go_roundw
            case rel => exact ⟨k + 1, by omega, by go_num, ⟨⟨_, HS1.out, by have := HSPw4.out; rw [HBS.out] at this; simp [ByteArray.data_append, fldT, hf] at this ⊢; exact this⟩⟩⟩
            case measure => simp [intOf]; omega
        · have hke : k = x.fi.length := by omega
          have HE : Aside0 (catT (fldT x.so) x.fi = pre) := ⟨by have := HPRE.out; rw [this, List.drop_of_length_le (by omega)]; simp [catT]⟩
          clear HPRE hke
          have z0 := blk_cell HSP.out.blk 2
          go_wp2_with fail
          clear z0
          have HSQ := HSP
          have HPE := HE
          clear HSP HE
          go_loopw [74] (fun v wr => ∃ k : Nat, k ≤ x.pr.length ∧ v = .int .i64 k ∧ Aside0 (∃ pre, catT (predT x.so) x.pr = pre ++ catT (predT x.so) (x.pr.drop k) ∧ Sp x A0 A1 A2 A3 c0 c1 c2 c3 w w.heap.size b m2 m1 w.heap.size w1.heap.size (w1.heap.size + 1) (catT sortT x.so ++ catT (fldT x.so) x.fi ++ pre) wr)) (fun v _ => x.pr.length - (intOf v).toNat)
          case atStart => exact ⟨0, Nat.zero_le _, rfl, ⟨[], by simp, by rw [HPE.out]; simpa using HSQ.out⟩⟩
          case round =>
            clear HSQ HPE hlt2
            obtain ⟨k, hk, rfl, ⟨pre, hpre, hwr⟩⟩ := hrel
            have HPRE := Aside0.mk hpre
            have HSP := Aside0.mk hwr
            clear hpre hwr
            by_cases hlt2 : k < x.pr.length
            · obtain ⟨ad, A4, c4, A5, c5, e1, g0, g1, g2, g3, g4, g5, g6, _, gs, gl, gc⟩ := at_T50 X2.out k (by omega) (by omega)
              cases e1
              simp only [Int.toNat_natCast] at g0 g1 g2 g3 g4 g5 g6
              replace g0 := pw_cell_below HSP.out.low g0
              replace g1 := pw_cell_below HSP.out.low g1
              replace g2 := pw_cell_below HSP.out.low g2
              replace g3 := pw_cell_below HSP.out.low g3
              replace g4 := pw_cell_below HSP.out.low g4
              replace g5 := pw_cell_below HSP.out.low g5
              replace g6 := pw_cell_below HSP.out.low g6
              change _ = some (Value.string (x.pr.getD k z50).f0) at g0
              change _ = some (Value.slice A4 (x.pr.getD k z50).f1.length c4) at g1
              change _ = some (Value.int .i64 (x.pr.getD k z50).f2.f0) at g2
              change _ = some (Value.string (x.pr.getD k z50).f2.f1) at g3
              change _ = some (Value.int .i64 (x.pr.getD k z50).f2.f2) at g4
              change _ = some (Value.slice A5 (x.pr.getD k z50).f2.f3.length c5) at g5
              change _ = some (Value.int .i64 (x.pr.getD k z50).f2.f4) at g6
              change k47.C w A4 (x.pr.getD k z50).f1.length (x.pr.getD k z50).f1 at gs
              change (x.pr.getD k z50).f2.f3.length ≤ c5 at gl
              change k24.C w A5 (x.pr.getD k z50).f2.f3.length (x.pr.getD k z50).f2.f3 at gc
              have GS := Aside0.mk gs
              have GC := Aside0.mk gc
              have HP := Aside0.mk (HN.out.pr _ (mem_get z50 x.pr k hlt2))
              have HU := Aside0.mk (HN.out.pb _ (mem_get z50 x.pr k hlt2))
              have hs1 := catT_step _ z50 x.pr k pre HPRE.out hlt2
              have hl3 : (catT sortT x.so ++ catT (fldT x.so) x.fi).length + (pre.length + (predT x.so (x.pr.getD k z50)).length) ≤ most := by
                have := HL.out
                unfold specT at this
                rw [hs1] at this
                simp only [List.length_append] at this ⊢
                omega
              clear gs gc
              generalize x.pr.getD k z50 = u at *
              obtain ⟨tb, htb⟩ : ∃ tb : ByteArray, tb = ⟨(txt u.f2 true).toArray⟩ := ⟨_, rfl⟩
              have htz : tb.size = (txt u.f2 true).length := by rw [htb, toL_size]
              have HTB := Aside0.mk htb
              have hl4 : (catT sortT x.so ++ catT (fldT x.so) x.fi ++ pre).length + ((5 + u.f0.size + 1) + (sepT (parT x.so) [44, 32] u.f1 true).length + (4 + tb.size + 3)) ≤ most := by
                unfold predT at hl3
                simp only [List.length_append, data_length, List.length_cons, List.length_nil] at hl3 ⊢; omega
              have HLT := Aside0.mk (show (txt u.f2 true).length ≤ most by omega)
              have HS1 := Aside0.mk hs1
              have HL3 := Aside0.mk hl4
              have hz1 : ¬ 9223372036854775807 < 5 + u.f0.size := by unfold most at hl4; omega
              have hz2 : ¬ 9223372036854775807 < ((⟨#[112, 114, 101, 100, 32]⟩ : ByteArray) ++ u.f0).size + 1 := by rw [ByteArray.size_append]; show ¬ _ < 5 + _ + 1; unfold most at hl4; omega
              have hz3 : ¬ 9223372036854775807 < 5 + u.f0.size + 1 := by unfold most at hl4; omega
              have hz4 : ¬ 9223372036854775807 < 4 + tb.size := by unfold most at hl4; omega
              have hz5 : ¬ 9223372036854775807 < ((⟨#[93, 32, 123, 32]⟩ : ByteArray) ++ tb).size + 3 := by rw [ByteArray.size_append]; show ¬ _ < 4 + _ + 3; unfold most at hl4; omega
              have hz6 : ¬ 9223372036854775807 < 4 + tb.size + 3 := by unfold most at hl4; omega
              have HZ := Aside0.mk (show ((⟨#[112, 114, 101, 100, 32]⟩ : ByteArray) ++ u.f0 ++ (⟨#[91]⟩ : ByteArray)).size = 5 + u.f0.size + 1 by rw [ByteArray.size_append, ByteArray.size_append]; rfl)
              have HY := Aside0.mk (show ((⟨#[93, 32, 123, 32]⟩ : ByteArray) ++ tb ++ (⟨#[32, 125, 10]⟩ : ByteArray)).size = 4 + tb.size + 3 by rw [ByteArray.size_append, ByteArray.size_append]; rfl)
              obtain ⟨bs, hbs⟩ : ∃ bs, bs = catT sortT x.so ++ catT (fldT x.so) x.fi ++ pre := ⟨_, rfl⟩
              have HBS := Aside0.mk hbs
              rw [← hbs] at HSP HL3
              clear hs1 hl3 hl4 hbs htb htz
              have hbsz := HSP.out.own.lt
              go_wp2_with fail
              have HSPa := Aside0.mk (HSP.out.below (below_alloc (Below.refl _ _) (.cells #[.string u.f0, .slice A4 u.f1.length c4, .int .i64 u.f2.f0, .string u.f2.f1, .int .i64 u.f2.f2, .slice A5 u.f2.f3.length c5, .int .i64 u.f2.f4] 50)))
              have hbk := blk_new wr (.cells #[.string u.f0, .slice A4 u.f1.length c4, .int .i64 u.f2.f0, .string u.f2.f1, .int .i64 u.f2.f2, .slice A5 u.f2.f3.length c5, .int .i64 u.f2.f4] 50)
              clear HSP g0 g1 g2 g3 g4 g5 g6
              obtain ⟨C, hCe⟩ : ∃ C : World → Prop, C = fun W => Below (wr.alloc (.cells #[.string u.f0, .slice A4 u.f1.length c4, .int .i64 u.f2.f0, .string u.f2.f1, .int .i64 u.f2.f2, .slice A5 u.f2.f3.length c5, .int .i64 u.f2.f4] 50)).heap.size (wr.alloc (.cells #[.string u.f0, .slice A4 u.f1.length c4, .int .i64 u.f2.f0, .string u.f2.f1, .int .i64 u.f2.f2, .slice A5 u.f2.f3.length c5, .int .i64 u.f2.f4] 50)) W := ⟨_, rfl⟩
              have HC := Aside0.mk hCe
              clear hCe
              have q0 : ∀ W, C W → W.cell? ⟨w1.heap.size, 0, none⟩ = some (.pointer (some ⟨b, 0, none⟩)) := fun W hW => by rw [HC.out] at hW; exact blk_cell (HSPa.out.below hW).ptr 0
              have r0 : ∀ W, C W → W.cell? ⟨wr.heap.size, 0, none⟩ = some (.string u.f0) := fun W hW => by rw [HC.out] at hW; exact blk_cell (blk_below hbk hW) 0
              refine wp_quiet_tail C 7 (by kernel_rfl) (by kernel_rfl) (by rw [HC.out]; exact below_drew1 (Below.refl _ _)) ?_
              simp only [List.take_succ_cons, List.take_zero, List.drop_succ_cons, List.drop_zero]
              iterate 7
                refine q_ex rfl ?_
                apply Exists.intro
                refine ⟨fun W hW => ?_, ?_⟩
                · have p0 := q0 W hW
                  have s0 := r0 W hW
                  go_simp
                  try rfl
                simp only [Act.put, List.setIfInBounds_toArray, List.set_cons_zero, List.set_cons_succ]
              intro W hW
              have HW := Aside0.mk (show Below (wr.alloc (.cells #[.string u.f0, .slice A4 u.f1.length c4, .int .i64 u.f2.f0, .string u.f2.f1, .int .i64 u.f2.f2, .slice A5 u.f2.f3.length c5, .int .i64 u.f2.f4] 50)).heap.size (wr.alloc (.cells #[.string u.f0, .slice A4 u.f1.length c4, .int .i64 u.f2.f0, .string u.f2.f1, .int .i64 u.f2.f2, .slice A5 u.f2.f3.length c5, .int .i64 u.f2.f4] 50)) W by rw [HC.out] at hW; exact hW)
              have hbkW := blk_below hbk HW.out
              have HSPW := Aside0.mk (HSPa.out.below HW.out)
              clear q0 r0 hW HC hbk
              go_wp2_with fail
              refine (writeString_walk _ b m2 m1 _ _ W HSPW.out.own ?l102 HSPW.out.sz).mono ?_
              case l102 => have hl := HL3.out; have hz := HZ.out; rw [hz]; unfold most at hl; omega
              rintro e w2 ⟨rfl, hw⟩
              have hbkw2 := hw.blk hbkW (by omega) (by decide)
              have HSPw2 := Aside0.mk (HSPW.out.wrote hw (app_ne (by have hz := HZ.out; rw [data_length, hz]; omega)))
              clear hw hbkW HSPW
              have zp := blk_cell HSPw2.out.ptr 0
              have ze := blk_cell hbkw2 1
              go_wp2_with fail
              refine (listP_walk u.f1 HP.out b w.heap.size w1.heap.size (w1.heap.size + 1) x.so w w2 w.heap.size m2 m1 _ A4 c4 (Kd.C_below GS.out HSPw2.out.low) (Nat.le_refl _) (HSPw2.out.env X0.out) HSPw2.out.low HSPw2.out.base GS.out HSPw2.out.own ?jp).mono ?_
              case jp => have hl := HL3.out; have hz := HZ.out; rw [List.length_append, data_length, hz]; omega
              rintro e w3 ⟨rfl, hw⟩
              have hbkw3 := hw.blk hbkw2 (by omega) (by decide)
              have HSPw3 := Aside0.mk (HSPw2.out.wrote hw (fun e => by have hz := HZ.out; have := congrArg List.length e; simp only [List.length_append, data_length, hz, List.length_nil] at this; omega))
              clear hw hbkw2 HSPw2 zp ze
              go_wp2_with fail
              obtain ⟨C, hCe⟩ : ∃ C : World → Prop, C = fun W => Below (w3).heap.size (w3) W := ⟨_, rfl⟩
              have HC := Aside0.mk hCe
              clear hCe
              have q0 : ∀ W, C W → W.cell? ⟨w1.heap.size, 0, none⟩ = some (.pointer (some ⟨b, 0, none⟩)) := fun W hW => by rw [HC.out] at hW; exact blk_cell (HSPw3.out.below hW).ptr 0
              have r0 : ∀ W, C W → W.cell? ⟨wr.heap.size, 2, none⟩ = some (.int .i64 u.f2.f0) := fun W hW => by rw [HC.out] at hW; exact blk_cell (blk_below hbkw3 hW) 2
              have r1 : ∀ W, C W → W.cell? ⟨wr.heap.size, 3, none⟩ = some (.string u.f2.f1) := fun W hW => by rw [HC.out] at hW; exact blk_cell (blk_below hbkw3 hW) 3
              have r2 : ∀ W, C W → W.cell? ⟨wr.heap.size, 4, none⟩ = some (.int .i64 u.f2.f2) := fun W hW => by rw [HC.out] at hW; exact blk_cell (blk_below hbkw3 hW) 4
              have r3 : ∀ W, C W → W.cell? ⟨wr.heap.size, 5, none⟩ = some (.slice A5 u.f2.f3.length c5) := fun W hW => by rw [HC.out] at hW; exact blk_cell (blk_below hbkw3 hW) 5
              have r4 : ∀ W, C W → W.cell? ⟨wr.heap.size, 6, none⟩ = some (.int .i64 u.f2.f4) := fun W hW => by rw [HC.out] at hW; exact blk_cell (blk_below hbkw3 hW) 6
              have hc : ∀ W, C W → Calls Tryd.prog 13 #[.agg #[.int .i64 u.f2.f0, .string u.f2.f1, .int .i64 u.f2.f2, .slice A5 u.f2.f3.length c5, .int .i64 u.f2.f4]] W fun e w' => e = .returned (.string tb) ∧ C w' := fun W hW => by
                rw [HC.out] at hW ⊢
                rw [HTB.out]
                have hlw := below_step HSPw3.out.low hW
                exact (formula_walk u.f2 HU.out.1 W _ (k24_mk W u.f2 gl (Kd.C_below GC.out hlw)) (HT.out.below hlw) HU.out.2 HLT.out).mono fun e w' h => ⟨h.1, below_step hW h.2⟩
              refine wp_quiet_tail C 8 (by kernel_rfl) (by kernel_rfl) (by rw [HC.out]; exact below_drew1 (Below.refl _ _)) ?_
              simp only [List.take_succ_cons, List.take_zero, List.drop_succ_cons, List.drop_zero]
              iterate 5
                refine q_ex rfl ?_
                apply Exists.intro
                refine ⟨fun W hW => ?_, ?_⟩
                · have p0 := q0 W hW
                  have s0 := r0 W hW
                  have s1 := r1 W hW
                  have s2 := r2 W hW
                  have s3 := r3 W hW
                  have s4 := r4 W hW
                  go_simp
                  try rfl
                simp only [Act.put, List.setIfInBounds_toArray, List.set_cons_zero, List.set_cons_succ]
              refine q_call rfl (fun W hW => by go_simp) hc ?_
              simp only [Act.put, List.setIfInBounds_toArray, List.set_cons_zero, List.set_cons_succ]
              iterate 2
                refine q_ex rfl ?_
                apply Exists.intro
                refine ⟨fun W hW => ?_, ?_⟩
                · have p0 := q0 W hW
                  have s0 := r0 W hW
                  have s1 := r1 W hW
                  have s2 := r2 W hW
                  have s3 := r3 W hW
                  have s4 := r4 W hW
                  go_simp
                  try rfl
                simp only [Act.put, List.setIfInBounds_toArray, List.set_cons_zero, List.set_cons_succ]
              intro V hW
              have HW := Aside0.mk (show Below (w3).heap.size (w3) V by rw [HC.out] at hW; exact hW)
              have hbkV := blk_below hbkw3 HW.out
              have HSPV := Aside0.mk (HSPw3.out.below HW.out)
              clear q0 r0 r1 r2 r3 r4 hc hW HC hbkw3
              go_wp2_with fail
              refine (writeString_walk _ b m2 m1 _ _ V HSPV.out.own ?l103 HSPV.out.sz).mono ?_
              case l103 => have hl := HL3.out; have hz := HZ.out; have hy := HY.out; rw [List.length_append, List.length_append, data_length, hz, hy]; unfold most at hl; omega
              rintro e w4 ⟨rfl, hw⟩
              have hbkw4 := hw.blk hbkV (by omega) (by decide)
              have HSPw4 := Aside0.mk (HSPV.out.wrote hw (app_ne (by have hy := HY.out; rw [data_length, hy]; omega)))
              clear hw hbkV HSPV
              clear hbkw4
              go_wp2
              go_roundw
              case rel => exact ⟨k + 1, by omega, by go_num, ⟨⟨_, HS1.out, by have := HSPw4.out; rw [HBS.out, HTB.out] at this; simp [ByteArray.data_append, predT] at this ⊢; exact this⟩⟩⟩
              case measure => simp [intOf]; omega
            · have hke : k = x.pr.length := by omega
              have HE : Aside0 (catT (predT x.so) x.pr = pre) := ⟨by have := HPRE.out; rw [this, List.drop_of_length_le (by omega)]; simp [catT]⟩
              clear HPRE hke
              have z0 := blk_cell HSP.out.blk 3
              go_wp2_with fail
              clear z0
              have HSQ := HSP
              have HPE := HE
              clear HSP HE
              go_loopw [104] (fun v wr => ∃ k : Nat, k ≤ x.fa.length ∧ v = .int .i64 k ∧ Aside0 (∃ pre, catT factT x.fa = pre ++ catT factT (x.fa.drop k) ∧ Sp x A0 A1 A2 A3 c0 c1 c2 c3 w w.heap.size b m2 m1 w.heap.size w1.heap.size (w1.heap.size + 1) (catT sortT x.so ++ catT (fldT x.so) x.fi ++ catT (predT x.so) x.pr ++ pre) wr)) (fun v _ => x.fa.length - (intOf v).toNat)
              case atStart => exact ⟨0, Nat.zero_le _, rfl, ⟨[], by simp, by rw [HPE.out]; simpa using HSQ.out⟩⟩
              case round =>
                clear HSQ HPE hlt2
                obtain ⟨k, hk, rfl, ⟨pre, hpre, hwr⟩⟩ := hrel
                have HPRE := Aside0.mk hpre
                have HSP := Aside0.mk hwr
                clear hpre hwr
                by_cases hlt2 : k < x.fa.length
                · obtain ⟨ad, A5, c5, e1, g0, g1, g2, g3, g4, g5, gl, gc⟩ := at_T52 X3.out k (by omega) (by omega)
                  cases e1
                  simp only [Int.toNat_natCast] at g0 g1 g2 g3 g4 g5
                  replace g0 := pw_cell_below HSP.out.low g0
                  replace g1 := pw_cell_below HSP.out.low g1
                  replace g2 := pw_cell_below HSP.out.low g2
                  replace g3 := pw_cell_below HSP.out.low g3
                  replace g4 := pw_cell_below HSP.out.low g4
                  replace g5 := pw_cell_below HSP.out.low g5
                  change _ = some (Value.string (x.fa.getD k z52).f0) at g0
                  change _ = some (Value.int .i64 (x.fa.getD k z52).f1.f0) at g1
                  change _ = some (Value.string (x.fa.getD k z52).f1.f1) at g2
                  change _ = some (Value.int .i64 (x.fa.getD k z52).f1.f2) at g3
                  change _ = some (Value.slice A5 (x.fa.getD k z52).f1.f3.length c5) at g4
                  change _ = some (Value.int .i64 (x.fa.getD k z52).f1.f4) at g5
                  change (x.fa.getD k z52).f1.f3.length ≤ c5 at gl
                  change k24.C w A5 (x.fa.getD k z52).f1.f3.length (x.fa.getD k z52).f1.f3 at gc
                  have GC := Aside0.mk gc
                  have HU := Aside0.mk (HN.out.fb _ (mem_get z52 x.fa k hlt2))
                  have hs1 := catT_step _ z52 x.fa k pre HPRE.out hlt2
                  have hl3 : (catT sortT x.so ++ catT (fldT x.so) x.fi ++ catT (predT x.so) x.pr).length + (pre.length + (factT (x.fa.getD k z52)).length) ≤ most := by
                    have := HL.out
                    unfold specT at this
                    rw [hs1] at this
                    simp only [List.length_append] at this ⊢
                    omega
                  clear gc
                  generalize x.fa.getD k z52 = u at *
                  obtain ⟨tb, htb⟩ : ∃ tb : ByteArray, tb = ⟨(txt u.f1 true).toArray⟩ := ⟨_, rfl⟩
                  have htz : tb.size = (txt u.f1 true).length := by rw [htb, toL_size]
                  have HTB := Aside0.mk htb
                  have hl4 : (catT sortT x.so ++ catT (fldT x.so) x.fi ++ catT (predT x.so) x.pr ++ pre).length + (5 + u.f0.size + 3 + tb.size + 3) ≤ most := by
                    unfold factT at hl3
                    simp only [List.length_append, data_length, List.length_cons, List.length_nil] at hl3 ⊢; omega
                  have HLT := Aside0.mk (show (txt u.f1 true).length ≤ most by omega)
                  have HS1 := Aside0.mk hs1
                  have HL3 := Aside0.mk hl4
                  have e1 : ((⟨#[102, 97, 99, 116, 32]⟩ : ByteArray) ++ u.f0).size = 5 + u.f0.size := by rw [ByteArray.size_append]; rfl
                  have e2 : ((⟨#[102, 97, 99, 116, 32]⟩ : ByteArray) ++ u.f0 ++ (⟨#[32, 123, 32]⟩ : ByteArray)).size = 5 + u.f0.size + 3 := by rw [ByteArray.size_append, e1]; rfl
                  have e3 : ((⟨#[102, 97, 99, 116, 32]⟩ : ByteArray) ++ u.f0 ++ (⟨#[32, 123, 32]⟩ : ByteArray) ++ tb).size = 5 + u.f0.size + 3 + tb.size := by rw [ByteArray.size_append, e2]
                  have e4 : ((⟨#[102, 97, 99, 116, 32]⟩ : ByteArray) ++ u.f0 ++ (⟨#[32, 123, 32]⟩ : ByteArray) ++ tb ++ (⟨#[32, 125, 10]⟩ : ByteArray)).size = 5 + u.f0.size + 3 + tb.size + 3 := by rw [ByteArray.size_append, e3]; rfl
                  have hz1 : ¬ 9223372036854775807 < 5 + u.f0.size := by unfold most at hl4; omega
                  have hz2 : ¬ 9223372036854775807 < ((⟨#[102, 97, 99, 116, 32]⟩ : ByteArray) ++ u.f0).size + 3 := by rw [e1]; unfold most at hl4; omega
                  have hz3 : ¬ 9223372036854775807 < 5 + u.f0.size + 3 := by unfold most at hl4; omega
                  have hz4 : ¬ 9223372036854775807 < ((⟨#[102, 97, 99, 116, 32]⟩ : ByteArray) ++ u.f0 ++ (⟨#[32, 123, 32]⟩ : ByteArray)).size + tb.size := by rw [e2]; unfold most at hl4; omega
                  have hz5 : ¬ 9223372036854775807 < 5 + u.f0.size + 3 + tb.size := by unfold most at hl4; omega
                  have hz6 : ¬ 9223372036854775807 < ((⟨#[102, 97, 99, 116, 32]⟩ : ByteArray) ++ u.f0 ++ (⟨#[32, 123, 32]⟩ : ByteArray) ++ tb).size + 3 := by rw [e3]; unfold most at hl4; omega
                  have hz7 : ¬ 9223372036854775807 < 5 + u.f0.size + 3 + tb.size + 3 := by unfold most at hl4; omega
                  have HZ := Aside0.mk e4
                  obtain ⟨bs, hbs⟩ : ∃ bs, bs = catT sortT x.so ++ catT (fldT x.so) x.fi ++ catT (predT x.so) x.pr ++ pre := ⟨_, rfl⟩
                  have HBS := Aside0.mk hbs
                  rw [← hbs] at HSP HL3
                  clear hs1 hl3 hl4 hbs htb htz e1 e2 e3 e4
                  have hbsz := HSP.out.own.lt
                  go_wp2_with fail
                  have HSPa := Aside0.mk (HSP.out.below (below_alloc (Below.refl _ _) (.cells #[.string u.f0, .int .i64 u.f1.f0, .string u.f1.f1, .int .i64 u.f1.f2, .slice A5 u.f1.f3.length c5, .int .i64 u.f1.f4] 52)))
                  have hbk := blk_new wr (.cells #[.string u.f0, .int .i64 u.f1.f0, .string u.f1.f1, .int .i64 u.f1.f2, .slice A5 u.f1.f3.length c5, .int .i64 u.f1.f4] 52)
                  clear HSP g0 g1 g2 g3 g4 g5
                  obtain ⟨C, hCe⟩ : ∃ C : World → Prop, C = fun W => Below (wr.alloc (.cells #[.string u.f0, .int .i64 u.f1.f0, .string u.f1.f1, .int .i64 u.f1.f2, .slice A5 u.f1.f3.length c5, .int .i64 u.f1.f4] 52)).heap.size (wr.alloc (.cells #[.string u.f0, .int .i64 u.f1.f0, .string u.f1.f1, .int .i64 u.f1.f2, .slice A5 u.f1.f3.length c5, .int .i64 u.f1.f4] 52)) W := ⟨_, rfl⟩
                  have HC := Aside0.mk hCe
                  clear hCe
                  have q0 : ∀ W, C W → W.cell? ⟨w1.heap.size, 0, none⟩ = some (.pointer (some ⟨b, 0, none⟩)) := fun W hW => by rw [HC.out] at hW; exact blk_cell (HSPa.out.below hW).ptr 0
                  have r0 : ∀ W, C W → W.cell? ⟨wr.heap.size, 0, none⟩ = some (.string u.f0) := fun W hW => by rw [HC.out] at hW; exact blk_cell (blk_below hbk hW) 0
                  have r1 : ∀ W, C W → W.cell? ⟨wr.heap.size, 1, none⟩ = some (.int .i64 u.f1.f0) := fun W hW => by rw [HC.out] at hW; exact blk_cell (blk_below hbk hW) 1
                  have r2 : ∀ W, C W → W.cell? ⟨wr.heap.size, 2, none⟩ = some (.string u.f1.f1) := fun W hW => by rw [HC.out] at hW; exact blk_cell (blk_below hbk hW) 2
                  have r3 : ∀ W, C W → W.cell? ⟨wr.heap.size, 3, none⟩ = some (.int .i64 u.f1.f2) := fun W hW => by rw [HC.out] at hW; exact blk_cell (blk_below hbk hW) 3
                  have r4 : ∀ W, C W → W.cell? ⟨wr.heap.size, 4, none⟩ = some (.slice A5 u.f1.f3.length c5) := fun W hW => by rw [HC.out] at hW; exact blk_cell (blk_below hbk hW) 4
                  have r5 : ∀ W, C W → W.cell? ⟨wr.heap.size, 5, none⟩ = some (.int .i64 u.f1.f4) := fun W hW => by rw [HC.out] at hW; exact blk_cell (blk_below hbk hW) 5
                  have hc : ∀ W, C W → Calls Tryd.prog 13 #[.agg #[.int .i64 u.f1.f0, .string u.f1.f1, .int .i64 u.f1.f2, .slice A5 u.f1.f3.length c5, .int .i64 u.f1.f4]] W fun e w' => e = .returned (.string tb) ∧ C w' := fun W hW => by
                    rw [HC.out] at hW ⊢
                    rw [HTB.out]
                    have hlw := below_step HSPa.out.low hW
                    exact (formula_walk u.f1 HU.out.1 W _ (k24_mk W u.f1 gl (Kd.C_below GC.out hlw)) (HT.out.below hlw) HU.out.2 HLT.out).mono fun e w' h => ⟨h.1, below_step hW h.2⟩
                  refine wp_quiet_tail C 12 (by kernel_rfl) (by kernel_rfl) (by rw [HC.out]; exact below_drew1 (Below.refl _ _)) ?_
                  simp only [List.take_succ_cons, List.take_zero, List.drop_succ_cons, List.drop_zero]
                  iterate 9
                    refine q_ex rfl ?_
                    apply Exists.intro
                    refine ⟨fun W hW => ?_, ?_⟩
                    · have p0 := q0 W hW
                      have s0 := r0 W hW
                      have s1 := r1 W hW
                      have s2 := r2 W hW
                      have s3 := r3 W hW
                      have s4 := r4 W hW
                      have s5 := r5 W hW
                      go_simp
                      try rfl
                    simp only [Act.put, List.setIfInBounds_toArray, List.set_cons_zero, List.set_cons_succ]
                  refine q_call rfl (fun W hW => by go_simp) hc ?_
                  simp only [Act.put, List.setIfInBounds_toArray, List.set_cons_zero, List.set_cons_succ]
                  iterate 2
                    refine q_ex rfl ?_
                    apply Exists.intro
                    refine ⟨fun W hW => ?_, ?_⟩
                    · have p0 := q0 W hW
                      have s0 := r0 W hW
                      have s1 := r1 W hW
                      have s2 := r2 W hW
                      have s3 := r3 W hW
                      have s4 := r4 W hW
                      have s5 := r5 W hW
                      go_simp
                      try rfl
                    simp only [Act.put, List.setIfInBounds_toArray, List.set_cons_zero, List.set_cons_succ]
                  intro V hW
                  have HW := Aside0.mk (show Below (wr.alloc (.cells #[.string u.f0, .int .i64 u.f1.f0, .string u.f1.f1, .int .i64 u.f1.f2, .slice A5 u.f1.f3.length c5, .int .i64 u.f1.f4] 52)).heap.size (wr.alloc (.cells #[.string u.f0, .int .i64 u.f1.f0, .string u.f1.f1, .int .i64 u.f1.f2, .slice A5 u.f1.f3.length c5, .int .i64 u.f1.f4] 52)) V by rw [HC.out] at hW; exact hW)
                  have hbkV := blk_below hbk HW.out
                  have HSPV := Aside0.mk (HSPa.out.below HW.out)
                  clear q0 r0 r1 r2 r3 r4 r5 hc hW HC hbk
                  go_wp2_with fail
                  refine (writeString_walk _ b m2 m1 _ _ V HSPV.out.own ?l101 HSPV.out.sz).mono ?_
                  case l101 => have hl := HL3.out; have hz := HZ.out; rw [hz]; unfold most at hl; omega
                  rintro e w4 ⟨rfl, hw⟩
                  have hbkw4 := hw.blk hbkV (by omega) (by decide)
                  have HSPw4 := Aside0.mk (HSPV.out.wrote hw (app_ne (by have hz := HZ.out; rw [data_length, hz]; omega)))
                  clear hw hbkV HSPV
                  clear hbkw4
                  go_wp2
                  go_roundw
                  case rel => exact ⟨k + 1, by omega, by go_num, ⟨⟨_, HS1.out, by have := HSPw4.out; rw [HBS.out, HTB.out] at this; simp [ByteArray.data_append, factT] at this ⊢; exact this⟩⟩⟩
                  case measure => simp [intOf]; omega
                · have hke : k = x.fa.length := by omega
                  have HE : Aside0 (catT factT x.fa = pre) := ⟨by have := HPRE.out; rw [this, List.drop_of_length_le (by omega)]; simp [catT]⟩
                  clear HPRE hke
                  have HS : Aside0 (specT x = catT sortT x.so ++ catT (fldT x.so) x.fi ++ catT (predT x.so) x.pr ++ pre) := ⟨by rw [specT, HE.out]⟩
                  have zp := blk_cell HSP.out.ptr 0
                  have hbsz := HSP.out.own.lt
                  go_wp2_with fail
                  by_cases hnil : catT sortT x.so ++ catT (fldT x.so) x.fi ++ catT (predT x.so) x.pr ++ pre = []
                  · obtain ⟨p, hp⟩ := HSP.out.nil hnil
                    refine (string_nil_walk _ b m2 m1 p wr hp).mono ?_
                    rintro e w9 ⟨rfl, hb9⟩
                    have HB9 := Aside0.mk (show Below w.heap.size w w9 from HSP.out.low.trans hb9)
                    have HR : Aside0 ((⟨#[]⟩ : ByteArray) = ⟨(specT x).toArray⟩) := ⟨by rw [HS.out, hnil]⟩
                    clear hb9 hp hnil zp
                    go_wp2
                    go_ret
                    exact ⟨by rw [HR.out]; rfl, HB9.out⟩
                  · refine (string_walk _ b m2 m1 _ wr HSP.out.own hnil HSP.out.sz).mono ?_
                    rintro e w9 ⟨rfl, hb9⟩
                    have HB9 := Aside0.mk (show Below w.heap.size w w9 from HSP.out.low.trans hb9)
                    clear hb9 hnil zp
                    go_wp2
                    go_ret
                    exact ⟨by rw [HS.out]; simp only [List.append_assoc]; rfl, HB9.out⟩
end Go.Proofs.YtgdiodhaihmnbaaDoor.Own
namespace Go.Proofs.YtgdiodhaihmnbaaDoor.Own
open Go.RowKit Go.Proofs.YtgdiodhaihmnbaaDoorW.PrintWords Go.Proofs.YtgdiodhaihmnbaaDoorW.PrintLast Go.Proofs.YtgdiodhaihmnbaaDoorW.PrintMore Go.Proofs.YtgdiodhaihmnbaaDoor.PPrinterMatchesReference

theorem add0 (g k : Nat) : (⟨g, 0, none⟩ : Addr).add k = ⟨g, k, none⟩ := by cases k <;> simp [Addr.add]
theorem C_one {α : Type} (d : Kd α) {w : World} {g : Nat} {t : TypeId} {x : α} {c : List Value} (h : w.heap[g]? = some (.cells c.toArray t (0, 0))) (hk : d.K w x c) (hs : c.length = d.sz) : d.C w (some ⟨g, 0, none⟩) 1 [x] := by
  refine ⟨rfl, by decide, fun _ => ⟨⟨g, 0, none⟩, rfl, fun j p hj => ?_⟩⟩
  cases j with
  | zero =>
    simp at hj; subst hj
    refine ⟨c, hs, hk, fun i u hu => ?_⟩
    have hi : i < c.length := (List.getElem?_eq_some_iff.1 hu).1
    have := blk_cell h i
    rw [List.getElem?_toArray, hu] at this
    rw [add0, Nat.zero_mul, Nat.zero_add]; exact this
  | succ j => simp at hj
theorem C_two {α : Type} (d : Kd α) {w : World} {g : Nat} {t : TypeId} {x y : α} {c e : List Value} (h : w.heap[g]? = some (.cells (c ++ e).toArray t (0, 0))) (hx : d.K w x c) (hy : d.K w y e) (hs : c.length = d.sz) (hs' : e.length = d.sz) : d.C w (some ⟨g, 0, none⟩) 2 [x, y] := by
  refine ⟨rfl, by decide, fun _ => ⟨⟨g, 0, none⟩, rfl, fun j p hj => ?_⟩⟩
  match j, hj with
  | 0, hj =>
    simp at hj; subst hj
    refine ⟨c, hs, hx, fun i u hu => ?_⟩
    have hi : i < c.length := (List.getElem?_eq_some_iff.1 hu).1
    have := blk_cell h i
    rw [List.getElem?_toArray, List.getElem?_append_left hi, hu] at this
    rw [add0, Nat.zero_mul, Nat.zero_add]; exact this
  | 1, hj =>
    simp at hj; subst hj
    refine ⟨e, hs', hy, fun i u hu => ?_⟩
    have := blk_cell h (d.sz + i)
    rw [List.getElem?_toArray, List.getElem?_append_right (by omega), hs, Nat.add_sub_cancel_left, hu] at this
    rw [add0, Nat.one_mul]; exact this
  | j + 2, hj => simp at hj

/-- Every box and row stands, but those that hold a specification. -/
def KeepT (w W : World) : Prop := ∀ (k : Nat) (cs : Array Value) (t : TypeId) (fr : Nat × Nat), t ≠ 30 → w.heap[k]? = some (.cells cs t fr) → W.heap[k]? = some (.cells cs t fr)
theorem KeepT.refl (w : World) : KeepT w w := fun _ _ _ _ _ h => h
theorem KeepT.trans {w w1 w2 : World} (h : KeepT w w1) (k : KeepT w1 w2) : KeepT w w2 := fun i cs t fr ht hi => k i cs t fr ht (h i cs t fr ht hi)
theorem KeepT.of_below {w w1 : World} (h : Below w.heap.size w w1) : KeepT w w1 := fun i _ _ _ _ hi => (h.block i (blk_lt hi)).trans hi
/-- A row reads so, and goes on doing so. -/
def SC {α : Type} (d : Kd α) (A : Option Addr) (xs : List α) (w : World) : Prop := ∀ W, KeepT w W → d.C W A xs.length xs
theorem SC.keep {α : Type} {d : Kd α} {A : Option Addr} {xs : List α} {w w1 : World} (h : SC d A xs w) (hb : KeepT w w1) : SC d A xs w1 := fun W hW => h W (hb.trans hW)
theorem SC.below {α : Type} {d : Kd α} {A : Option Addr} {xs : List α} {w w1 : World} (h : SC d A xs w) (hb : Below w.heap.size w w1) : SC d A xs w1 := h.keep (.of_below hb)
theorem SC.now {α : Type} {d : Kd α} {A : Option Addr} {xs : List α} {w : World} (h : SC d A xs w) : d.C w A xs.length xs := h w (.refl w)
theorem SC_one {α : Type} (d : Kd α) {w : World} {g : Nat} {t : TypeId} {x : α} {c : List Value} (h : w.heap[g]? = some (.cells c.toArray t (0, 0))) (ht : t ≠ 30) (hk : ∀ W, KeepT w W → d.K W x c) (hs : c.length = d.sz) : SC d (some ⟨g, 0, none⟩) [x] w :=
  fun W hW => C_one d (hW _ _ _ _ ht h) (hk W hW) hs
theorem SC_two {α : Type} (d : Kd α) {w : World} {g : Nat} {t : TypeId} {x y : α} {c e : List Value} (h : w.heap[g]? = some (.cells (c ++ e).toArray t (0, 0))) (ht : t ≠ 30) (hx : ∀ W, KeepT w W → d.K W x c) (hy : ∀ W, KeepT w W → d.K W y e) (hs : c.length = d.sz) (hs' : e.length = d.sz) : SC d (some ⟨g, 0, none⟩) [x, y] w :=
  fun W hW => C_two d (hW _ _ _ _ ht h) (hx W hW) (hy W hW) hs hs'
theorem SC_nil {α : Type} (d : Kd α) (w : World) : SC d none [] w := fun W _ => Kd.C_nil d W
/-- A node's cells. -/
def ndCs (x : S24) (A : Option Addr) (c : Nat) : List Value := [.int .i64 x.f0, .string x.f1, .int .i64 x.f2, .slice A x.f3.length c, .int .i64 x.f4]
/-- A value that is a node. -/
def Nd (x : S24) (v : Value) (w : World) : Prop := ∃ A c, v = .agg #[.int .i64 x.f0, .string x.f1, .int .i64 x.f2, .slice A x.f3.length c, .int .i64 x.f4] ∧ x.f3.length ≤ c ∧ SC k24 A x.f3 w
theorem Nd.below {x : S24} {v : Value} {w w1 : World} (h : Nd x v w) (hb : Below w.heap.size w w1) : Nd x v w1 := let ⟨A, c, e, l, k⟩ := h; ⟨A, c, e, l, k.below hb⟩
theorem Nd.K {x : S24} {v : Value} {w : World} (h : Nd x v w) : ∃ cs, v = .agg cs.toArray ∧ k24.K w x cs := let ⟨A, c, e, l, k⟩ := h; ⟨_, e, k24_mk w x l k.now⟩
theorem Nd.leaf (x : S24) (w : World) (h : x.f3 = []) : Nd x (.agg #[.int .i64 x.f0, .string x.f1, .int .i64 x.f2, .slice none 0 0, .int .i64 x.f4]) w := ⟨none, 0, by rw [h]; rfl, by rw [h]; exact Nat.le_refl _, by rw [h]; exact SC_nil _ _⟩
/-- A box that holds a node. -/
def Bx (x : S24) (g : Nat) (w : World) : Prop := ∃ A c, w.heap[g]? = some (.cells #[.int .i64 x.f0, .string x.f1, .int .i64 x.f2, .slice A x.f3.length c, .int .i64 x.f4] 24 (0, 0)) ∧ x.f3.length ≤ c ∧ SC k24 A x.f3 w
theorem Bx.keep {x : S24} {g : Nat} {w w1 : World} (h : Bx x g w) (hb : KeepT w w1) : Bx x g w1 := let ⟨A, c, e, l, k⟩ := h; ⟨A, c, hb _ _ _ _ (by decide) e, l, k.keep hb⟩
theorem Bx.below {x : S24} {g : Nat} {w w1 : World} (h : Bx x g w) (hb : Below w.heap.size w w1) : Bx x g w1 := h.keep (.of_below hb)

def nName (s : ByteArray) : S24 := ⟨1, s, 0, [], 0⟩
def nCall (s : ByteArray) : S24 := ⟨47, s, 0, [], 0⟩
def nBoth (op : Int) (x y : S24) : S24 := ⟨op, ⟨#[]⟩, 0, [x, y], 0⟩

set_option maxHeartbeats 1000000 in
set_option maxRecDepth 100000 in
theorem name19_walk (s : ByteArray) (w : World) : Calls Tryd.prog 19 #[.string s] w fun e w' => ∃ v, e = .returned v ∧ Nd (nName s) v w' ∧ Below w.heap.size w w' := by
  have hu24 := Tryd.underlying24
  go_enter Tryd.func19, Tryd.ntmps19
  go_wp2_with fail
  refine bodyPost_ret (results_cell_row rfl _ _ w.heap.size 24 #[.int .i64 1, .string s, .int .i64 0, .slice none 0 0, .int .i64 0] (0, 0) _ rfl (blk_new _ _) Tryd.underlying24 rfl (by kernel_rfl)) rfl ?_
  exact ⟨_, rfl, Nd.leaf (nName s) _ rfl, below_alloc (Below.refl _ _) _⟩

set_option maxHeartbeats 1000000 in
set_option maxRecDepth 100000 in
theorem call20_walk (s : ByteArray) (w : World) : Calls Tryd.prog 20 #[.string s] w fun e w' => ∃ v, e = .returned v ∧ Nd (nCall s) v w' ∧ Below w.heap.size w w' := by
  have hu24 := Tryd.underlying24
  go_enter Tryd.func20, Tryd.ntmps20
  go_wp2_with fail
  refine bodyPost_ret (results_cell_row rfl _ _ w.heap.size 24 #[.int .i64 47, .string s, .int .i64 0, .slice none 0 0, .int .i64 0] (0, 0) _ rfl (blk_new _ _) Tryd.underlying24 rfl (by kernel_rfl)) rfl ?_
  exact ⟨_, rfl, Nd.leaf (nCall s) _ rfl, below_alloc (Below.refl _ _) _⟩

set_option maxHeartbeats 1000000 in
set_option maxRecDepth 100000 in
theorem both_walk (op : Int) (x y : S24) (v1 v2 : Value) (w : World) (h1 : Nd x v1 w) (h2 : Nd y v2 w) : Calls Tryd.prog 21 #[.int .i64 op, v1, v2] w fun e w' => ∃ v, e = .returned v ∧ Nd (nBoth op x y) v w' ∧ Below w.heap.size w w' := by
  have hu24 := Tryd.underlying24
  obtain ⟨A, c, rfl, l1, k1⟩ := h1
  obtain ⟨B, d, rfl, l2, k2⟩ := h2
  have K1 := Aside0.mk k1
  have K2 := Aside0.mk k2
  clear k1 k2
  go_enter Tryd.func21, Tryd.ntmps21
  go_wp2_with fail
  refine bodyPost_ret (results_cell_row rfl _ _ (w.heap.size + 1 + 1) 24 #[.int .i64 op, .string ⟨#[]⟩, .int .i64 0, .slice (some ⟨w.heap.size + 1 + 1 + 1, 0, none⟩) 2 2, .int .i64 0] (0, 0) _ rfl (by refine blk_alloc ?_ _; simpa using blk_new ((w.alloc (.cells #[.int .i64 x.f0, .string x.f1, .int .i64 x.f2, .slice A x.f3.length c, .int .i64 x.f4] 24)).alloc (.cells #[.int .i64 y.f0, .string y.f1, .int .i64 y.f2, .slice B y.f3.length d, .int .i64 y.f4] 24)) _) Tryd.underlying24 rfl (by kernel_rfl)) rfl ?_
  refine ⟨_, rfl, ⟨some ⟨w.heap.size + 1 + 1 + 1, 0, none⟩, 2, rfl, Nat.le_refl _, ?_⟩, by repeat (first | exact Below.refl _ _ | apply below_alloc)⟩
  refine SC_two k24 (c := [.int .i64 x.f0, .string x.f1, .int .i64 x.f2, .slice A x.f3.length c, .int .i64 x.f4]) (e := [.int .i64 y.f0, .string y.f1, .int .i64 y.f2, .slice B y.f3.length d, .int .i64 y.f4]) (t := 24) (by simpa using blk_new (((w.alloc _).alloc _).alloc _) _) (by decide) (fun W hW => k24_mk _ x l1 (K1.out W (.trans (.of_below ?_) hW))) (fun W hW => k24_mk _ y l2 (K2.out W (.trans (.of_below ?_) hW))) rfl rfl
  · repeat (first | exact Below.refl _ _ | apply below_alloc)
  · repeat (first | exact Below.refl _ _ | apply below_alloc)
end Go.Proofs.YtgdiodhaihmnbaaDoor.Own
namespace Go.Proofs.YtgdiodhaihmnbaaDoor.Own
open Go.RowKit Go.Proofs.YtgdiodhaihmnbaaDoorW.PrintWords Go.Proofs.YtgdiodhaihmnbaaDoorW.PrintLast Go.Proofs.YtgdiodhaihmnbaaDoorW.PrintMore Go.Proofs.YtgdiodhaihmnbaaDoor.PPrinterMatchesReference
def xAll : S24 := ⟨45, ⟨#[120]⟩, 0, [nName ⟨#[65]⟩, nCall ⟨#[112]⟩], 0⟩
def xTrue : S24 := ⟨30, ⟨#[]⟩, 0, [], 0⟩
def xFalse : S24 := ⟨31, ⟨#[]⟩, 0, [], 0⟩
def xNot : S24 := ⟨40, ⟨#[]⟩, 0, [nBoth 41 xTrue xFalse], 0⟩
def xDiff : S24 := nBoth 8 (nName ⟨#[97]⟩) (nBoth 8 (nName ⟨#[98]⟩) (nName ⟨#[99]⟩))
def xJoin : S24 := ⟨5, ⟨#[]⟩, 0, [nBoth 9 (nName ⟨#[97]⟩) ⟨11, ⟨#[]⟩, 0, [nName ⟨#[98]⟩], 0⟩], 0⟩
def xLess : S24 := nBoth 39 ⟨20, ⟨#[]⟩, -3, [], 0⟩ ⟨21, ⟨#[]⟩, 0, [nBoth 6 (nName ⟨#[97]⟩) ⟨2, ⟨#[]⟩, 2, [], 0⟩], 0⟩
def xOne : S24 := nBoth 41 xAll (nCall ⟨#[113]⟩)
def xTwo : S24 := nBoth 41 (nCall ⟨#[113]⟩) xAll
def xSp : SpD := ⟨[⟨⟨#[65]⟩, true⟩, ⟨⟨#[66]⟩, false⟩], [⟨⟨#[102]⟩, [0, 1], true⟩], [⟨⟨#[112]⟩, [⟨⟨#[120]⟩, 1⟩], xLess⟩], [⟨⟨#[113]⟩, xOne⟩]⟩
/-- A node's cells. -/
theorem ndK (x : S24) {A : Option Addr} {c : Nat} {w : World} (l : x.f3.length ≤ c) (k : SC k24 A x.f3 w) : ∀ W, KeepT w W → k24.K W x (ndCs x A c) := fun W hW => k24_mk W x l (k W hW)
theorem below_2 (w : World) (o o' : Obj) : Below w.heap.size w ((w.alloc o).alloc o') := below_alloc (below_alloc (Below.refl _ _) _) _
/-- A node over two kids, laid into a box. -/
theorem Bx_two {x y z : S24} {A B : Option Addr} {c d : Nat} {w : World} (l1 : x.f3.length ≤ c) (l2 : y.f3.length ≤ d) (k1 : SC k24 A x.f3 w) (k2 : SC k24 B y.f3 w) (hz : z.f3 = [x, y]) :
    Bx z (w.heap.size + 1) ((w.alloc (.cells (ndCs x A c ++ ndCs y B d).toArray 24)).alloc (.cells #[.int .i64 z.f0, .string z.f1, .int .i64 z.f2, .slice (some ⟨w.heap.size, 0, none⟩) 2 2, .int .i64 z.f4] 24)) := by
  refine ⟨some ⟨w.heap.size, 0, none⟩, 2, by rw [hz]; exact blk_two _ _ _, by rw [hz]; exact Nat.le_refl _, ?_⟩
  rw [hz]
  exact SC_two k24 (blk_alloc (blk_new _ _) _) (by decide) (ndK x l1 (k1.below (below_2 _ _ _))) (ndK y l2 (k2.below (below_2 _ _ _))) rfl rfl
theorem Bx_one {x z : S24} {A : Option Addr} {c : Nat} {w : World} (l1 : x.f3.length ≤ c) (k1 : SC k24 A x.f3 w) (hz : z.f3 = [x]) :
    Bx z (w.heap.size + 1) ((w.alloc (.cells (ndCs x A c).toArray 24)).alloc (.cells #[.int .i64 z.f0, .string z.f1, .int .i64 z.f2, .slice (some ⟨w.heap.size, 0, none⟩) 1 1, .int .i64 z.f4] 24)) := by
  refine ⟨some ⟨w.heap.size, 0, none⟩, 1, by rw [hz]; exact blk_two _ _ _, by rw [hz]; exact Nat.le_refl _, ?_⟩
  rw [hz]
  exact SC_one k24 (blk_alloc (blk_new _ _) _) (by decide) (ndK x l1 (k1.below (below_2 _ _ _))) rfl
theorem Nd_one {x z : S24} {A : Option Addr} {c : Nat} {w : World} (l1 : x.f3.length ≤ c) (k1 : SC k24 A x.f3 w) (hz : z.f3 = [x]) :
    Nd z (.agg #[.int .i64 z.f0, .string z.f1, .int .i64 z.f2, .slice (some ⟨w.heap.size, 0, none⟩) 1 1, .int .i64 z.f4]) (w.alloc (.cells (ndCs x A c).toArray 24)) := by
  refine ⟨some ⟨w.heap.size, 0, none⟩, 1, by rw [hz]; rfl, by rw [hz]; exact Nat.le_refl _, ?_⟩
  rw [hz]
  exact SC_one k24 (blk_new _ _) (by decide) (ndK x l1 (k1.below (below_alloc (Below.refl _ _) _))) rfl

theorem endQ_nil {P : Program} {ops : Array Oper} {Q : Exit → Act → World → Prop} {l : List Oper} {R : Nat → Value → World → Prop} {a : Act} {w : World} {i : Nat} (h : wpList P ops Q l a w) : endQ R (fun a' w'' => wpList P ops Q l a' w'') w i [] a := h
/-- A store of a whole value into a box of its own. -/
theorem list_store {P : Program} {ops : Array Oper} {rest : List Oper} {o : Oper} {a : Act} {Q : Exit → Act → World → Prop} {W : World} {t : TypeId} {p x : Operand} {g : Nat} {u : Value} {seg : List Value} {cur : Array Value} {e : TypeId} (hN : o.dst = none) (hgd : o.guard = none) (ho : o.op = .store t p x)
    (haddr : a.eval p = .pointer (some ⟨g, 0, none⟩)) (hx : a.eval x = u) (hh : W.heap[g]? = some (.cells cur e (0, 0))) (hu : u.cells.toList = seg) (ht : (P.info? t).map (·.size) = some seg.length) (hlen : cur.size = seg.length) (h1 : ∀ q ∈ seg, q.oneCell' = true) {n0 : Nat} (hn : n0 ≤ g)
    (h : ∀ w1, w1.heap[g]? = some (.cells seg.toArray e (0, 0)) → Below n0 W w1 → (∀ k, k ≠ g → w1.heap[k]? = W.heap[k]?) → wpList P ops Q rest a w1) : wpList P ops Q (o :: rest) a W := by
  refine wpList_plain hgd fun K hK => ?_
  have hrun : (Instr.storeAt t (.pointer (some ⟨g, 0, none⟩)) u).run P W = .ok () (W.setCells g 0 seg) := run_store_run t u seg hh hu ht (by omega) h1
  unfold Oper.wp execOp
  simp only [ho, haddr, hx, Sem.run_bind, Sem.run_pure, Result.andThen_ok, hrun]
  show K (a.put o.dst undef) _
  rw [hN]
  obtain ⟨s1, s2, s3, s4⟩ := setCells_same g seg 0 W
  obtain ⟨cur', h3, h4, h5⟩ := setCells_row seg 0 W cur hh (by omega)
  refine hK a _ (h _ ?_ ⟨s1, s2, s3, by rw [s4]; exact Nat.le_refl _, fun k hk => setCells_far seg _ k (by omega)⟩ (fun k hk => setCells_far seg _ k hk))
  rw [h3]
  have : cur' = seg.toArray := by
    rw [← Array.toArray_toList (xs := cur'), h5]; simp [← hlen]
  rw [this]
/-- A box that holds the specification of head. -/
def Bs (g : Nat) (w : World) : Prop := ∃ g0 g1 g2 g3, w.heap[g]? = some (.cells #[.slice (some ⟨g0, 0, none⟩) 2 2, .slice (some ⟨g1, 0, none⟩) 1 1, .slice (some ⟨g2, 0, none⟩) 1 1, .slice (some ⟨g3, 0, none⟩) 1 1] 30 (0, 0)) ∧ SC k42 (some ⟨g0, 0, none⟩) xSp.so w ∧ SC k45 (some ⟨g1, 0, none⟩) xSp.fi w ∧ SC k50 (some ⟨g2, 0, none⟩) xSp.pr w ∧ SC k52 (some ⟨g3, 0, none⟩) xSp.fa w
theorem Bs.below {g : Nat} {w w1 : World} (h : Bs g w) (hb : Below w.heap.size w w1) : Bs g w1 := let ⟨g0, g1, g2, g3, e, k0, k1, k2, k3⟩ := h; ⟨g0, g1, g2, g3, blk_below e hb, k0.below hb, k1.below hb, k2.below hb, k3.below hb⟩
theorem op_callE {P : Program} {Q : Exit → Act → World → Prop} {a : Act} {w : World} {o : Oper} {K : Act → World → Prop} {f : FuncId} {args : Array Value} (hrun : (execOp a.eval o).run P w = .ok (.enter f args) w)
    (hc : Calls P f args w fun e w' => ∃ v, e = .returned v ∧ K (a.put o.dst v) w') : o.wp P a w K Q := by
  unfold Oper.wp; rw [hrun]; exact hc.mono fun e w' ⟨v, he, hr⟩ => by subst he; exact hr
/-- What the operations of the sixth statement of head yield. -/
def R6 (n0 : Nat) (i : Nat) (v : Value) (w : World) : Prop := match i with
  | 0 => v = .agg #[.string ⟨#[65]⟩, .bool true]
  | 1 => v = .agg #[.string ⟨#[66]⟩, .bool false]
  | 2 => ∃ g, v = .slice (some ⟨g, 0, none⟩) 2 2 ∧ SC k42 (some ⟨g, 0, none⟩) xSp.so w
  | 3 => ∃ g, v = .slice (some ⟨g, 0, none⟩) 2 2 ∧ SC (Kd.int .i64) (some ⟨g, 0, none⟩) [0, 1] w
  | 4 => ∃ g, v = .agg #[.string ⟨#[102]⟩, .slice (some ⟨g, 0, none⟩) 2 2, .bool true] ∧ SC (Kd.int .i64) (some ⟨g, 0, none⟩) [0, 1] w
  | 5 => ∃ g, v = .slice (some ⟨g, 0, none⟩) 1 1 ∧ SC k45 (some ⟨g, 0, none⟩) xSp.fi w
  | 6 => v = .agg #[.string ⟨#[120]⟩, .int .i64 1]
  | 7 => ∃ g, v = .slice (some ⟨g, 0, none⟩) 1 1 ∧ SC k47 (some ⟨g, 0, none⟩) [⟨⟨#[120]⟩, 1⟩] w
  | 8 => Nd xLess v w
  | 9 => ∃ g A c, v = .agg #[.string ⟨#[112]⟩, .slice (some ⟨g, 0, none⟩) 1 1, .int .i64 xLess.f0, .string xLess.f1, .int .i64 xLess.f2, .slice A xLess.f3.length c, .int .i64 xLess.f4] ∧ SC k47 (some ⟨g, 0, none⟩) [⟨⟨#[120]⟩, 1⟩] w ∧ xLess.f3.length ≤ c ∧ SC k24 A xLess.f3 w
  | 10 => ∃ g, v = .slice (some ⟨g, 0, none⟩) 1 1 ∧ SC k50 (some ⟨g, 0, none⟩) xSp.pr w
  | 11 => Nd xAll v w
  | 12 => Nd (nCall ⟨#[113]⟩) v w
  | 13 => Nd xOne v w
  | 14 => ∃ A c, v = .agg #[.string ⟨#[113]⟩, .int .i64 xOne.f0, .string xOne.f1, .int .i64 xOne.f2, .slice A xOne.f3.length c, .int .i64 xOne.f4] ∧ xOne.f3.length ≤ c ∧ SC k24 A xOne.f3 w
  | 15 => ∃ g, v = .slice (some ⟨g, 0, none⟩) 1 1 ∧ SC k52 (some ⟨g, 0, none⟩) xSp.fa w
  | 16 => ∃ g0 g1 g2 g3, v = .agg #[.slice (some ⟨g0, 0, none⟩) 2 2, .slice (some ⟨g1, 0, none⟩) 1 1, .slice (some ⟨g2, 0, none⟩) 1 1, .slice (some ⟨g3, 0, none⟩) 1 1] ∧ SC k42 (some ⟨g0, 0, none⟩) xSp.so w ∧ SC k45 (some ⟨g1, 0, none⟩) xSp.fi w ∧ SC k50 (some ⟨g2, 0, none⟩) xSp.pr w ∧ SC k52 (some ⟨g3, 0, none⟩) xSp.fa w
  | 17 => ∃ g, v = .pointer (some ⟨g, 0, none⟩) ∧ n0 ≤ g ∧ w.heap[g]? = some (.cells #[.slice none 0 0, .slice none 0 0, .slice none 0 0, .slice none 0 0] 30 (0, 0))
  | _ => True
theorem R6_below (n0 : Nat) : ∀ i v w w', R6 n0 i v w → Below w.heap.size w w' → R6 n0 i v w' := by
  intro i v w w' h hb
  unfold R6 at h ⊢
  split at h
  · exact h
  · exact h
  · obtain ⟨g, e, k⟩ := h; exact ⟨g, e, k.below hb⟩
  · obtain ⟨g, e, k⟩ := h; exact ⟨g, e, k.below hb⟩
  · obtain ⟨g, e, k⟩ := h; exact ⟨g, e, k.below hb⟩
  · obtain ⟨g, e, k⟩ := h; exact ⟨g, e, k.below hb⟩
  · exact h
  · obtain ⟨g, e, k⟩ := h; exact ⟨g, e, k.below hb⟩
  · exact h.below hb
  · obtain ⟨g, A, c, e, k, l, k2⟩ := h; exact ⟨g, A, c, e, k.below hb, l, k2.below hb⟩
  · obtain ⟨g, e, k⟩ := h; exact ⟨g, e, k.below hb⟩
  · exact h.below hb
  · exact h.below hb
  · exact h.below hb
  · obtain ⟨A, c, e, l, k⟩ := h; exact ⟨A, c, e, l, k.below hb⟩
  · obtain ⟨g, e, k⟩ := h; exact ⟨g, e, k.below hb⟩
  · obtain ⟨g0, g1, g2, g3, e, k0, k1, k2, k3⟩ := h; exact ⟨g0, g1, g2, g3, e, k0.below hb, k1.below hb, k2.below hb, k3.below hb⟩
  · obtain ⟨g, e, l, k⟩ := h; exact ⟨g, e, l, blk_below k hb⟩
  · trivial
def sOne : ByteArray := ⟨#[40, 97, 108, 108, 32, 120, 58, 32, 65, 32, 124, 32, 112, 91, 93, 41, 32, 38, 38, 32, 113, 91, 93]⟩
def sTwo : ByteArray := ⟨#[113, 91, 93, 32, 38, 38, 32, 97, 108, 108, 32, 120, 58, 32, 65, 32, 124, 32, 112, 91, 93]⟩
theorem fm_walk (x : S24) (s : ByteArray) (hs : txt x true = s.data.toList) (hn : numOK x) (hne : txt x true ≠ []) (hl : (txt x true).length ≤ most) (w : World) (v : Value) (h : Nd x v w) (ht : Tab w) : Calls Tryd.prog 13 #[v] w fun e w' => e = .returned (.string s) ∧ Below w.heap.size w w' := by
  obtain ⟨cs, rfl, hk⟩ := h.K
  refine (formula_walk x hn w cs hk ht hne hl).mono fun e w' ⟨he, hb⟩ => ⟨?_, hb⟩
  rw [he, hs]
theorem fm_one (w : World) (v : Value) (h : Nd xOne v w) (ht : Tab w) : Calls Tryd.prog 13 #[v] w fun e w' => e = .returned (.string sOne) ∧ Below w.heap.size w w' := fm_walk xOne sOne (by decide +kernel) (by simp [numOK, numsOK, xOne, xAll, nBoth, nCall, nName, ByteArray.size]) (by decide +kernel) (by decide +kernel) w v h ht
theorem fm_two (w : World) (v : Value) (h : Nd xTwo v w) (ht : Tab w) : Calls Tryd.prog 13 #[v] w fun e w' => e = .returned (.string sTwo) ∧ Below w.heap.size w w' := fm_walk xTwo sTwo (by decide +kernel) (by simp [numOK, numsOK, xTwo, xAll, nBoth, nCall, nName, ByteArray.size]) (by decide +kernel) (by decide +kernel) w v h ht
def sNot : ByteArray := ⟨#[110, 111, 116, 32, 40, 116, 114, 117, 101, 32, 38, 38, 32, 102, 97, 108, 115, 101, 41]⟩
theorem fm_sNot (w : World) (v : Value) (h : Nd xNot v w) (ht : Tab w) : Calls Tryd.prog 13 #[v] w fun e w' => e = .returned (.string sNot) ∧ Below w.heap.size w w' := fm_walk xNot sNot (by decide +kernel) (by simp [numOK, numsOK, xNot, xTrue, xFalse, nBoth, nCall, nName, ByteArray.size]) (by decide +kernel) (by decide +kernel) w v h ht
def sDiff : ByteArray := ⟨#[97, 32, 45, 32, 40, 98, 32, 45, 32, 99, 41]⟩
theorem fm_sDiff (w : World) (v : Value) (h : Nd xDiff v w) (ht : Tab w) : Calls Tryd.prog 13 #[v] w fun e w' => e = .returned (.string sDiff) ∧ Below w.heap.size w w' := fm_walk xDiff sDiff (by decide +kernel) (by simp [numOK, numsOK, xDiff, xTrue, xFalse, nBoth, nCall, nName, ByteArray.size]) (by decide +kernel) (by decide +kernel) w v h ht
def sJoin : ByteArray := ⟨#[40, 97, 46, 126, 98, 41, 39]⟩
theorem fm_sJoin (w : World) (v : Value) (h : Nd xJoin v w) (ht : Tab w) : Calls Tryd.prog 13 #[v] w fun e w' => e = .returned (.string sJoin) ∧ Below w.heap.size w w' := fm_walk xJoin sJoin (by decide +kernel) (by simp [numOK, numsOK, xJoin, xTrue, xFalse, nBoth, nCall, nName, ByteArray.size]) (by decide +kernel) (by decide +kernel) w v h ht
def sLess : ByteArray := ⟨#[45, 51, 32, 60, 32, 35, 40, 97, 32, 43, 32, 110, 111, 110, 101, 91, 50, 93, 41]⟩
theorem fm_sLess (w : World) (v : Value) (h : Nd xLess v w) (ht : Tab w) : Calls Tryd.prog 13 #[v] w fun e w' => e = .returned (.string sLess) ∧ Below w.heap.size w w' := fm_walk xLess sLess (by decide +kernel) (by simp [numOK, numsOK, xLess, xTrue, xFalse, nBoth, nCall, nName, ByteArray.size]) (by decide +kernel) (by decide +kernel) w v h ht
theorem sSpec_eq : specT xSp = [115, 111, 114, 116, 32, 65, 32, 111, 114, 100, 101, 114, 101, 100, 59, 10, 115, 111, 114, 116, 32, 66, 59, 10, 118, 97, 114, 32, 102, 105, 101, 108, 100, 32, 102, 58, 32, 65, 32, 45, 62, 32, 66, 59, 10, 112, 114, 101, 100, 32, 112, 91, 120, 58, 32, 66, 93, 32, 123, 32, 45, 51, 32, 60, 32, 35, 40, 97, 32, 43, 32, 110, 111, 110, 101, 91, 50, 93, 41, 32, 125, 10, 102, 97, 99, 116, 32, 113, 32, 123, 32, 40, 97, 108, 108, 32, 120, 58, 32, 65, 32, 124, 32, 112, 91, 93, 41, 32, 38, 38, 32, 113, 91, 93, 32, 125, 10] := by decide +kernel
theorem xSp_ok : SpOK xSp := by
  refine ⟨?_, ?_, ?_, ?_⟩
  · intro f hf i hi
    simp [xSp] at hf; subst hf; simp at hi; omega
  · intro f hf q hq
    simp [xSp] at hf; subst hf; simp at hq; subst hq; simp
  · intro p hp
    simp [xSp] at hp; subst hp
    exact ⟨by simp [numOK, numsOK, xLess, nBoth, nName, ByteArray.size], by decide +kernel⟩
  · intro p hp
    simp [xSp] at hp; subst hp
    exact ⟨by simp [numOK, numsOK, xOne, xAll, nBoth, nCall, nName, ByteArray.size], by decide +kernel⟩
def R7 (i : Nat) (v : Value) (w : World) : Prop := match i with
  | 0 => Nd xAll v w
  | 1 => Nd (nCall ⟨#[113]⟩) v w
  | 2 => Nd xOne v w
  | 3 => v = .string sOne
  | 4 => v = .bool true
  | 5 => v = .bool true
  | 6 => Nd (nCall ⟨#[113]⟩) v w
  | 7 => Nd xAll v w
  | 8 => Nd xTwo v w
  | 9 => v = .string sTwo
  | 10 => v = .bool true
  | 11 => v = .bool true
  | 12 => v = .bool true
  | _ => True
theorem R7_below : ∀ i v w w', R7 i v w → Below w.heap.size w w' → R7 i v w' := by
  intro i v w w' h hb
  unfold R7 at h ⊢
  split at h <;> first | exact h | exact Nd.below h hb
def xAll7 : S24 := ⟨45, ⟨#[120]⟩, 0, [nName ⟨#[65]⟩, nCall ⟨#[112]⟩], 7⟩
theorem xe1 : eqN xAll xAll7 = true := by decide +kernel
theorem xe2 : eqN xAll xNot = false := by decide +kernel
theorem xe3 : eqSpec xSp xSp = true := by decide +kernel
theorem xe4 : eqSpec xSp ⟨[], [], [], []⟩ = false := by decide +kernel
def Sv (v : Value) (w : World) : Prop := ∃ g0 g1 g2 g3, v = .agg #[.slice (some ⟨g0, 0, none⟩) 2 2, .slice (some ⟨g1, 0, none⟩) 1 1, .slice (some ⟨g2, 0, none⟩) 1 1, .slice (some ⟨g3, 0, none⟩) 1 1] ∧ SC k42 (some ⟨g0, 0, none⟩) xSp.so w ∧ SC k45 (some ⟨g1, 0, none⟩) xSp.fi w ∧ SC k50 (some ⟨g2, 0, none⟩) xSp.pr w ∧ SC k52 (some ⟨g3, 0, none⟩) xSp.fa w
theorem Sv.below {v : Value} {w w1 : World} (h : Sv v w) (hb : Below w.heap.size w w1) : Sv v w1 := let ⟨g0, g1, g2, g3, e, k0, k1, k2, k3⟩ := h; ⟨g0, g1, g2, g3, e, k0.below hb, k1.below hb, k2.below hb, k3.below hb⟩
def R10 (i : Nat) (v : Value) (w : World) : Prop := match i with
  | 0 => v = .bool true
  | 1 => v = .bool true
  | 2 => v = .bool true
  | 3 => v = .bool true
  | 4 => v = .bool true
  | 5 => v = .bool true
  | 6 => v = .bool true
  | 7 => v = .bool true
  | 8 => Nd xAll v w
  | 9 => Nd (nName ⟨#[65]⟩) v w
  | 10 => Nd (nCall ⟨#[112]⟩) v w
  | 11 => ∃ g, v = .slice (some ⟨g, 0, none⟩) 2 2 ∧ SC k24 (some ⟨g, 0, none⟩) [nName ⟨#[65]⟩, nCall ⟨#[112]⟩] w
  | 12 => Nd xAll7 v w
  | 13 => v = .bool true
  | 14 => v = .bool true
  | 15 => v = .bool true
  | 16 => Nd xAll v w
  | 17 => Nd xNot v w
  | 18 => v = .bool false
  | 19 => v = .bool true
  | 20 => v = .bool true
  | 21 => v = .bool true
  | 22 => Sv v w
  | 23 => Sv v w
  | 24 => v = .bool true
  | 25 => v = .bool true
  | 26 => v = .bool true
  | 27 => Sv v w
  | 28 => v = .agg #[.slice none 0 0, .slice none 0 0, .slice none 0 0, .slice none 0 0]
  | 29 => v = .bool false
  | 30 => v = .bool true
  | 31 => v = .bool true
  | 32 => v = .bool true
  | _ => True
theorem R10_below : ∀ i v w w', R10 i v w → Below w.heap.size w w' → R10 i v w' := by
  intro i v w w' h hb
  unfold R10 at h ⊢
  split at h <;> first | exact h | exact Nd.below h hb | exact Sv.below h hb | (obtain ⟨g, e, k⟩ := h; exact ⟨g, e, k.below hb⟩)
set_option maxHeartbeats 4000000 in
set_option maxRecDepth 100000 in
theorem head_walk (w : World) (ht : Tab w) : Calls Tryd.prog 5 #[] w fun e w' => e = .returned (.bool true) ∧ Below w.heap.size w w' := by
  have HT := Aside0.mk ht
  have hu24 := Tryd.underlying24
  clear ht
  go_enter Tryd.func5, Tryd.ntmps5
  go_wp2_with fail
  refine (name19_walk _ _).mono ?_
  rintro e w1 ⟨_, rfl, ⟨A1, c1, rfl, l1, k1⟩, hb1⟩
  have K1 := Aside0.mk k1
  have HB1 := Aside0.mk hb1
  clear k1 hb1
  go_wp2_with fail
  refine (call20_walk _ _).mono ?_
  rintro e w2 ⟨_, rfl, ⟨A2, c2, rfl, l2, k2⟩, hb2⟩
  have BX1 := Aside0.mk (Bx_two (z := xAll) l1 l2 (K1.out.below hb2) k2 rfl)
  have HB2 := Aside0.mk (below_step HB1.out hb2)
  clear k2 hb2 K1 HB1
  go_wp2_with fail
  refine (both_walk 41 xTrue xFalse _ _ _ (Nd.leaf xTrue _ rfl) (Nd.leaf xFalse _ rfl)).mono ?_
  rintro e w3 ⟨_, rfl, ⟨A3, c3, rfl, l3, k3⟩, hb3⟩
  have BX1 := Aside0.mk (BX1.out.below hb3)
  have BX2 := Aside0.mk (Bx_one (z := xNot) l3 k3 rfl)
  have HB3 := Aside0.mk (below_step (below_step HB2.out (below_2 _ _ _)) hb3)
  clear k3 hb3 HB2
  go_wp2_with fail
  refine (name19_walk _ _).mono ?_
  rintro e w4 ⟨_, rfl, ⟨A4, c4, rfl, l4, k4⟩, hb4⟩
  have BX1 := Aside0.mk ((BX1.out.below (below_2 _ _ _)).below hb4)
  have BX2 := Aside0.mk (BX2.out.below hb4)
  have HB4 := Aside0.mk (below_step (below_step HB3.out (below_2 _ _ _)) hb4)
  have K4 := Aside0.mk k4
  clear k4 hb4 HB3
  go_wp2_with fail
  refine (name19_walk _ _).mono ?_
  rintro e w5 ⟨_, rfl, ⟨A5, c5, rfl, l5, k5⟩, hb5⟩
  have BX1 := Aside0.mk (BX1.out.below hb5)
  have BX2 := Aside0.mk (BX2.out.below hb5)
  have HB5 := Aside0.mk (below_step HB4.out hb5)
  have K4 := Aside0.mk (K4.out.below hb5)
  have K5 := Aside0.mk k5
  clear k5 hb5 HB4
  go_wp2_with fail
  refine (name19_walk _ _).mono ?_
  rintro e w6 ⟨_, rfl, ⟨A6, c6, rfl, l6, k6⟩, hb6⟩
  have BX1 := Aside0.mk (BX1.out.below hb6)
  have BX2 := Aside0.mk (BX2.out.below hb6)
  have HB6 := Aside0.mk (below_step HB5.out hb6)
  have K4 := Aside0.mk (K4.out.below hb6)
  have K5 := Aside0.mk (K5.out.below hb6)
  have K6 := Aside0.mk k6
  clear k6 hb6 HB5
  go_wp2_with fail
  refine (both_walk 8 (nName ⟨#[98]⟩) (nName ⟨#[99]⟩) _ _ _ ⟨_, _, rfl, l5, K5.out⟩ ⟨_, _, rfl, l6, K6.out⟩).mono ?_
  rintro e w7 ⟨_, rfl, ⟨A7, c7, rfl, l7, k7⟩, hb7⟩
  have BX1 := Aside0.mk (BX1.out.below hb7)
  have BX2 := Aside0.mk (BX2.out.below hb7)
  have HB7 := Aside0.mk (below_step HB6.out hb7)
  have K4 := Aside0.mk (K4.out.below hb7)
  have K7 := Aside0.mk k7
  clear k7 hb7 HB6 K5 K6
  go_wp2_with fail
  refine (both_walk 8 (nName ⟨#[97]⟩) (nBoth 8 (nName ⟨#[98]⟩) (nName ⟨#[99]⟩)) _ _ _ ⟨_, _, rfl, l4, K4.out⟩ ⟨_, _, rfl, l7, K7.out⟩).mono ?_
  rintro e w8 ⟨_, rfl, ⟨A8, c8, rfl, l8, k8⟩, hb8⟩
  have BX1 := Aside0.mk (BX1.out.below hb8)
  have BX2 := Aside0.mk (BX2.out.below hb8)
  have BX3 : Aside0 (Bx xDiff w8.heap.size (w8.alloc (.cells #[.int .i64 xDiff.f0, .string xDiff.f1, .int .i64 xDiff.f2, .slice A8 xDiff.f3.length c8, .int .i64 xDiff.f4] 24))) := ⟨⟨A8, c8, blk_new _ _, l8, k8.below (below_alloc (Below.refl _ _) _)⟩⟩
  have HB8 := Aside0.mk (below_step HB7.out hb8)
  clear k8 hb8 HB7 K4 K7
  go_wp2_with fail
  refine (name19_walk _ _).mono ?_
  rintro e w9 ⟨_, rfl, ⟨A9, c9, rfl, l9, k9⟩, hb9⟩
  have BX1 := Aside0.mk ((BX1.out.below (below_alloc (Below.refl _ _) _)).below hb9)
  have BX2 := Aside0.mk ((BX2.out.below (below_alloc (Below.refl _ _) _)).below hb9)
  have BX3 := Aside0.mk (BX3.out.below hb9)
  have HB9 := Aside0.mk (below_step (below_step HB8.out (below_alloc (Below.refl _ _) _)) hb9)
  have K9 := Aside0.mk k9
  clear k9 hb9 HB8
  go_wp2_with fail
  refine (name19_walk _ _).mono ?_
  rintro e w10 ⟨_, rfl, ⟨A10, c10, rfl, l10, k10⟩, hb10⟩
  have BX1 := Aside0.mk (BX1.out.below hb10)
  have BX2 := Aside0.mk (BX2.out.below hb10)
  have BX3 := Aside0.mk (BX3.out.below hb10)
  have HB10 := Aside0.mk (below_step HB9.out hb10)
  have K9 := Aside0.mk (K9.out.below hb10)
  have N10 := Aside0.mk (Nd_one (z := ⟨11, ⟨#[]⟩, 0, [nName ⟨#[98]⟩], 0⟩) l10 k10 rfl)
  clear k10 hb10 HB9
  go_wp2_with fail
  refine (both_walk 9 (nName ⟨#[97]⟩) ⟨11, ⟨#[]⟩, 0, [nName ⟨#[98]⟩], 0⟩ _ _ _ ⟨_, _, rfl, l9, K9.out.below (below_alloc (Below.refl _ _) _)⟩ N10.out).mono ?_
  rintro e w11 ⟨_, rfl, ⟨A11, c11, rfl, l11, k11⟩, hb11⟩
  have BX1 := Aside0.mk ((BX1.out.below (below_alloc (Below.refl _ _) _)).below hb11)
  have BX2 := Aside0.mk ((BX2.out.below (below_alloc (Below.refl _ _) _)).below hb11)
  have BX3 := Aside0.mk ((BX3.out.below (below_alloc (Below.refl _ _) _)).below hb11)
  have BX4 := Aside0.mk (Bx_one (z := xJoin) l11 k11 rfl)
  have HB11 := Aside0.mk (below_step (below_step HB10.out (below_alloc (Below.refl _ _) _)) hb11)
  clear k11 hb11 HB10 K9 N10
  go_wp2_with fail
  refine (name19_walk _ _).mono ?_
  rintro e w12 ⟨_, rfl, ⟨A12, c12, rfl, l12, k12⟩, hb12⟩
  have BX1 := Aside0.mk ((BX1.out.below (below_2 _ _ _)).below hb12)
  have BX2 := Aside0.mk ((BX2.out.below (below_2 _ _ _)).below hb12)
  have BX3 := Aside0.mk ((BX3.out.below (below_2 _ _ _)).below hb12)
  have BX4 := Aside0.mk (BX4.out.below hb12)
  have HB12 := Aside0.mk (below_step (below_step HB11.out (below_2 _ _ _)) hb12)
  have K12 := Aside0.mk k12
  clear k12 hb12 HB11
  go_wp2_with fail
  refine (both_walk 6 (nName ⟨#[97]⟩) ⟨2, ⟨#[]⟩, 2, [], 0⟩ _ _ _ ⟨_, _, rfl, l12, K12.out⟩ (Nd.leaf ⟨2, ⟨#[]⟩, 2, [], 0⟩ _ rfl)).mono ?_
  rintro e w13 ⟨_, rfl, ⟨A13, c13, rfl, l13, k13⟩, hb13⟩
  have BX1 := Aside0.mk (BX1.out.below hb13)
  have BX2 := Aside0.mk (BX2.out.below hb13)
  have BX3 := Aside0.mk (BX3.out.below hb13)
  have BX4 := Aside0.mk (BX4.out.below hb13)
  have HB13 := Aside0.mk (below_step HB12.out hb13)
  have N13 := Aside0.mk (Nd_one (z := ⟨21, ⟨#[]⟩, 0, [nBoth 6 (nName ⟨#[97]⟩) ⟨2, ⟨#[]⟩, 2, [], 0⟩], 0⟩) l13 k13 rfl)
  clear k13 hb13 HB12 K12
  go_wp2_with fail
  refine (both_walk 39 ⟨20, ⟨#[]⟩, -3, [], 0⟩ ⟨21, ⟨#[]⟩, 0, [nBoth 6 (nName ⟨#[97]⟩) ⟨2, ⟨#[]⟩, 2, [], 0⟩], 0⟩ _ _ _ (Nd.leaf ⟨20, ⟨#[]⟩, -3, [], 0⟩ _ rfl) N13.out).mono ?_
  rintro e w14 ⟨_, rfl, ⟨A14, c14, rfl, l14, k14⟩, hb14⟩
  have BX1 := Aside0.mk ((BX1.out.below (below_alloc (Below.refl _ _) _)).below hb14)
  have BX2 := Aside0.mk ((BX2.out.below (below_alloc (Below.refl _ _) _)).below hb14)
  have BX3 := Aside0.mk ((BX3.out.below (below_alloc (Below.refl _ _) _)).below hb14)
  have BX4 := Aside0.mk ((BX4.out.below (below_alloc (Below.refl _ _) _)).below hb14)
  have BX5 : Aside0 (Bx xLess w14.heap.size (w14.alloc (.cells #[.int .i64 xLess.f0, .string xLess.f1, .int .i64 xLess.f2, .slice A14 xLess.f3.length c14, .int .i64 xLess.f4] 24))) := ⟨⟨A14, c14, blk_new _ _, l14, k14.below (below_alloc (Below.refl _ _) _)⟩⟩
  have HB14 := Aside0.mk (below_step (below_step HB13.out (below_alloc (Below.refl _ _) _)) hb14)
  clear k14 hb14 HB13 N13
  have BX1 := Aside0.mk (BX1.out.below (below_alloc (Below.refl _ _) (.cells #[.int .i64 xLess.f0, .string xLess.f1, .int .i64 xLess.f2, .slice A14 xLess.f3.length c14, .int .i64 xLess.f4] 24)))
  have BX2 := Aside0.mk (BX2.out.below (below_alloc (Below.refl _ _) (.cells #[.int .i64 xLess.f0, .string xLess.f1, .int .i64 xLess.f2, .slice A14 xLess.f3.length c14, .int .i64 xLess.f4] 24)))
  have BX3 := Aside0.mk (BX3.out.below (below_alloc (Below.refl _ _) (.cells #[.int .i64 xLess.f0, .string xLess.f1, .int .i64 xLess.f2, .slice A14 xLess.f3.length c14, .int .i64 xLess.f4] 24)))
  have BX4 := Aside0.mk (BX4.out.below (below_alloc (Below.refl _ _) (.cells #[.int .i64 xLess.f0, .string xLess.f1, .int .i64 xLess.f2, .slice A14 xLess.f3.length c14, .int .i64 xLess.f4] 24)))
  have HB15 := Aside0.mk (below_step HB14.out (below_alloc (Below.refl _ _) (.cells #[.int .i64 xLess.f0, .string xLess.f1, .int .i64 xLess.f2, .slice A14 xLess.f3.length c14, .int .i64 xLess.f4] 24)))
  go_wp2_with fail
  have b1 := BX1.out
  have b5 := BX5.out
  refine wp_grow 18 120 (R6 w14.heap.size) (by kernel_rfl) rfl (by kernel_rfl) (R6_below _) ?_ ?_
  · refine ⟨?_, ?_, ?_, ?_, ?_, ?_, ?_, ?_, ?_, ?_, ?_, ?_, ?_, ?_, ?_, ?_, ?_, ?_, trivial⟩
    · intro a u hu hs
      refine ⟨trivial, op_val (by go_simp; try rfl) ⟨_, rfl, Below.refl _ _, rfl⟩⟩
    · intro a u hu hs
      refine ⟨trivial, op_val (by go_simp; try rfl) ⟨_, rfl, Below.refl _ _, rfl⟩⟩
    · intro a u hu hs h0 h1
      have e38 : a.tmps.getD 38 undef = .agg #[.string ⟨#[65]⟩, .bool true] := h0
      rw [Array.getD_eq_getD_getElem?] at e38
      have e39 : a.tmps.getD 39 undef = .agg #[.string ⟨#[66]⟩, .bool false] := h1
      rw [Array.getD_eq_getD_getElem?] at e39
      refine ⟨trivial, op_val (by go_simp; try rfl) ⟨_, rfl, below_alloc (Below.refl _ _) _, u.heap.size, rfl, ?_⟩⟩
      exact SC_two k42 (c := [.string ⟨#[65]⟩, .bool true]) (e := [.string ⟨#[66]⟩, .bool false]) (t := 42) (blk_new _ _) (by decide) (fun W _ => k42_mk W ⟨⟨#[65]⟩, true⟩) (fun W _ => k42_mk W ⟨⟨#[66]⟩, false⟩) rfl rfl
    · intro a u hu hs
      refine ⟨trivial, op_val (by go_simp; try rfl) ⟨_, rfl, below_alloc (Below.refl _ _) _, u.heap.size, rfl, ?_⟩⟩
      exact SC_two (Kd.int .i64) (c := [.int .i64 0]) (e := [.int .i64 1]) (t := 3) (blk_new _ _) (by decide) (fun W _ => rfl) (fun W _ => rfl) rfl rfl
    · intro a u hu hs h0
      obtain ⟨g, e41, k41⟩ : ∃ g, a.tmps.getD 41 undef = .slice (some ⟨g, 0, none⟩) 2 2 ∧ SC (Kd.int .i64) (some ⟨g, 0, none⟩) [0, 1] u := h0
      rw [Array.getD_eq_getD_getElem?] at e41
      refine ⟨trivial, op_val (by go_simp; try rfl) ⟨_, rfl, Below.refl _ _, g, rfl, k41⟩⟩
    · intro a u hu hs h0
      obtain ⟨g, e42, k42⟩ : ∃ g, a.tmps.getD 42 undef = .agg #[.string ⟨#[102]⟩, .slice (some ⟨g, 0, none⟩) 2 2, .bool true] ∧ SC (Kd.int .i64) (some ⟨g, 0, none⟩) [0, 1] u := h0
      rw [Array.getD_eq_getD_getElem?] at e42
      refine ⟨trivial, op_val (by go_simp; try rfl) ⟨_, rfl, below_alloc (Below.refl _ _) _, u.heap.size, rfl, ?_⟩⟩
      exact SC_one k45 (c := [.string ⟨#[102]⟩, .slice (some ⟨g, 0, none⟩) 2 2, .bool true]) (t := 45) (blk_new _ _) (by decide) (fun W hW => k45_mk W ⟨⟨#[102]⟩, [0, 1], true⟩ (Nat.le_refl _) ((k42.below (below_alloc (Below.refl _ _) _)) W hW)) rfl
    · intro a u hu hs
      refine ⟨trivial, op_val (by go_simp; try rfl) ⟨_, rfl, Below.refl _ _, rfl⟩⟩
    · intro a u hu hs h0
      have e44 : a.tmps.getD 44 undef = .agg #[.string ⟨#[120]⟩, .int .i64 1] := h0
      rw [Array.getD_eq_getD_getElem?] at e44
      refine ⟨trivial, op_val (by go_simp; try rfl) ⟨_, rfl, below_alloc (Below.refl _ _) _, u.heap.size, rfl, ?_⟩⟩
      exact SC_one k47 (c := [.string ⟨#[120]⟩, .int .i64 1]) (t := 47) (blk_new _ _) (by decide) (fun W hW => k47_mk W ⟨⟨#[120]⟩, 1⟩) rfl
    · intro a u hu hs
      have e5 : a.tmps.getD 5 undef = .pointer (some ⟨w14.heap.size, 0, none⟩) := hs 5 (by kernel_rfl)
      rw [Array.getD_eq_getD_getElem?] at e5
      obtain ⟨A, c, hbk, hl, hk⟩ := b5.below hu
      have z0 := blk_cell hbk 0
      have z1 := blk_cell hbk 1
      have z2 := blk_cell hbk 2
      have z3 := blk_cell hbk 3
      have z4 := blk_cell hbk 4
      refine ⟨trivial, op_val (by go_simp; try rfl) ⟨_, rfl, Below.refl _ _, A, c, rfl, hl, hk⟩⟩
    · intro a u hu hs h0 h1
      obtain ⟨g, e45, k45⟩ : ∃ g, a.tmps.getD 45 undef = .slice (some ⟨g, 0, none⟩) 1 1 ∧ SC k47 (some ⟨g, 0, none⟩) [⟨⟨#[120]⟩, 1⟩] u := h0
      rw [Array.getD_eq_getD_getElem?] at e45
      obtain ⟨A, c, e46, hl, hk⟩ : Nd xLess (a.tmps.getD 46 undef) u := h1
      rw [Array.getD_eq_getD_getElem?] at e46
      refine ⟨trivial, op_val (by go_simp; try rfl) ⟨_, rfl, Below.refl _ _, g, A, c, rfl, k45, hl, hk⟩⟩
    · intro a u hu hs h0
      obtain ⟨g, A, c, e47, k47', hl, hk⟩ : R6 w14.heap.size 9 (a.tmps.getD 47 undef) u := h0
      rw [Array.getD_eq_getD_getElem?] at e47
      refine ⟨trivial, op_val (by go_simp; try rfl) ⟨_, rfl, below_alloc (Below.refl _ _) _, u.heap.size, rfl, ?_⟩⟩
      exact SC_one k50 (c := [.string ⟨#[112]⟩, .slice (some ⟨g, 0, none⟩) 1 1, .int .i64 xLess.f0, .string xLess.f1, .int .i64 xLess.f2, .slice A xLess.f3.length c, .int .i64 xLess.f4]) (t := 50) (blk_new _ _) (by decide) (fun W hW => k50_mk W ⟨⟨#[112]⟩, [⟨⟨#[120]⟩, 1⟩], xLess⟩ (Nat.le_refl _) ((k47'.below (below_alloc (Below.refl _ _) _)) W hW) hl ((hk.below (below_alloc (Below.refl _ _) _)) W hW)) rfl
    · intro a u hu hs
      have e1 : a.tmps.getD 1 undef = .pointer (some ⟨w2.heap.size + 1, 0, none⟩) := hs 1 (by kernel_rfl)
      rw [Array.getD_eq_getD_getElem?] at e1
      obtain ⟨A, c, hbk, hl, hk⟩ := b1.below hu
      have z0 := blk_cell hbk 0
      have z1 := blk_cell hbk 1
      have z2 := blk_cell hbk 2
      have z3 := blk_cell hbk 3
      have z4 := blk_cell hbk 4
      refine ⟨trivial, op_val (by go_simp; try rfl) ⟨_, rfl, Below.refl _ _, A, c, rfl, hl, hk⟩⟩
    · intro a u hu hs
      refine ⟨trivial, op_callE (by go_simp; try rfl) ((call20_walk ⟨#[113]⟩ u).mono ?_)⟩
      rintro e w' ⟨v, rfl, hv, hb⟩
      exact ⟨v, rfl, v, rfl, hb, hv⟩
    · intro a u hu hs h0 h1 _
      obtain ⟨A, c, e49, hl, hk⟩ : Nd xAll (a.tmps.getD 49 undef) u := h0
      rw [Array.getD_eq_getD_getElem?] at e49
      obtain ⟨B, d, e50, hl2, hk2⟩ : Nd (nCall ⟨#[113]⟩) (a.tmps.getD 50 undef) u := h1
      rw [Array.getD_eq_getD_getElem?] at e50
      refine ⟨trivial, op_callE (by go_simp; try rfl) ((both_walk 41 xAll (nCall ⟨#[113]⟩) _ _ u ⟨A, c, rfl, hl, hk⟩ ⟨B, d, rfl, hl2, hk2⟩).mono ?_)⟩
      rintro e w' ⟨v, rfl, hv, hb⟩
      exact ⟨v, rfl, v, rfl, hb, hv⟩
    · intro a u hu hs h0
      obtain ⟨A, c, e51, hl, hk⟩ : Nd xOne (a.tmps.getD 51 undef) u := h0
      rw [Array.getD_eq_getD_getElem?] at e51
      refine ⟨trivial, op_val (by go_simp; try rfl) ⟨_, rfl, Below.refl _ _, A, c, rfl, hl, hk⟩⟩
    · intro a u hu hs h0
      obtain ⟨A, c, e52, hl, hk⟩ : R6 w14.heap.size 14 (a.tmps.getD 52 undef) u := h0
      rw [Array.getD_eq_getD_getElem?] at e52
      refine ⟨trivial, op_val (by go_simp; try rfl) ⟨_, rfl, below_alloc (Below.refl _ _) _, u.heap.size, rfl, ?_⟩⟩
      exact SC_one k52 (c := [.string ⟨#[113]⟩, .int .i64 xOne.f0, .string xOne.f1, .int .i64 xOne.f2, .slice A xOne.f3.length c, .int .i64 xOne.f4]) (t := 52) (blk_new _ _) (by decide) (fun W hW => k52_mk W ⟨⟨#[113]⟩, xOne⟩ hl ((hk.below (below_alloc (Below.refl _ _) _)) W hW)) rfl
    · intro a u hu hs h0 h1 h2 h3
      obtain ⟨g0, e40, k0⟩ : R6 w14.heap.size 2 (a.tmps.getD 40 undef) u := h0
      rw [Array.getD_eq_getD_getElem?] at e40
      obtain ⟨g1, e43, k1⟩ : R6 w14.heap.size 5 (a.tmps.getD 43 undef) u := h1
      rw [Array.getD_eq_getD_getElem?] at e43
      obtain ⟨g2, e48, k2⟩ : R6 w14.heap.size 10 (a.tmps.getD 48 undef) u := h2
      rw [Array.getD_eq_getD_getElem?] at e48
      obtain ⟨g3, e53, k3⟩ : R6 w14.heap.size 15 (a.tmps.getD 53 undef) u := h3
      rw [Array.getD_eq_getD_getElem?] at e53
      refine ⟨trivial, op_val (by go_simp; try rfl) ⟨_, rfl, Below.refl _ _, g0, g1, g2, g3, rfl, k0, k1, k2, k3⟩⟩
    · intro a u hu hs
      refine ⟨trivial, op_val (by go_simp; try rfl) ⟨_, rfl, below_alloc (Below.refl _ _) _, u.heap.size, rfl, by have := hu.size; simp at this; omega, blk_new _ _⟩⟩
  · clear b1 b5
    intro w15 hw15 v0 h0 v1 h1 v2 h2 v3 h3 v4 h4 v5 h5 v6 h6 v7 h7 v8 h8 v9 h9 v10 h10 v11 h11 v12 h12 v13 h13 v14 h14 v15 h15 v16 h16 v17 h17
    obtain ⟨g0, g1, g2, g3, rfl, k0, k1, k2, k3⟩ : R6 w14.heap.size 16 v16 w15 := h16
    obtain ⟨g, rfl, hge, hbk⟩ : R6 w14.heap.size 17 v17 w15 := h17
    clear h0 h1 h2 h3 h4 h5 h6 h7 h8 h9 h10 h11 h12 h13 h14 h15
    have BX1 := Aside0.mk (BX1.out.below hw15)
    have BX2 := Aside0.mk (BX2.out.below hw15)
    have BX3 := Aside0.mk (BX3.out.below hw15)
    have BX4 := Aside0.mk (BX4.out.below hw15)
    have BX5 := Aside0.mk (BX5.out.below hw15)
    have HB16 := Aside0.mk (below_step HB15.out hw15)
    have C0 := Aside0.mk k0
    have C1 := Aside0.mk k1
    have C2 := Aside0.mk k2
    have C3 := Aside0.mk k3
    have HK := Aside0.mk hbk
    have hu30 := Tryd.underlying30
    clear hw15 HB15 k0 k1 k2 k3
    refine endQ_nil ?_
    simp only [Act.put, List.setIfInBounds_toArray, List.set_cons_zero, List.set_cons_succ, List.drop_succ_cons, List.drop_zero]
    refine list_store (g := g) (u := .agg #[.slice (some ⟨g0, 0, none⟩) 2 2, .slice (some ⟨g1, 0, none⟩) 1 1, .slice (some ⟨g2, 0, none⟩) 1 1, .slice (some ⟨g3, 0, none⟩) 1 1]) (seg := [.slice (some ⟨g0, 0, none⟩) 2 2, .slice (some ⟨g1, 0, none⟩) 1 1, .slice (some ⟨g2, 0, none⟩) 1 1, .slice (some ⟨g3, 0, none⟩) 1 1]) rfl rfl rfl rfl rfl HK.out rfl (by kernel_rfl) rfl (by simp [Value.oneCell']) (n0 := w.heap.size) (by have := HB14.out.size; omega) ?_
    intro w16 hs1 hs2 hs3
    have hkt : KeepT w15 w16 := fun k cs t fr ht hk => by
      by_cases hkg : k = g
      · subst hkg; rw [HK.out] at hk; injection hk with hk; injection hk with _ hk _; exact absurd hk.symm ht
      · rw [hs3 k hkg]; exact hk
    have BX1 := Aside0.mk (BX1.out.keep hkt)
    have BX2 := Aside0.mk (BX2.out.keep hkt)
    have BX3 := Aside0.mk (BX3.out.keep hkt)
    have BX4 := Aside0.mk (BX4.out.keep hkt)
    have BX5 := Aside0.mk (BX5.out.keep hkt)
    have BX6 : Aside0 (Bs g w16) := ⟨⟨g0, g1, g2, g3, hs1, C0.out.keep hkt, C1.out.keep hkt, C2.out.keep hkt, C3.out.keep hkt⟩⟩
    have HB17 := Aside0.mk (HB16.out.trans hs2)
    clear hs1 hs2 hs3 hkt HK C0 C1 C2 C3 HB16 hge HB14
    go_wp2_with fail
    have b1 := BX1.out
    refine wp_grow 13 120 R7 (by kernel_rfl) rfl (by kernel_rfl) R7_below ?_ ?_
    · refine ⟨?_, ?_, ?_, ?_, ?_, ?_, ?_, ?_, ?_, ?_, ?_, ?_, ?_, trivial⟩
      · intro a u hu hs
        have e1 : a.tmps.getD 1 undef = .pointer (some ⟨w2.heap.size + 1, 0, none⟩) := hs 1 (by kernel_rfl)
        rw [Array.getD_eq_getD_getElem?] at e1
        obtain ⟨A, c, hbk, hl, hk⟩ := b1.below hu
        have z0 := blk_cell hbk 0
        have z1 := blk_cell hbk 1
        have z2 := blk_cell hbk 2
        have z3 := blk_cell hbk 3
        have z4 := blk_cell hbk 4
        refine ⟨trivial, op_val (by go_simp; try rfl) ⟨_, rfl, Below.refl _ _, A, c, rfl, hl, hk⟩⟩
      · intro a u hu hs
        refine ⟨trivial, op_callE (by go_simp; try rfl) ((call20_walk ⟨#[113]⟩ u).mono ?_)⟩
        rintro e w' ⟨v, rfl, hv, hb⟩
        exact ⟨v, rfl, v, rfl, hb, hv⟩
      · intro a u hu hs h0 h1 _
        obtain ⟨A, c, ex, hl, hk⟩ : Nd xAll (a.tmps.getD 55 undef) u := h0
        obtain ⟨B, d, ey, hl2, hk2⟩ : Nd (nCall ⟨#[113]⟩) (a.tmps.getD 56 undef) u := h1
        rw [Array.getD_eq_getD_getElem?] at ex ey
        refine ⟨trivial, op_callE (by go_simp; try rfl) ((both_walk 41 xAll (nCall ⟨#[113]⟩) _ _ u ⟨A, c, rfl, hl, hk⟩ ⟨B, d, rfl, hl2, hk2⟩).mono ?_)⟩
        rintro e w' ⟨v, rfl, hv, hb⟩
        exact ⟨v, rfl, v, rfl, hb, hv⟩
      · intro a u hu hs h0 _
        have hN : Nd xOne (a.tmps.getD 57 undef) u := h0
        obtain ⟨A, c, ex, hl, hk⟩ := hN
        rw [Array.getD_eq_getD_getElem?] at ex
        refine ⟨trivial, op_callE (by go_simp; try rfl) ((fm_one u _ ⟨A, c, rfl, hl, hk⟩ (HT.out.below (below_step HB17.out hu))).mono ?_)⟩
        rintro e w' ⟨rfl, hb⟩
        exact ⟨_, rfl, _, rfl, hb, rfl⟩
      · intro a u hu hs h0
        have ex : a.tmps.getD 58 undef = .string sOne := h0
        rw [Array.getD_eq_getD_getElem?] at ex
        unfold sOne at ex
        refine ⟨trivial, op_val (by go_simp; try rfl) ⟨_, rfl, Below.refl _ _, rfl⟩⟩
      · intro a u hu hs h0 _
        have ex : a.tmps.getD 59 undef = .bool true := h0
        rw [Array.getD_eq_getD_getElem?] at ex
        refine ⟨trivial, op_val (by go_simp; try rfl) ⟨_, rfl, Below.refl _ _, rfl⟩⟩
      · intro a u hu hs h5 _
        refine ⟨⟨60, rfl, h5⟩, op_callE (by go_simp; try rfl) ((call20_walk ⟨#[113]⟩ u).mono ?_)⟩
        rintro e w' ⟨v, rfl, hv, hb⟩
        exact ⟨v, rfl, v, rfl, hb, hv⟩
      · intro a u hu hs h5
        have e1 : a.tmps.getD 1 undef = .pointer (some ⟨w2.heap.size + 1, 0, none⟩) := hs 1 (by kernel_rfl)
        rw [Array.getD_eq_getD_getElem?] at e1
        obtain ⟨A, c, hbk, hl, hk⟩ := b1.below hu
        have z0 := blk_cell hbk 0
        have z1 := blk_cell hbk 1
        have z2 := blk_cell hbk 2
        have z3 := blk_cell hbk 3
        have z4 := blk_cell hbk 4
        refine ⟨⟨60, rfl, h5⟩, op_val (by go_simp; try rfl) ⟨_, rfl, Below.refl _ _, A, c, rfl, hl, hk⟩⟩
      · intro a u hu hs h0 h1 _ h5
        obtain ⟨A, c, ex, hl, hk⟩ : Nd (nCall ⟨#[113]⟩) (a.tmps.getD 61 undef) u := h0
        obtain ⟨B, d, ey, hl2, hk2⟩ : Nd xAll (a.tmps.getD 62 undef) u := h1
        rw [Array.getD_eq_getD_getElem?] at ex ey
        refine ⟨⟨60, rfl, h5⟩, op_callE (by go_simp; try rfl) ((both_walk 41 (nCall ⟨#[113]⟩) xAll _ _ u ⟨A, c, rfl, hl, hk⟩ ⟨B, d, rfl, hl2, hk2⟩).mono ?_)⟩
        rintro e w' ⟨v, rfl, hv, hb⟩
        exact ⟨v, rfl, v, rfl, hb, hv⟩
      · intro a u hu hs h0 _ h5
        have hN : Nd xTwo (a.tmps.getD 63 undef) u := h0
        obtain ⟨A, c, ex, hl, hk⟩ := hN
        rw [Array.getD_eq_getD_getElem?] at ex
        refine ⟨⟨60, rfl, h5⟩, op_callE (by go_simp; try rfl) ((fm_two u _ ⟨A, c, rfl, hl, hk⟩ (HT.out.below (below_step HB17.out hu))).mono ?_)⟩
        rintro e w' ⟨rfl, hb⟩
        exact ⟨_, rfl, _, rfl, hb, rfl⟩
      · intro a u hu hs h0 h5
        have ex : a.tmps.getD 64 undef = .string sTwo := h0
        rw [Array.getD_eq_getD_getElem?] at ex
        unfold sTwo at ex
        refine ⟨⟨60, rfl, h5⟩, op_val (by go_simp; try rfl) ⟨_, rfl, Below.refl _ _, rfl⟩⟩
      · intro a u hu hs h0 h1
        have ex : a.tmps.getD 60 undef = .bool true := h0
        have ey : a.tmps.getD 65 undef = .bool true := h1
        rw [Array.getD_eq_getD_getElem?] at ex ey
        refine ⟨trivial, op_val (by go_simp; try rfl) ⟨_, rfl, Below.refl _ _, rfl⟩⟩
      · intro a u hu hs h0 _ _ _ _ _ _ _ _ _ _ _ _ _
        have ex : a.tmps.getD 66 undef = .bool true := h0
        rw [Array.getD_eq_getD_getElem?] at ex
        refine ⟨trivial, op_val (by go_simp; try rfl) ⟨_, rfl, Below.refl _ _, rfl⟩⟩
    clear b1
    intro w18 hw18 v0 h0 v1 h1 v2 h2 v3 h3 v4 h4 v5 h5 v6 h6 v7 h7 v8 h8 v9 h9 v10 h10 v11 h11 v12 h12
    obtain rfl : v12 = .bool true := h12
    clear h0 h1 h2 h3 h4 h5 h6 h7 h8 h9 h10 h11
    have BX1 := Aside0.mk (BX1.out.below hw18)
    have BX2 := Aside0.mk (BX2.out.below hw18)
    have BX3 := Aside0.mk (BX3.out.below hw18)
    have BX4 := Aside0.mk (BX4.out.below hw18)
    have BX5 := Aside0.mk (BX5.out.below hw18)
    have BX6 := Aside0.mk (BX6.out.below hw18)
    have HB18 := Aside0.mk (below_step HB17.out hw18)
    clear hw18 HB17
    refine endQ_nil ?_
    simp only [Act.put, List.setIfInBounds_toArray, List.set_cons_zero, List.set_cons_succ, List.drop_succ_cons, List.drop_zero]
    obtain ⟨AA2, cc2, hbk2, hl2, hk2⟩ := BX2.out
    have HK2 := Aside0.mk hk2
    have z0 := blk_cell hbk2 0
    have z1 := blk_cell hbk2 1
    have z2 := blk_cell hbk2 2
    have z3 := blk_cell hbk2 3
    have z4 := blk_cell hbk2 4
    clear hk2 hbk2
    go_wp2_with fail
    refine (fm_sNot _ _ ⟨AA2, cc2, rfl, hl2, HK2.out⟩ (HT.out.below HB18.out)).mono ?_
    rintro e v2 ⟨rfl, hb⟩
    have hb' := hb
    replace HB18 := Aside0.mk (below_step HB18.out hb')
    clear hb' z0 z1 z2 z3 z4 HK2 hl2
    replace BX1 := Aside0.mk (BX1.out.below hb)
    replace BX2 := Aside0.mk (BX2.out.below hb)
    replace BX3 := Aside0.mk (BX3.out.below hb)
    replace BX4 := Aside0.mk (BX4.out.below hb)
    replace BX5 := Aside0.mk (BX5.out.below hb)
    replace BX6 := Aside0.mk (BX6.out.below hb)
    clear hb
    unfold sNot
    obtain ⟨AA3, cc3, hbk3, hl3, hk3⟩ := BX3.out
    have HK3 := Aside0.mk hk3
    have z0 := blk_cell hbk3 0
    have z1 := blk_cell hbk3 1
    have z2 := blk_cell hbk3 2
    have z3 := blk_cell hbk3 3
    have z4 := blk_cell hbk3 4
    clear hk3 hbk3
    go_wp2_with fail
    refine (fm_sDiff _ _ ⟨AA3, cc3, rfl, hl3, HK3.out⟩ (HT.out.below HB18.out)).mono ?_
    rintro e v3 ⟨rfl, hb⟩
    have hb' := hb
    replace HB18 := Aside0.mk (below_step HB18.out hb')
    clear hb' z0 z1 z2 z3 z4 HK3 hl3
    replace BX1 := Aside0.mk (BX1.out.below hb)
    replace BX2 := Aside0.mk (BX2.out.below hb)
    replace BX3 := Aside0.mk (BX3.out.below hb)
    replace BX4 := Aside0.mk (BX4.out.below hb)
    replace BX5 := Aside0.mk (BX5.out.below hb)
    replace BX6 := Aside0.mk (BX6.out.below hb)
    clear hb
    unfold sDiff
    obtain ⟨AA4, cc4, hbk4, hl4, hk4⟩ := BX4.out
    have HK4 := Aside0.mk hk4
    have z0 := blk_cell hbk4 0
    have z1 := blk_cell hbk4 1
    have z2 := blk_cell hbk4 2
    have z3 := blk_cell hbk4 3
    have z4 := blk_cell hbk4 4
    clear hk4 hbk4
    go_wp2_with fail
    refine (fm_sJoin _ _ ⟨AA4, cc4, rfl, hl4, HK4.out⟩ (HT.out.below HB18.out)).mono ?_
    rintro e v4 ⟨rfl, hb⟩
    have hb' := hb
    replace HB18 := Aside0.mk (below_step HB18.out hb')
    clear hb' z0 z1 z2 z3 z4 HK4 hl4
    replace BX1 := Aside0.mk (BX1.out.below hb)
    replace BX2 := Aside0.mk (BX2.out.below hb)
    replace BX3 := Aside0.mk (BX3.out.below hb)
    replace BX4 := Aside0.mk (BX4.out.below hb)
    replace BX5 := Aside0.mk (BX5.out.below hb)
    replace BX6 := Aside0.mk (BX6.out.below hb)
    clear hb
    unfold sJoin
    obtain ⟨AA5, cc5, hbk5, hl5, hk5⟩ := BX5.out
    have HK5 := Aside0.mk hk5
    have z0 := blk_cell hbk5 0
    have z1 := blk_cell hbk5 1
    have z2 := blk_cell hbk5 2
    have z3 := blk_cell hbk5 3
    have z4 := blk_cell hbk5 4
    clear hk5 hbk5
    go_wp2_with fail
    refine (fm_sLess _ _ ⟨AA5, cc5, rfl, hl5, HK5.out⟩ (HT.out.below HB18.out)).mono ?_
    rintro e v5 ⟨rfl, hb⟩
    have hb' := hb
    replace HB18 := Aside0.mk (below_step HB18.out hb')
    clear hb' z0 z1 z2 z3 z4 HK5 hl5
    replace BX1 := Aside0.mk (BX1.out.below hb)
    replace BX2 := Aside0.mk (BX2.out.below hb)
    replace BX3 := Aside0.mk (BX3.out.below hb)
    replace BX4 := Aside0.mk (BX4.out.below hb)
    replace BX5 := Aside0.mk (BX5.out.below hb)
    replace BX6 := Aside0.mk (BX6.out.below hb)
    clear hb
    unfold sLess
    obtain ⟨g0, g1, g2, g3, hbk6, k0, k1, k2, k3⟩ := BX6.out
    have HS6 : Aside0 (SpK _ xSp [.slice (some ⟨g0, 0, none⟩) 2 2, .slice (some ⟨g1, 0, none⟩) 1 1, .slice (some ⟨g2, 0, none⟩) 1 1, .slice (some ⟨g3, 0, none⟩) 1 1]) := ⟨⟨some ⟨g0, 0, none⟩, some ⟨g1, 0, none⟩, some ⟨g2, 0, none⟩, some ⟨g3, 0, none⟩, 2, 1, 1, 1, rfl, k0.now, k1.now, k2.now, k3.now⟩⟩
    have z0 := blk_cell hbk6 0
    have z1 := blk_cell hbk6 1
    have z2 := blk_cell hbk6 2
    have z3 := blk_cell hbk6 3
    clear k0 k1 k2 k3 hbk6
    go_wp2_with fail
    refine (spec_walk xSp xSp_ok _ _ HS6.out (HT.out.below HB18.out) (by decide +kernel)).mono ?_
    rintro e v9 ⟨rfl, hb⟩
    replace HB18 := Aside0.mk (below_step HB18.out hb)
    clear z0 z1 z2 z3 HS6
    replace BX1 := Aside0.mk (BX1.out.below hb)
    replace BX2 := Aside0.mk (BX2.out.below hb)
    replace BX6 := Aside0.mk (BX6.out.below hb)
    clear hb BX3 BX4 BX5
    rw [sSpec_eq]
    go_wp2_with fail
    have b1 := BX1.out
    have b2 := BX2.out
    have b6 := BX6.out
    refine wp_grow 33 120 R10 (by kernel_rfl) rfl (by kernel_rfl) R10_below ?_ ?_
    · refine ⟨?_, ?_, ?_, ?_, ?_, ?_, ?_, ?_, ?_, ?_, ?_, ?_, ?_, ?_, ?_, ?_, ?_, ?_, ?_, ?_, ?_, ?_, ?_, ?_, ?_, ?_, ?_, ?_, ?_, ?_, ?_, ?_, ?_, trivial⟩
      · intro a u hu hs 
        have ex0 : a.tmps.getD 7 undef = .bool true := hs 7 (by kernel_rfl)
        rw [Array.getD_eq_getD_getElem?] at ex0
        refine ⟨trivial, op_val (by go_simp; try rfl) ⟨_, rfl, Below.refl _ _, rfl⟩⟩
      · intro a u hu hs h0
        have ex0 : a.tmps.getD 88 undef = .bool true := h0
        rw [Array.getD_eq_getD_getElem?] at ex0
        refine ⟨trivial, op_val (by go_simp; try rfl) ⟨_, rfl, Below.refl _ _, rfl⟩⟩
      · intro a u hu hs h0
        have ex0 : a.tmps.getD 8 undef = .bool true := hs 8 (by kernel_rfl)
        rw [Array.getD_eq_getD_getElem?] at ex0
        refine ⟨⟨89, rfl, h0⟩, op_val (by go_simp; try rfl) ⟨_, rfl, Below.refl _ _, rfl⟩⟩
      · intro a u hu hs h0 h1
        have ex0 : a.tmps.getD 89 undef = .bool true := h0
        rw [Array.getD_eq_getD_getElem?] at ex0
        have ex1 : a.tmps.getD 90 undef = .bool true := h1
        rw [Array.getD_eq_getD_getElem?] at ex1
        refine ⟨trivial, op_val (by go_simp; try rfl) ⟨_, rfl, Below.refl _ _, rfl⟩⟩
      · intro a u hu hs h0 _
        have ex0 : a.tmps.getD 91 undef = .bool true := h0
        rw [Array.getD_eq_getD_getElem?] at ex0
        refine ⟨trivial, op_val (by go_simp; try rfl) ⟨_, rfl, Below.refl _ _, rfl⟩⟩
      · intro a u hu hs h0
        have ex0 : a.tmps.getD 9 undef = .bool true := hs 9 (by kernel_rfl)
        rw [Array.getD_eq_getD_getElem?] at ex0
        refine ⟨⟨92, rfl, h0⟩, op_val (by go_simp; try rfl) ⟨_, rfl, Below.refl _ _, rfl⟩⟩
      · intro a u hu hs h0 h1
        have ex0 : a.tmps.getD 92 undef = .bool true := h0
        rw [Array.getD_eq_getD_getElem?] at ex0
        have ex1 : a.tmps.getD 93 undef = .bool true := h1
        rw [Array.getD_eq_getD_getElem?] at ex1
        refine ⟨trivial, op_val (by go_simp; try rfl) ⟨_, rfl, Below.refl _ _, rfl⟩⟩
      · intro a u hu hs h0 _
        have ex0 : a.tmps.getD 94 undef = .bool true := h0
        rw [Array.getD_eq_getD_getElem?] at ex0
        refine ⟨trivial, op_val (by go_simp; try rfl) ⟨_, rfl, Below.refl _ _, rfl⟩⟩
      · intro a u hu hs h0
        have e1 : a.tmps.getD 1 undef = .pointer (some ⟨w2.heap.size + 1, 0, none⟩) := hs 1 (by kernel_rfl)
        rw [Array.getD_eq_getD_getElem?] at e1
        obtain ⟨A, c, hbk, hl, hk⟩ := b1.below hu
        have z0 := blk_cell hbk 0
        have z1 := blk_cell hbk 1
        have z2 := blk_cell hbk 2
        have z3 := blk_cell hbk 3
        have z4 := blk_cell hbk 4
        refine ⟨⟨95, rfl, h0⟩, op_val (by go_simp; try rfl) ⟨_, rfl, Below.refl _ _, A, c, rfl, hl, hk⟩⟩
      · intro a u hu hs h7 _
        refine ⟨⟨95, rfl, h7⟩, op_callE (by go_simp; try rfl) ((name19_walk ⟨#[65]⟩ u).mono ?_)⟩
        rintro e w' ⟨v, rfl, hv, hb⟩
        exact ⟨v, rfl, v, rfl, hb, hv⟩
      · intro a u hu hs _ h7
        refine ⟨⟨95, rfl, h7⟩, op_callE (by go_simp; try rfl) ((call20_walk ⟨#[112]⟩ u).mono ?_)⟩
        rintro e w' ⟨v, rfl, hv, hb⟩
        exact ⟨v, rfl, v, rfl, hb, hv⟩
      · intro a u hu hs h0 h1 h7
        obtain ⟨A, c, ex, hl, hk⟩ : Nd (nName ⟨#[65]⟩) (a.tmps.getD 97 undef) u := h0
        obtain ⟨B, d, ey, hl2, hk2⟩ : Nd (nCall ⟨#[112]⟩) (a.tmps.getD 98 undef) u := h1
        rw [Array.getD_eq_getD_getElem?] at ex ey
        refine ⟨⟨95, rfl, h7⟩, op_val (by go_simp; try rfl) ⟨_, rfl, below_alloc (Below.refl _ _) _, u.heap.size, rfl, ?_⟩⟩
        exact SC_two k24 (c := ndCs (nName ⟨#[65]⟩) A c) (e := ndCs (nCall ⟨#[112]⟩) B d) (blk_new _ _) (by decide) (ndK _ hl (hk.below (below_alloc (Below.refl _ _) _))) (ndK _ hl2 (hk2.below (below_alloc (Below.refl _ _) _))) rfl rfl
      · intro a u hu hs h0 h7
        obtain ⟨g', ex, hk⟩ : R10 11 (a.tmps.getD 99 undef) u := h0
        rw [Array.getD_eq_getD_getElem?] at ex
        refine ⟨⟨95, rfl, h7⟩, op_val (by go_simp; exact ⟨rfl, rfl, rfl, rfl, rfl⟩) ⟨_, rfl, Below.refl _ _, some ⟨g', 0, none⟩, 2, rfl, Nat.le_refl _, hk⟩⟩
      · intro a u hu hs h0 h1 _ h7
        obtain ⟨A, c, ex, hl, hk⟩ : Nd xAll (a.tmps.getD 96 undef) u := h0
        obtain ⟨B, d, ey, hl2, hk2⟩ : Nd xAll7 (a.tmps.getD 100 undef) u := h1
        rw [Array.getD_eq_getD_getElem?] at ex ey
        refine ⟨⟨95, rfl, h7⟩, op_callE (by go_simp; exact ⟨rfl, rfl⟩) ((eqN_walk _ xAll xAll7 _ (ndCs xAll A c) (ndCs xAll7 B d) (Nat.lt_succ_self _) (k24_mk _ _ hl hk.now) (k24_mk _ _ hl2 hk2.now)).mono ?_)⟩
        rintro e w' ⟨rfl, hb⟩
        exact ⟨_, rfl, _, rfl, hb, by rw [xe1]; rfl⟩
      · intro a u hu hs h0 h1
        have ex0 : a.tmps.getD 95 undef = .bool true := h0
        rw [Array.getD_eq_getD_getElem?] at ex0
        have ex1 : a.tmps.getD 101 undef = .bool true := h1
        rw [Array.getD_eq_getD_getElem?] at ex1
        refine ⟨trivial, op_val (by go_simp; try rfl) ⟨_, rfl, Below.refl _ _, rfl⟩⟩
      · intro a u hu hs h0 _
        have ex0 : a.tmps.getD 102 undef = .bool true := h0
        rw [Array.getD_eq_getD_getElem?] at ex0
        refine ⟨trivial, op_val (by go_simp; try rfl) ⟨_, rfl, Below.refl _ _, rfl⟩⟩
      · intro a u hu hs h0
        have e1 : a.tmps.getD 1 undef = .pointer (some ⟨w2.heap.size + 1, 0, none⟩) := hs 1 (by kernel_rfl)
        rw [Array.getD_eq_getD_getElem?] at e1
        obtain ⟨A, c, hbk, hl, hk⟩ := b1.below hu
        have z0 := blk_cell hbk 0
        have z1 := blk_cell hbk 1
        have z2 := blk_cell hbk 2
        have z3 := blk_cell hbk 3
        have z4 := blk_cell hbk 4
        refine ⟨⟨103, rfl, h0⟩, op_val (by go_simp; try rfl) ⟨_, rfl, Below.refl _ _, A, c, rfl, hl, hk⟩⟩
      · intro a u hu hs h0
        have e1 : a.tmps.getD 2 undef = .pointer (some ⟨w3.heap.size + 1, 0, none⟩) := hs 2 (by kernel_rfl)
        rw [Array.getD_eq_getD_getElem?] at e1
        obtain ⟨A, c, hbk, hl, hk⟩ := b2.below hu
        have z0 := blk_cell hbk 0
        have z1 := blk_cell hbk 1
        have z2 := blk_cell hbk 2
        have z3 := blk_cell hbk 3
        have z4 := blk_cell hbk 4
        refine ⟨⟨103, rfl, h0⟩, op_val (by go_simp; try rfl) ⟨_, rfl, Below.refl _ _, A, c, rfl, hl, hk⟩⟩
      · intro a u hu hs h0 h1 _ h7
        obtain ⟨A, c, ex, hl, hk⟩ : Nd xAll (a.tmps.getD 104 undef) u := h0
        obtain ⟨B, d, ey, hl2, hk2⟩ : Nd xNot (a.tmps.getD 105 undef) u := h1
        rw [Array.getD_eq_getD_getElem?] at ex ey
        refine ⟨⟨103, rfl, h7⟩, op_callE (by go_simp; exact ⟨rfl, rfl⟩) ((eqN_walk _ xAll xNot _ (ndCs xAll A c) (ndCs xNot B d) (Nat.lt_succ_self _) (k24_mk _ _ hl hk.now) (k24_mk _ _ hl2 hk2.now)).mono ?_)⟩
        rintro e w' ⟨rfl, hb⟩
        exact ⟨_, rfl, _, rfl, hb, by rw [xe2]; rfl⟩
      · intro a u hu hs h0 h1
        have ex0 : a.tmps.getD 106 undef = .bool false := h0
        rw [Array.getD_eq_getD_getElem?] at ex0
        refine ⟨⟨103, rfl, h1⟩, op_val (by go_simp; try rfl) ⟨_, rfl, Below.refl _ _, rfl⟩⟩
      · intro a u hu hs h0 h1
        have ex0 : a.tmps.getD 103 undef = .bool true := h0
        rw [Array.getD_eq_getD_getElem?] at ex0
        have ex1 : a.tmps.getD 107 undef = .bool true := h1
        rw [Array.getD_eq_getD_getElem?] at ex1
        refine ⟨trivial, op_val (by go_simp; try rfl) ⟨_, rfl, Below.refl _ _, rfl⟩⟩
      · intro a u hu hs h0 _
        have ex0 : a.tmps.getD 108 undef = .bool true := h0
        rw [Array.getD_eq_getD_getElem?] at ex0
        refine ⟨trivial, op_val (by go_simp; try rfl) ⟨_, rfl, Below.refl _ _, rfl⟩⟩
      · intro a u hu hs h0
        have e1 : a.tmps.getD 6 undef = .pointer (some ⟨g, 0, none⟩) := hs 6 (by kernel_rfl)
        rw [Array.getD_eq_getD_getElem?] at e1
        obtain ⟨g0, g1, g2, g3, hbk, k0, k1, k2, k3⟩ := b6.below hu
        have z0 := blk_cell hbk 0
        have z1 := blk_cell hbk 1
        have z2 := blk_cell hbk 2
        have z3 := blk_cell hbk 3
        refine ⟨⟨109, rfl, h0⟩, op_val (by go_simp; try rfl) ⟨_, rfl, Below.refl _ _, g0, g1, g2, g3, rfl, k0, k1, k2, k3⟩⟩
      · intro a u hu hs h0
        have e1 : a.tmps.getD 6 undef = .pointer (some ⟨g, 0, none⟩) := hs 6 (by kernel_rfl)
        rw [Array.getD_eq_getD_getElem?] at e1
        obtain ⟨g0, g1, g2, g3, hbk, k0, k1, k2, k3⟩ := b6.below hu
        have z0 := blk_cell hbk 0
        have z1 := blk_cell hbk 1
        have z2 := blk_cell hbk 2
        have z3 := blk_cell hbk 3
        refine ⟨⟨109, rfl, h0⟩, op_val (by go_simp; try rfl) ⟨_, rfl, Below.refl _ _, g0, g1, g2, g3, rfl, k0, k1, k2, k3⟩⟩
      · intro a u hu hs h0 h1 _ h7
        obtain ⟨g0, g1, g2, g3, ex, k0, k1, k2, k3⟩ : R10 22 (a.tmps.getD 110 undef) u := h0
        obtain ⟨p0, p1, p2, p3, ey, q0, q1, q2, q3⟩ : R10 23 (a.tmps.getD 111 undef) u := h1
        rw [Array.getD_eq_getD_getElem?] at ex ey
        refine ⟨⟨109, rfl, h7⟩, op_callE (by go_simp; try rfl) ((eqSpec_walk xSp xSp _ [.slice (some ⟨g0, 0, none⟩) 2 2, .slice (some ⟨g1, 0, none⟩) 1 1, .slice (some ⟨g2, 0, none⟩) 1 1, .slice (some ⟨g3, 0, none⟩) 1 1] [.slice (some ⟨p0, 0, none⟩) 2 2, .slice (some ⟨p1, 0, none⟩) 1 1, .slice (some ⟨p2, 0, none⟩) 1 1, .slice (some ⟨p3, 0, none⟩) 1 1] ⟨some ⟨g0, 0, none⟩, some ⟨g1, 0, none⟩, some ⟨g2, 0, none⟩, some ⟨g3, 0, none⟩, 2, 1, 1, 1, rfl, k0.now, k1.now, k2.now, k3.now⟩ ⟨some ⟨p0, 0, none⟩, some ⟨p1, 0, none⟩, some ⟨p2, 0, none⟩, some ⟨p3, 0, none⟩, 2, 1, 1, 1, rfl, q0.now, q1.now, q2.now, q3.now⟩).mono ?_)⟩
        rintro e w' ⟨rfl, hb⟩
        exact ⟨_, rfl, _, rfl, hb, by rw [xe3]; rfl⟩
      · intro a u hu hs h0 h1
        have ex0 : a.tmps.getD 109 undef = .bool true := h0
        rw [Array.getD_eq_getD_getElem?] at ex0
        have ex1 : a.tmps.getD 112 undef = .bool true := h1
        rw [Array.getD_eq_getD_getElem?] at ex1
        refine ⟨trivial, op_val (by go_simp; try rfl) ⟨_, rfl, Below.refl _ _, rfl⟩⟩
      · intro a u hu hs h0 _
        have ex0 : a.tmps.getD 113 undef = .bool true := h0
        rw [Array.getD_eq_getD_getElem?] at ex0
        refine ⟨trivial, op_val (by go_simp; try rfl) ⟨_, rfl, Below.refl _ _, rfl⟩⟩
      · intro a u hu hs h0
        have e1 : a.tmps.getD 6 undef = .pointer (some ⟨g, 0, none⟩) := hs 6 (by kernel_rfl)
        rw [Array.getD_eq_getD_getElem?] at e1
        obtain ⟨g0, g1, g2, g3, hbk, k0, k1, k2, k3⟩ := b6.below hu
        have z0 := blk_cell hbk 0
        have z1 := blk_cell hbk 1
        have z2 := blk_cell hbk 2
        have z3 := blk_cell hbk 3
        refine ⟨⟨114, rfl, h0⟩, op_val (by go_simp; try rfl) ⟨_, rfl, Below.refl _ _, g0, g1, g2, g3, rfl, k0, k1, k2, k3⟩⟩
      · intro a u hu hs h7
        refine ⟨⟨114, rfl, h7⟩, op_val (by go_simp; try rfl) ⟨_, rfl, Below.refl _ _, rfl⟩⟩
      · intro a u hu hs h0 h1 _ h7
        obtain ⟨g0, g1, g2, g3, ex, k0, k1, k2, k3⟩ : R10 27 (a.tmps.getD 115 undef) u := h0
        have ey : a.tmps.getD 116 undef = .agg #[.slice none 0 0, .slice none 0 0, .slice none 0 0, .slice none 0 0] := h1
        rw [Array.getD_eq_getD_getElem?] at ex ey
        refine ⟨⟨114, rfl, h7⟩, op_callE (by go_simp; try rfl) ((eqSpec_walk xSp ⟨[], [], [], []⟩ _ [.slice (some ⟨g0, 0, none⟩) 2 2, .slice (some ⟨g1, 0, none⟩) 1 1, .slice (some ⟨g2, 0, none⟩) 1 1, .slice (some ⟨g3, 0, none⟩) 1 1] [.slice none 0 0, .slice none 0 0, .slice none 0 0, .slice none 0 0] ⟨some ⟨g0, 0, none⟩, some ⟨g1, 0, none⟩, some ⟨g2, 0, none⟩, some ⟨g3, 0, none⟩, 2, 1, 1, 1, rfl, k0.now, k1.now, k2.now, k3.now⟩ ⟨none, none, none, none, 0, 0, 0, 0, rfl, Kd.C_nil _ _, Kd.C_nil _ _, Kd.C_nil _ _, Kd.C_nil _ _⟩).mono ?_)⟩
        rintro e w' ⟨rfl, hb⟩
        exact ⟨_, rfl, _, rfl, hb, by rw [xe4]; rfl⟩
      · intro a u hu hs h0 h1
        have ex0 : a.tmps.getD 117 undef = .bool false := h0
        rw [Array.getD_eq_getD_getElem?] at ex0
        refine ⟨⟨114, rfl, h1⟩, op_val (by go_simp; try rfl) ⟨_, rfl, Below.refl _ _, rfl⟩⟩
      · intro a u hu hs h0 h1
        have ex0 : a.tmps.getD 114 undef = .bool true := h0
        rw [Array.getD_eq_getD_getElem?] at ex0
        have ex1 : a.tmps.getD 118 undef = .bool true := h1
        rw [Array.getD_eq_getD_getElem?] at ex1
        refine ⟨trivial, op_val (by go_simp; try rfl) ⟨_, rfl, Below.refl _ _, rfl⟩⟩
      · intro a u hu hs h0 _ _ _ _ _ _ _ _ _ _ _ _ _ _ _ _ _ _ _ _ _ _ _ _ _ _ _ _ _ _ _ _ _
        have ex0 : a.tmps.getD 119 undef = .bool true := h0
        rw [Array.getD_eq_getD_getElem?] at ex0
        refine ⟨trivial, op_val (by go_simp; try rfl) ⟨_, rfl, Below.refl _ _, rfl⟩⟩
    clear b1 b2 b6
    intro w19 hw19 v0 h0 v1 h1 v2 h2 v3 h3 v4 h4 v5 h5 v6 h6 v7 h7 v8 h8 v9 h9 v10 h10 v11 h11 v12 h12 v13 h13 v14 h14 v15 h15 v16 h16 v17 h17 v18 h18 v19 h19 v20 h20 v21 h21 v22 h22 v23 h23 v24 h24 v25 h25 v26 h26 v27 h27 v28 h28 v29 h29 v30 h30 v31 h31 v32 h32
    obtain rfl : v32 = .bool true := h32
    clear h0 h1 h2 h3 h4 h5 h6 h7 h8 h9 h10 h11 h12 h13 h14 h15 h16 h17 h18 h19 h20 h21 h22 h23 h24 h25 h26 h27 h28 h29 h30 h31
    replace HB18 := Aside0.mk (below_step HB18.out hw19)
    clear hw19 BX1 BX2 BX6
    refine endQ_nil ?_
    simp only [Act.put, List.setIfInBounds_toArray, List.set_cons_zero, List.set_cons_succ, List.drop_succ_cons, List.drop_zero]
    go_wp2_with fail
    go_ret
    exact ⟨rfl, HB18.out⟩
end Go.Proofs.YtgdiodhaihmnbaaDoor.Own
namespace Go.Proofs.YtgdiodhaihmnbaaDoor.Own
open Go.RowKit Go.Proofs.YtgdiodhaihmnbaaDoorW.PrintWords Go.Proofs.YtgdiodhaihmnbaaDoorW.PrintLast Go.Proofs.YtgdiodhaihmnbaaDoorW.PrintMore Go.Proofs.YtgdiodhaihmnbaaDoor.PPrinterMatchesReference

/-- What PrinterInjective asks of two valid trees. -/
def InjOK (x y : S24) : Prop := isForm x = true → isForm y = true → (eqN x y = true ↔ txt x true = txt y true) ∧ (txt x true ≠ [] ∧ (txt x true).length ≤ most) ∧ txt y true ≠ [] ∧ (txt y true).length ≤ most

/-- What the last statement's operations yield. -/
def RL (cx cy : Array Value) (sx sy : ByteArray) (b : Bool) (i : Nat) (v : Value) (_ : World) : Prop := match i with
  | 0 => v = .bool true
  | 1 => v = .bool true
  | 2 => v = .agg cx
  | 3 => v = .agg cy
  | 4 => v = .bool b
  | 5 => v = .agg cx
  | 6 => v = .string sx
  | 7 => v = .agg cy
  | 8 => v = .string sy
  | 9 => v = .bool b
  | 10 => v = .bool true
  | 11 => v = .bool true
  | 12 => v = .bool true
  | _ => True
theorem RL_below (cx cy : Array Value) (sx sy : ByteArray) (b : Bool) : ∀ i v w w', RL cx cy sx sy b i v w → Below w.heap.size w w' → RL cx cy sx sy b i v w' := fun _ _ _ _ h _ => h

set_option maxHeartbeats 2000000 in
set_option maxRecDepth 100000 in
theorem inj_walk (x y : S24) (hx : numOK x) (hy : numOK y) (w : World) (cx cy : List Value) (kx : k24.K w x cx) (ky : k24.K w y cy) (ht : Tab w) (hlaw : InjOK x y) :
    Calls Tryd.prog 4 #[.agg cx.toArray, .agg cy.toArray] w fun e w' => e = .returned (.bool true) ∧ Below w.heap.size w w' := by
  obtain ⟨A, c, rfl, hl, hk⟩ := k24_open kx
  obtain ⟨B, d, rfl, hl2, hk2⟩ := k24_open ky
  have KX := Aside0.mk kx
  have KY := Aside0.mk ky
  have HT := Aside0.mk ht
  have HLAW := Aside0.mk hlaw
  have HX := Aside0.mk hx
  have HY := Aside0.mk hy
  have hu24 := Tryd.underlying24
  clear kx ky ht hlaw hx hy hk hk2 hl hl2
  go_enter Tryd.func4, Tryd.ntmps4
  go_wp2_with fail
  have hb0 : Below w.heap.size w ((w.alloc (.cells #[.int .i64 x.f0, .string x.f1, .int .i64 x.f2, .slice A x.f3.length c, .int .i64 x.f4] 24)).alloc (.cells #[.int .i64 y.f0, .string y.f1, .int .i64 y.f2, .slice B y.f3.length d, .int .i64 y.f4] 24)) := below_alloc (below_alloc (Below.refl _ _) _) _
  have bx := blk_alloc (blk_new w (.cells #[.int .i64 x.f0, .string x.f1, .int .i64 x.f2, .slice A x.f3.length c, .int .i64 x.f4] 24)) (.cells #[.int .i64 y.f0, .string y.f1, .int .i64 y.f2, .slice B y.f3.length d, .int .i64 y.f4] 24)
  have b_y := blk_two w (.cells #[.int .i64 x.f0, .string x.f1, .int .i64 x.f2, .slice A x.f3.length c, .int .i64 x.f4] 24) (.cells #[.int .i64 y.f0, .string y.f1, .int .i64 y.f2, .slice B y.f3.length d, .int .i64 y.f4] 24)
  refine (head_walk _ (HT.out.below hb0)).mono ?_
  rintro e w1 ⟨rfl, hb1⟩
  have HBX := Aside0.mk (blk_below bx hb1)
  have HBY := Aside0.mk (blk_below b_y hb1)
  have HB := Aside0.mk (below_step hb0 hb1)
  clear hb1 bx b_y hb0
  have z0 := blk_cell HBX.out 0
  have z1 := blk_cell HBX.out 1
  have z2 := blk_cell HBX.out 2
  have z3 := blk_cell HBX.out 3
  have z4 := blk_cell HBX.out 4
  go_wp2_with fail
  refine (isform_walk x HX.out w1 _ (k24.K_below HB.out KX.out)).mono ?_
  rintro e w2 ⟨rfl, hb2⟩
  replace HBX := Aside0.mk (blk_below HBX.out hb2)
  replace HBY := Aside0.mk (blk_below HBY.out hb2)
  replace HB := Aside0.mk (below_step HB.out hb2)
  clear hb2 z0 z1 z2 z3 z4
  have z0 := blk_cell HBY.out 0
  have z1 := blk_cell HBY.out 1
  have z2 := blk_cell HBY.out 2
  have z3 := blk_cell HBY.out 3
  have z4 := blk_cell HBY.out 4
  go_wp2_with fail
  refine (isform_walk y HY.out w2 _ (k24.K_below HB.out KY.out)).mono ?_
  rintro e w3 ⟨rfl, hb3⟩
  replace HBX := Aside0.mk (blk_below HBX.out hb3)
  replace HBY := Aside0.mk (blk_below HBY.out hb3)
  replace HB := Aside0.mk (below_step HB.out hb3)
  clear hb3 z0 z1 z2 z3 z4
  cases hfx : isForm x
  · go_wp2_with fail
    go_ret
    exact ⟨rfl, HB.out⟩
  cases hfy : isForm y
  · go_wp2_with fail
    go_ret
    exact ⟨rfl, HB.out⟩
  obtain ⟨he, ⟨hnx, hlx⟩, hny, hly⟩ := HLAW.out hfx hfy
  have HE := Aside0.mk he
  have HNX := Aside0.mk hnx
  have HNY := Aside0.mk hny
  have HLX := Aside0.mk hlx
  have HLY := Aside0.mk hly
  clear he hnx hlx hny hly
  go_wp2_with fail
  obtain ⟨sx, hsx⟩ : ∃ sx : ByteArray, sx = ⟨(txt x true).toArray⟩ := ⟨_, rfl⟩
  obtain ⟨sy, hsy⟩ : ∃ sy : ByteArray, sy = ⟨(txt y true).toArray⟩ := ⟨_, rfl⟩
  obtain ⟨b, hq⟩ : ∃ b, b = eqN x y := ⟨_, rfl⟩
  have hd : decide (sx = sy) = b := by
    have : sx = sy ↔ txt x true = txt y true := by
      rw [hsx, hsy]
      constructor
      · intro h; injection h with h; simpa using h
      · intro h; rw [h]
    rw [hq]
    cases hc : eqN x y
    · exact decide_eq_false (fun h => by have := HE.out.2 (this.1 h); rw [hc] at this; cases this)
    · exact decide_eq_true (this.2 (HE.out.1 hc))
  have hd2 : (sx.toList == sy.toList) = b := by
    rw [← hd, ByteArray.toList_eq, ByteArray.toList_eq]
    by_cases h : sx = sy
    · rw [h]; simp
    · have : ¬ sx.data = sy.data := fun e => h (by cases sx; cases sy; simp at e; rw [e])
      simp [h, this]
  have HSX := Aside0.mk hsx
  have HSY := Aside0.mk hsy
  have HQ := Aside0.mk hq
  clear hsx hsy hq
  refine wp_grow 13 32 (RL #[.int .i64 x.f0, .string x.f1, .int .i64 x.f2, .slice A x.f3.length c, .int .i64 x.f4] #[.int .i64 y.f0, .string y.f1, .int .i64 y.f2, .slice B y.f3.length d, .int .i64 y.f4] sx sy b) (by kernel_rfl) rfl (by kernel_rfl) (RL_below _ _ _ _ _) ?_ ?_
  · refine ⟨?_, ?_, ?_, ?_, ?_, ?_, ?_, ?_, ?_, ?_, ?_, ?_, ?_, trivial⟩
    · intro a u hu hs 
      have ex0 : a.tmps.getD 5 undef = .bool true := hs 5 (by kernel_rfl)
      rw [Array.getD_eq_getD_getElem?] at ex0
      refine ⟨trivial, op_val (by go_simp; try rfl) ⟨_, rfl, Below.refl _ _, rfl⟩⟩
    · intro a u hu hs h0
      have ex0 : a.tmps.getD 20 undef = .bool true := h0
      rw [Array.getD_eq_getD_getElem?] at ex0
      refine ⟨trivial, op_val (by go_simp; try rfl) ⟨_, rfl, Below.refl _ _, rfl⟩⟩
    · intro a u hu hs h0
      have e1 : a.tmps.getD 2 undef = .pointer (some ⟨w.heap.size, 0, none⟩) := hs 2 (by kernel_rfl)
      rw [Array.getD_eq_getD_getElem?] at e1
      have hbk := blk_below HBX.out hu
      have z0 := blk_cell hbk 0
      have z1 := blk_cell hbk 1
      have z2 := blk_cell hbk 2
      have z3 := blk_cell hbk 3
      have z4 := blk_cell hbk 4
      refine ⟨⟨21, rfl, h0⟩, op_val (by go_simp; try rfl) ⟨_, rfl, Below.refl _ _, rfl⟩⟩
    · intro a u hu hs h0
      have e1 : a.tmps.getD 3 undef = .pointer (some ⟨w.heap.size + 1, 0, none⟩) := hs 3 (by kernel_rfl)
      rw [Array.getD_eq_getD_getElem?] at e1
      have hbk := blk_below HBY.out hu
      have z0 := blk_cell hbk 0
      have z1 := blk_cell hbk 1
      have z2 := blk_cell hbk 2
      have z3 := blk_cell hbk 3
      have z4 := blk_cell hbk 4
      refine ⟨⟨21, rfl, h0⟩, op_val (by go_simp; try rfl) ⟨_, rfl, Below.refl _ _, rfl⟩⟩
    · intro a u hu hs h0 h1 _ h2
      have ex : a.tmps.getD 22 undef = .agg #[.int .i64 x.f0, .string x.f1, .int .i64 x.f2, .slice A x.f3.length c, .int .i64 x.f4] := h0
      have ey : a.tmps.getD 23 undef = .agg #[.int .i64 y.f0, .string y.f1, .int .i64 y.f2, .slice B y.f3.length d, .int .i64 y.f4] := h1
      rw [Array.getD_eq_getD_getElem?] at ex ey
      refine ⟨⟨21, rfl, h2⟩, op_callE (by go_simp) ((eqN_walk _ x y u #[.int .i64 x.f0, .string x.f1, .int .i64 x.f2, .slice A x.f3.length c, .int .i64 x.f4].toList #[.int .i64 y.f0, .string y.f1, .int .i64 y.f2, .slice B y.f3.length d, .int .i64 y.f4].toList (Nat.lt_succ_self _) (k24.K_below (below_step HB.out hu) KX.out) (k24.K_below (below_step HB.out hu) KY.out)).mono ?_)⟩
      rintro e w' ⟨rfl, hb⟩
      exact ⟨_, rfl, _, rfl, hb, by rw [HQ.out]; rfl⟩
    · intro a u hu hs h0
      have e1 : a.tmps.getD 2 undef = .pointer (some ⟨w.heap.size, 0, none⟩) := hs 2 (by kernel_rfl)
      rw [Array.getD_eq_getD_getElem?] at e1
      have hbk := blk_below HBX.out hu
      have z0 := blk_cell hbk 0
      have z1 := blk_cell hbk 1
      have z2 := blk_cell hbk 2
      have z3 := blk_cell hbk 3
      have z4 := blk_cell hbk 4
      refine ⟨⟨21, rfl, h0⟩, op_val (by go_simp; try rfl) ⟨_, rfl, Below.refl _ _, rfl⟩⟩
    · intro a u hu hs h0 _ h1
      have ex : a.tmps.getD 25 undef = .agg #[.int .i64 x.f0, .string x.f1, .int .i64 x.f2, .slice A x.f3.length c, .int .i64 x.f4] := h0
      rw [Array.getD_eq_getD_getElem?] at ex
      refine ⟨⟨21, rfl, h1⟩, op_callE (by go_simp; try rfl) ((formula_walk x HX.out u #[.int .i64 x.f0, .string x.f1, .int .i64 x.f2, .slice A x.f3.length c, .int .i64 x.f4].toList (k24.K_below (below_step HB.out hu) KX.out) (HT.out.below (below_step HB.out hu)) HNX.out HLX.out).mono ?_)⟩
      rintro e w' ⟨rfl, hb⟩
      exact ⟨_, rfl, _, rfl, hb, by rw [HSX.out]; rfl⟩
    · intro a u hu hs h0
      have e1 : a.tmps.getD 3 undef = .pointer (some ⟨w.heap.size + 1, 0, none⟩) := hs 3 (by kernel_rfl)
      rw [Array.getD_eq_getD_getElem?] at e1
      have hbk := blk_below HBY.out hu
      have z0 := blk_cell hbk 0
      have z1 := blk_cell hbk 1
      have z2 := blk_cell hbk 2
      have z3 := blk_cell hbk 3
      have z4 := blk_cell hbk 4
      refine ⟨⟨21, rfl, h0⟩, op_val (by go_simp; try rfl) ⟨_, rfl, Below.refl _ _, rfl⟩⟩
    · intro a u hu hs h0 _ h1
      have ex : a.tmps.getD 27 undef = .agg #[.int .i64 y.f0, .string y.f1, .int .i64 y.f2, .slice B y.f3.length d, .int .i64 y.f4] := h0
      rw [Array.getD_eq_getD_getElem?] at ex
      refine ⟨⟨21, rfl, h1⟩, op_callE (by go_simp; try rfl) ((formula_walk y HY.out u #[.int .i64 y.f0, .string y.f1, .int .i64 y.f2, .slice B y.f3.length d, .int .i64 y.f4].toList (k24.K_below (below_step HB.out hu) KY.out) (HT.out.below (below_step HB.out hu)) HNY.out HLY.out).mono ?_)⟩
      rintro e w' ⟨rfl, hb⟩
      exact ⟨_, rfl, _, rfl, hb, by rw [HSY.out]; rfl⟩
    · intro a u hu hs h0 h1 h2
      have ex0 : a.tmps.getD 26 undef = .string sx := h0
      rw [Array.getD_eq_getD_getElem?] at ex0
      have ex1 : a.tmps.getD 28 undef = .string sy := h1
      rw [Array.getD_eq_getD_getElem?] at ex1
      refine ⟨⟨21, rfl, h2⟩, op_val (by go_simp; try rfl) ⟨_, rfl, Below.refl _ _, rfl⟩⟩
    · intro a u hu hs h0 h1 h2
      have ex0 : a.tmps.getD 24 undef = .bool b := h0
      rw [Array.getD_eq_getD_getElem?] at ex0
      have ex1 : a.tmps.getD 29 undef = .bool b := h1
      rw [Array.getD_eq_getD_getElem?] at ex1
      refine ⟨⟨21, rfl, h2⟩, op_val (by go_simp; try rfl) ⟨_, rfl, Below.refl _ _, rfl⟩⟩
    · intro a u hu hs h0 h1
      have ex0 : a.tmps.getD 21 undef = .bool true := h0
      rw [Array.getD_eq_getD_getElem?] at ex0
      have ex1 : a.tmps.getD 30 undef = .bool true := h1
      rw [Array.getD_eq_getD_getElem?] at ex1
      refine ⟨trivial, op_val (by go_simp; try rfl) ⟨_, rfl, Below.refl _ _, rfl⟩⟩
    · intro a u hu hs h0 _ _ _ _ _ _ _ _ _ _ _ _ _
      have ex0 : a.tmps.getD 31 undef = .bool true := h0
      rw [Array.getD_eq_getD_getElem?] at ex0
      refine ⟨trivial, op_val (by go_simp; try rfl) ⟨_, rfl, Below.refl _ _, rfl⟩⟩
  · intro w4 hw4 v0 h0 v1 h1 v2 h2 v3 h3 v4 h4 v5 h5 v6 h6 v7 h7 v8 h8 v9 h9 v10 h10 v11 h11 v12 h12
    obtain rfl : v12 = .bool true := h12
    clear h0 h1 h2 h3 h4 h5 h6 h7 h8 h9 h10 h11
    have HB4 := Aside0.mk (below_step HB.out hw4)
    clear hw4
    refine endQ_nil ?_
    simp only [Act.put, List.setIfInBounds_toArray, List.set_cons_zero, List.set_cons_succ, List.drop_succ_cons, List.drop_zero]
    go_wp2_with fail
    go_ret
    exact ⟨rfl, HB4.out⟩
end Go.Proofs.YtgdiodhaihmnbaaDoor.Own
namespace Go.Proofs.YtgdiodhaihmnbaaDoor.Own
open Go.Proofs.YtgdiodhaihmnbaaDoor.PPrinterMatchesReference

/-! Two valid formulas are equal exactly if their texts are. -/

theorem bytes_eq {s t : ByteArray} (h : s.toList = t.toList) : s = t := by
  rw [ByteArray.toList_eq, ByteArray.toList_eq] at h
  have h1 : s = ⟨s.data.toList.toArray⟩ := by simp
  have h2 : t = ⟨t.data.toList.toArray⟩ := by simp
  rw [h1, h2, h]
mutual
theorem eqN_strip : ∀ (x y : S24), eqN x y = true ↔ strip x = strip y
  | ⟨o, s, n, ks, _⟩, ⟨o', s', n', ks', _⟩ => by
    rw [eqN, strip, strip]
    simp only [Bool.and_eq_true, beq_iff_eq, S24.mk.injEq, and_true]
    have h := eqL_strip ks ks'
    constructor
    · rintro ⟨⟨⟨h1, h2⟩, h3⟩, h4⟩
      exact ⟨h1, bytes_eq h2, h3, h.1 h4⟩
    · rintro ⟨h1, h2, h3, h4⟩
      exact ⟨⟨⟨h1, by rw [h2]⟩, h3⟩, h.2 h4⟩
theorem eqL_strip : ∀ (l r : List S24), eqL l r = true ↔ stripL l = stripL r
  | [], [] => by simp [eqL]
  | [], y :: r => by simp [eqL, stripL]
  | x :: l, [] => by simp [eqL, stripL]
  | x :: l, y :: r => by
    rw [eqL, stripL, stripL]
    simp only [Bool.and_eq_true, List.cons.injEq]
    rw [eqN_strip x y, eqL_strip l r]
end
mutual
theorem txt_strip : ∀ (x : S24) (fin : Bool), txt (strip x) fin = txt x fin
  | ⟨op, s, n, ks, _⟩, fin => by
    rw [strip, txt, txt]
    simp only [opd_strip ks, nod_strip ks, argl_strip ks]
theorem opd_strip : ∀ (l : List S24) (i : Nat) (need : Int) (fin : Bool), opd (stripL l) i need fin = opd l i need fin
  | [], _, _, _ => by rw [stripL]
  | x :: r, 0, need, fin => by rw [stripL, opd, opd, strip_f0, txt_strip x, txt_strip x]
  | x :: r, i + 1, need, fin => by rw [stripL, opd, opd, opd_strip r]
theorem nod_strip : ∀ (l : List S24) (i : Nat), nod (stripL l) i = nod l i
  | [], _ => by rw [stripL]
  | x :: r, 0 => by rw [stripL, nod, nod, txt_strip x]
  | x :: r, i + 1 => by rw [stripL, nod, nod, nod_strip r]
theorem argl_strip : ∀ (l : List S24) (first : Bool), argl (stripL l) first = argl l first
  | [], _ => by rw [stripL]
  | x :: r, first => by rw [stripL, argl, argl, strip_f0, txt_strip x, argl_strip r]
end
theorem read_back {x : S24} {lv : Int} (h : frmN x lv = true) : Par 1 (toks x true) (strip x, []) := by
  have hg := good_tree _ x (Nat.lt_succ_self _) lv h
  have := hg.part true [] 1 (strip x, []) (lvl_pos _).1 ⟨⟨rfl, rfl, rfl⟩, fun l hl => by cases hl⟩ (Or.inl rfl) (lop_stop fun l hl => by cases hl)
  rwa [List.append_nil] at this
theorem lex_whole {x : S24} {lv : Int} (h : frmN x lv = true) : lexB (txt x true) = toks x true := by
  have := lex_txt _ x (Nat.lt_succ_self _) lv h true [] (fun c q e => by cases e)
  rwa [List.append_nil, lex_nil, List.append_nil] at this
theorem txt_inj {x y : S24} {l m : Int} (hx : frmN x l = true) (hy : frmN y m = true) (h : txt x true = txt y true) : strip x = strip y := by
  have h1 := read_back hx
  have h2 := read_back hy
  rw [← lex_whole hx, h, lex_whole hy] at h1
  have := h1.det h2
  injection this
theorem txt_some {x : S24} {l : Int} (hx : frmN x l = true) : txt x true ≠ [] := by
  intro h
  have h1 := read_back hx
  rw [← lex_whole hx, h, lex_nil] at h1
  exact par_nil h1

mutual
/-- The number of a tree's nodes. -/
def nN : S24 → Nat
  | ⟨_, _, _, ks, _⟩ => 1 + nL ks
def nL : List S24 → Nat
  | [] => 0
  | x :: r => nN x + nL r
end
theorem nN_def (x : S24) : nN x = 1 + nL x.f3 := by cases x; rw [nN]
mutual
theorem cnt_is : ∀ (x : S24) (left : Int), cntN x left ≤ left → (nN x : Int) = cntN x left
  | ⟨_, _, _, ks, _⟩, left, h => by
    rw [cntN] at h ⊢
    rw [nN]
    have := cntL_is ks left 1 h
    omega
theorem cntL_is : ∀ (l : List S24) (left sum : Int), cntL l left sum ≤ left → sum + (nL l : Int) = cntL l left sum
  | [], left, sum, _ => by rw [cntL, nL]; omega
  | x :: r, left, sum, h => by
    rw [cntL] at h ⊢
    rw [nL]
    by_cases hs : sum ≤ left
    · rw [if_pos hs] at h ⊢
      have h1 := cntL_is r left _ h
      have h2 := cnt_is x (left - sum) (by omega)
      omega
    · rw [if_neg hs] at h
      omega
end

theorem name_len {s : ByteArray} (h : nameB s = true) : s.data.toList.length ≤ 16 := by
  simp only [nameB, Bool.and_eq_true, decide_eq_true_eq] at h
  have := h.1.1.2
  have hl : s.data.toList.length = s.size := Array.length_toList
  omega
theorem itoa_len : ∀ k : Fin 65, (Lib.itoa (k.val : Int)).length ≤ 2 := by decide +kernel
theorem itoa_len2 (n : Int) (h0 : -64 ≤ n) (h1 : n ≤ 64) : (Lib.itoa n).length ≤ 3 := by
  by_cases hn : n < 0
  · obtain ⟨k, rfl⟩ : ∃ k : Nat, n = -(k : Int) := ⟨(-n).toNat, by omega⟩
    have h2 := itoa_len ⟨k, by omega⟩
    have h3 := (itoa_digs ⟨k, by omega⟩).2 (by show 1 ≤ k; omega)
    simp only at h2 h3
    rw [h3, List.length_cons]
    omega
  · obtain ⟨k, rfl⟩ : ∃ k : Nat, n = (k : Int) := ⟨n.toNat, by omega⟩
    have h2 := itoa_len ⟨k, by omega⟩
    simp only at h2
    omega
def Short (x : S24) : Prop := ∀ fin, (txt x fin).length + 4 ≤ 100 * nN x
theorem opr_len {x : S24} (h : Short x) (need : Int) (fin : Bool) : (opr x need fin).length + 2 ≤ 100 * nN x := by
  unfold opr
  have h1 := h fin
  have h2 := h true
  split
  · omega
  · simp only [List.length_append, List.length_cons, List.length_nil]; omega
theorem two_len {ks : List S24} (h : ∀ y ∈ ks, Short y) (a b : Int) (f g : Bool) : (opd ks 0 a f).length + (opd ks 1 b g).length ≤ 100 * nL ks := by
  match ks, h with
  | [], _ => simp [opd]
  | [x], h =>
    have := opr_len (h x List.mem_cons_self) a f
    have e : opd [x] 1 b g = [] := by simp [opd]
    have e2 : opd [x] 0 a f = opr x a f := by rw [opd, opr]
    rw [e, e2, nL, nL, List.length_nil]; omega
  | x :: y :: r, h =>
    have h1 := opr_len (h x List.mem_cons_self) a f
    have h2 := opr_len (h y (List.mem_cons_of_mem _ List.mem_cons_self)) b g
    have e1 : opd (x :: y :: r) 0 a f = opr x a f := by rw [opd, opr]
    have e2 : opd (x :: y :: r) 1 b g = opr y b g := by rw [opd, opd, opr]
    rw [e1, e2, nL, nL]; omega
theorem bnd_len {x : S24} (h : ∀ y ∈ x.f3, Short y) (hn : nameB x.f1 = true) : (bnd x).length ≤ 30 + 100 * nL x.f3 := by
  have hl := name_len hn
  have hk : (opd x.f3 0 8 true).length + (nod x.f3 1).length ≤ 100 * nL x.f3 := by
    match hks : x.f3, h with
    | [], _ => simp [opd, nod]
    | [y], h =>
      have := opr_len (h y List.mem_cons_self) 8 true
      have e : nod [y] 1 = [] := by simp [nod]
      have e2 : opd [y] 0 8 true = opr y 8 true := by rw [opd, opr]
      rw [e, e2, nL, nL, List.length_nil]; omega
    | y :: z :: r, h =>
      have h1 := opr_len (h y List.mem_cons_self) 8 true
      have h2 := h z (List.mem_cons_of_mem _ List.mem_cons_self) true
      have e1 : opd (y :: z :: r) 0 8 true = opr y 8 true := by rw [opd, opr]
      have e2 : nod (y :: z :: r) 1 = txt z true := by rw [nod, nod]
      rw [e1, e2, nL, nL]; omega
  unfold bnd
  simp only [List.length_append, List.length_cons, List.length_nil]
  omega
theorem argl_len : ∀ (ks : List S24) (first : Bool), (∀ y ∈ ks, Short y) → (argl ks first).length ≤ 100 * nL ks
  | [], _, _ => by simp [argl]
  | x :: r, first, h => by
    have h1 := opr_len (h x List.mem_cons_self) 8 true
    have h2 := argl_len r false fun y hy => h y (List.mem_cons_of_mem _ hy)
    rw [argl_cons, nL]
    simp only [List.length_append]
    have : (if first = true then ([] : List UInt8) else [44, 32]).length ≤ 2 := by split <;> simp
    omega
theorem bin_len : ∀ v ∈ binT, v.2.1.length ≤ 11 := by decide
theorem pre_len : ∀ v ∈ preT, v.2.1.length ≤ 11 := by decide
theorem txt_len (n : Nat) : ∀ x : S24, SizeOf.sizeOf x < n → ∀ lv, frmN x lv = true → Short x := by
  induction n with
  | zero => intro x h; omega
  | succ n ih =>
    intro x hx lv hf fin
    obtain ⟨hown, hfit, hkids⟩ := frm_own hf
    have hk : ∀ y ∈ x.f3, Short y := fun y hy => ih y (by have := size_kid hy; omega) (lv - 1) (frmL_mem hkids y hy)
    rw [txt_def, nN_def]
    cases hb : atT x.f0 binT with
    | some v =>
      obtain ⟨t, l, a, b⟩ := v
      have h1 := bin_len _ (atT_mem' hb)
      have h2 := two_len hk a b false fin
      simp only [List.length_append] at h1 ⊢
      omega
    | none =>
      cases hp : atT x.f0 preT with
      | some v =>
        obtain ⟨t, l, a, b⟩ := v
        have h1 := pre_len _ (atT_mem' hp)
        have h2 := two_len hk a a fin fin
        simp only [List.length_append] at h1 ⊢
        omega
      | none =>
        dsimp only
        by_cases h1 : x.f0 = 1
        · rw [if_pos h1]; have := name_len (own_name hown (by rw [h1]; rfl)); omega
        rw [if_neg h1]
        by_cases h2 : x.f0 = 2
        · rw [if_pos h2]
          have h3 := own_none hown h2
          have h4 := itoa_len2 x.f2 (by omega) (by omega)
          split
          · simp only [List.length_append, List.length_cons, List.length_nil]; omega
          · simp only [List.length_append, List.length_cons, List.length_nil]; omega
        rw [if_neg h2]
        by_cases h20 : x.f0 = 20
        · rw [if_pos h20]
          have h3 := own_lit hown h20
          have h4 := itoa_len2 x.f2 h3.1 h3.2
          omega
        rw [if_neg h20]
        by_cases h5 : x.f0 = 5
        · rw [if_pos h5]
          have h2 := two_len hk 14 14 false false
          simp only [List.length_append, List.length_cons, List.length_nil]
          omega
        rw [if_neg h5]
        by_cases h45 : x.f0 = 45
        · rw [if_pos h45]
          have := bnd_len hk (own_name hown (by rw [h45]; rfl))
          simp only [List.length_append, List.length_cons, List.length_nil]
          omega
        rw [if_neg h45]
        by_cases h46 : x.f0 = 46
        · rw [if_pos h46]
          have := bnd_len hk (own_name hown (by rw [h46]; rfl))
          simp only [List.length_append, List.length_cons, List.length_nil]
          omega
        rw [if_neg h46]
        by_cases h15 : x.f0 = 15
        · rw [if_pos h15]
          have := bnd_len hk (own_name hown (by rw [h15]; rfl))
          simp only [List.length_append, List.length_cons, List.length_nil]
          omega
        rw [if_neg h15]
        by_cases h47 : x.f0 = 47
        · rw [if_pos h47]
          have h3 := name_len (own_name hown (by rw [h47]; rfl))
          have h4 := argl_len x.f3 true hk
          simp only [List.length_append, List.length_cons, List.length_nil]
          omega
        rw [if_neg h47]
        unfold wordT
        have : (if x.f0 = 3 then ([117, 110, 105, 118] : List UInt8) else if x.f0 = 4 then [105, 100, 101, 110] else if x.f0 = 30 then [116, 114, 117, 101] else if x.f0 = 31 then [102, 97, 108, 115, 101] else []).length ≤ 5 := by
          repeat' split
          all_goals simp
        omega
theorem valid_short {x : S24} (h : validB x = true) : (txt x true).length ≤ most := by
  unfold validB at h
  simp only [Bool.and_eq_true, decide_eq_true_eq] at h
  have h1 := cnt_is x 400 h.1
  have h2 := txt_len _ x (Nat.lt_succ_self _) 24 h.2 true
  unfold most
  omega
theorem inj_ok (x y : S24) : InjOK x y := by
  intro hx hy
  unfold isForm at hx hy
  simp only [Bool.and_eq_true] at hx hy
  have vx := hx.1
  have vy := hy.1
  have fx : frmN x 24 = true := by unfold validB at vx; simp only [Bool.and_eq_true] at vx; exact vx.2
  have fy : frmN y 24 = true := by unfold validB at vy; simp only [Bool.and_eq_true] at vy; exact vy.2
  refine ⟨⟨fun h => ?_, fun h => ?_⟩, ⟨txt_some fx, valid_short vx⟩, txt_some fy, valid_short vy⟩
  · have := (eqN_strip x y).1 h
    rw [← txt_strip x, this, txt_strip y]
  · exact (eqN_strip x y).2 (txt_inj fx fy h)
end Go.Proofs.YtgdiodhaihmnbaaDoor.Own
namespace Go.Proofs.YtgdiodhaihmnbaaDoor.Own
open Go.ChangeShapes Go.WideShapes Go.RowKit Go.Deep Go.Proofs.YtgdiodhaihmnbaaDoorW.PrintWords Go.Proofs.YtgdiodhaihmnbaaDoorW.PrintLast Go.Proofs.YtgdiodhaihmnbaaDoorW.PrintMore Go.Proofs.YtgdiodhaihmnbaaDoor.PPrinterMatchesReference

/-! What an argument's reading says of its cells. -/
section
variable {H : Type} {enc : TypeId × Value → H} {w : World} {base : Nat} {spare : Nat → Bool} {held : Bool}

theorem wf_range {n : Int} (h : (Lit.int .i64 n).wf = true) : -9223372036854775808 ≤ n ∧ n ≤ 9223372036854775807 := by
  simp only [Lit.wf, Bool.and_eq_true, decide_eq_true_eq] at h
  have e1 : IntKind.min .i64 = -9223372036854775808 := by decide
  have e2 : IntKind.max .i64 = 9223372036854775807 := by decide
  omega

/-- A row of elements whose cells are read one by one. -/
theorem C_of_cells {α : Type} {d : Kd α} {a : Addr} {n : Nat} {xs : List α} (hl : xs.length = n) (hn : n ≤ 9223372036854775807) (h : ∀ j x, xs[j]? = some x → ∃ c, c.length = d.sz ∧ d.K w x c ∧ ∀ i u, c[i]? = some u → w.cell? (a.add (j * d.sz + i)) = some u) : d.C w (some a) n xs :=
  ⟨hl, hn, fun _ => ⟨a, rfl, h⟩⟩
theorem cells_at {a : Addr} {j n : Nat} {cs : List Value} (h : w.cells? base (a.add (j * n)) n = some cs) : cs.length = n ∧ ∀ i u, cs[i]? = some u → w.cell? (a.add (j * n + i)) = some u := by
  obtain ⟨_, hl, hc⟩ := World.cells?_some h
  refine ⟨hl, fun i u hu => ?_⟩
  have hi : i < n := by have := (List.getElem?_eq_some_iff.1 hu).1; omega
  have := hc i hi
  rw [Go.Deep.add_add] at this
  rw [this, hu]
theorem cellsOf24 : Tryd.prog.cellsOf 24 = 5 := by kernel_rfl
theorem five {α : Type} {l : List α} (h : l.length = 5) : ∃ a b c d e, l = [a, b, c, d, e] := by
  match l, h with
  | [a, b, c, d, e], _ => exact ⟨a, b, c, d, e, rfl⟩
theorem maxLen_le : maxLen ≤ 9223372036854775807 := by decide

/-- A tree that is read. -/
theorem read24 (fuel : Nat) : ∀ (cs : List Value) (x : DataW H × List MemPlace), DataW.trod enc Tryd.prog w base spare held fuel 24 cs = some x → ∃ y : S24, k24.K w y cs ∧ numOK y := by
  induction fuel using Nat.strongRecOn with
  | ind fuel ih =>
    intro cs x h
    obtain ⟨xs, n, rfl, _, hl, hxl, hf⟩ := DataW.trod_struct Tryd.underlying24 h
    rw [cellsOf24] at hl
    obtain ⟨c0, c1, c2, c3, c4, rfl⟩ := five hl
    · have e3 : Tryd.prog.cellsOf 3 = 1 := by kernel_rfl
      have e9 : Tryd.prog.cellsOf 9 = 1 := by kernel_rfl
      have e22 : Tryd.prog.cellsOf 22 = 1 := by kernel_rfl
      obtain ⟨x0, x1, x2, x3, x4, rfl⟩ := five hxl
      · have h0 : DataW.trod enc Tryd.prog w base spare held n 3 [c0] = some x0 := by simpa [e3] using hf 0 _ rfl
        have h1 : DataW.trod enc Tryd.prog w base spare held n 9 [c1] = some x1 := by simpa [e9] using hf 1 _ rfl
        have h2 : DataW.trod enc Tryd.prog w base spare held n 3 [c2] = some x2 := by simpa [e3] using hf 2 _ rfl
        have h3 : DataW.trod enc Tryd.prog w base spare held n 22 [c3] = some x3 := by simpa [e22] using hf 3 _ rfl
        have h4 : DataW.trod enc Tryd.prog w base spare held n 3 [c4] = some x4 := by simpa [e3] using hf 4 _ rfl
        obtain ⟨a0, q0, _, w0⟩ := DataW.trod_int Tryd.underlying3 h0
        obtain ⟨a1, q1, _, w1⟩ := DataW.trod_string Tryd.underlying9 h1
        obtain ⟨a2, q2, _, w2⟩ := DataW.trod_int Tryd.underlying3 h2
        obtain ⟨a4, q4, _, w4⟩ := DataW.trod_int Tryd.underlying3 h4
        cases q0; cases q1; cases q2; cases q4
        have hw2 := wf_range w2
        have hw1 : a1.size ≤ 9223372036854775807 := Nat.le_trans w1 maxLen_le
        rcases DataW.trod_slice Tryd.underlying22 h3 with ⟨q3, _⟩ | ⟨a, len, cap, elems, rest, m, rfl, q3, _, _, hlc, hcm, hel, hi, _, _⟩
        · cases q3
          exact ⟨⟨a0, a1, a2, [], a4⟩, k24_mk w ⟨a0, a1, a2, [], a4⟩ (Nat.le_refl _) ⟨rfl, Nat.zero_le _, fun h => absurd h (Nat.lt_irrefl 0)⟩, (numOK_def _).2 ⟨⟨hw2, hw1⟩, trivial⟩⟩
        · cases q3
          have hk : ∀ i, i < len → ∃ y : S24, (∃ c, c.length = 5 ∧ k24.K w y c ∧ ∀ k u, c[k]? = some u → w.cell? (a.add (i * 5 + k)) = some u) ∧ numOK y := by
            intro i hil
            have hb := hi i hil
            rw [List.getElem?_eq_getElem (by omega)] at hb
            obtain ⟨c, hc, ht⟩ := Option.bind_eq_some_iff.1 hb
            rw [cellsOf24] at hc
            obtain ⟨hlc, hcc⟩ := cells_at hc
            obtain ⟨y, hy, hn⟩ := ih m (by omega) c _ ht
            exact ⟨y, ⟨c, hlc, hy, hcc⟩, hn⟩
          haveI : Inhabited S24 := ⟨z24⟩
          obtain ⟨f, hfy⟩ := choose_lt hk
          have hks : k24.sz = 5 := rfl
          have hlen : ((List.range len).map f).length = len := by simp
          have hC : k24.C w (some a) ((List.range len).map f).length ((List.range len).map f) := by
            refine C_of_cells rfl (by rw [hlen]; have := maxLen_le; omega) fun j y hy => ?_
            rw [List.getElem?_map, Option.map_eq_some_iff] at hy
            obtain ⟨k, hk, rfl⟩ := hy
            obtain ⟨hj, hk⟩ := List.getElem?_eq_some_iff.1 hk
            rw [List.getElem_range] at hk
            subst hk
            rw [List.length_range] at hj
            obtain ⟨c, h1, h2, h3⟩ := (hfy j hj).1
            exact ⟨c, h1, h2, h3⟩
          have hK := k24_mk w ⟨a0, a1, a2, (List.range len).map f, a4⟩ (c3 := cap) (by show ((List.range len).map f).length ≤ cap; rw [hlen]; exact hlc) hC
          refine ⟨⟨a0, a1, a2, (List.range len).map f, a4⟩, ?_, (numOK_def _).2 ⟨⟨hw2, hw1⟩, numsOK_of fun y hy => ?_⟩⟩
          · have e : (⟨a0, a1, a2, (List.range len).map f, a4⟩ : S24).f3.length = len := hlen
            rw [e] at hK
            exact hK
          · obtain ⟨i, hi, rfl⟩ := List.mem_map.1 hy
            exact (hfy i (List.mem_range.1 hi)).2
end
end Go.Proofs.YtgdiodhaihmnbaaDoor.Own
