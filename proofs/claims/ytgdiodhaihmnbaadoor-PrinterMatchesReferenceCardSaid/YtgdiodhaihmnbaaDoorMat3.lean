/- Steps towards the statement: the printer's texts and equalities are the reference's, and two valid formulas are equal exactly if their texts are; walks of the program's functions and the plain law behind them. This text: part 3 of 7. No condition of its own. -/
import Derived.Lib.OthersKept
import Derived.Lib.ItoaNum
import Derived.StillTail
import Derived.KernelRfl
import Derived.Lib.LaidTab
import Derived.Deep.RegionHeld
import Derived.Shelf.Strconv.Itoa0
import Derived.Shelf.Strconv.Itoa1
import Derived.Shelf.LaysM
import Derived.Shelf.Strconv.Itoa2
import Derived.Shelf.Strconv.Itoa3
import Derived.Test.YtgdiodhaihmnbaaDoorProg
import Derived.Test.YtgdiodhaihmnbaaDoorMat1
import Derived.Test.YtgdiodhaihmnbaaDoorMat2
set_option linter.unusedSimpArgs false
set_option linter.unusedVariables false
namespace Go.Proofs.YtgdiodhaihmnbaaDoor.Own
open Go.Proofs.YtgdiodhaihmnbaaDoor.PPrinterMatchesReference
def wordU (c : UInt8) : Bool := okU c.toNat
def digU (c : UInt8) : Bool := decide (48 ≤ c.toNat) && decide (c.toNat ≤ 57)
/-- The symbols, a longer one ahead of its beginnings. -/
def symL : List (List UInt8) := [[60, 61, 62], [60, 61], [60], [61, 62], [61], [33, 61], [45, 62], [45], [43, 43], [43], [38, 38], [38], [124, 124], [124], [40], [41], [123], [125], [91], [93], [58], [59], [44], [46], [39], [126], [94], [42], [35]]
def lexB : List UInt8 → List Tok
  | [] => []
  | c :: r =>
    if c = 32 then lexB r
    else if letU c.toNat then (1, c :: r.takeWhile wordU) :: lexB (r.dropWhile wordU)
    else if digU c then (2, c :: r.takeWhile digU) :: lexB (r.dropWhile digU)
    else match symL.find? fun t => t.isPrefixOf (c :: r) with
      | some t => (3, t) :: lexB (r.drop (t.length - 1))
      | none => []
  termination_by s => s.length
  decreasing_by
  all_goals simp_wf
  · have := (List.dropWhile_suffix (p := wordU) (l := r)).length_le; omega
  · have := (List.dropWhile_suffix (p := digU) (l := r)).length_le; omega
  · omega
theorem lex_nil : lexB [] = [] := by rw [lexB]
theorem lex_sp (r : List UInt8) : lexB (32 :: r) = lexB r := by rw [lexB]; simp
/-- What follows does not go on with a word. -/
def stopW (r : List UInt8) : Prop := ∀ c q, r = c :: q → wordU c = false
theorem span_all {p : UInt8 → Bool} : ∀ (s r : List UInt8), (∀ c ∈ s, p c = true) → (∀ c q, r = c :: q → p c = false) → (s ++ r).takeWhile p = s ∧ (s ++ r).dropWhile p = r
  | [], [], _, _ => by simp
  | [], c :: q, _, h => by simp [h c q rfl]
  | c :: s, r, hs, h => by
    have := span_all s r (fun d hd => hs d (List.mem_cons_of_mem _ hd)) h
    simp [hs c List.mem_cons_self, this.1, this.2]
theorem lex_word (c : UInt8) (s r : List UInt8) (hc : letU c.toNat = true) (hs : ∀ d ∈ s, wordU d = true) (hr : stopW r) : lexB (c :: s ++ r) = (1, c :: s) :: lexB r := by
  have h32 : c ≠ 32 := by intro h; rw [h] at hc; revert hc; decide
  have := span_all s r hs hr
  rw [List.cons_append, lexB]
  simp [h32, hc, this.1, this.2]
theorem lex_num (c : UInt8) (s r : List UInt8) (hc : digU c = true) (hs : ∀ d ∈ s, digU d = true) (hr : ∀ d q, r = d :: q → digU d = false) : lexB (c :: s ++ r) = (2, c :: s) :: lexB r := by
  have h32 : c ≠ 32 := by intro h; rw [h] at hc; revert hc; decide
  have hl : letU c.toNat = false := by
    unfold digU at hc; unfold letU
    simp only [Bool.and_eq_true, decide_eq_true_eq] at hc
    simp only [Bool.or_eq_false_iff, Bool.and_eq_false_iff, decide_eq_false_iff_not]
    omega
  have := span_all s r hs hr
  rw [List.cons_append, lexB]
  simp [h32, hl, hc, this.1, this.2]
theorem lex_sym (c : UInt8) (q r : List UInt8) (h32 : c ≠ 32) (hl : letU c.toNat = false) (hd : digU c = false) (hf : symL.find? (fun t => t.isPrefixOf (c :: q ++ r)) = some (c :: q)) : lexB (c :: q ++ r) = (3, c :: q) :: lexB r := by
  rw [List.cons_append] at hf ⊢
  rw [lexB]
  simp [h32, hl, hd, hf]
/-- A symbol that no longer one begins with, or whose follower does not lengthen it. -/
theorem lex_one (c : UInt8) (r : List UInt8) (hm : c ∈ ([40, 41, 123, 125, 91, 93, 58, 59, 44, 46, 39, 126, 94, 42, 35] : List UInt8)) : lexB (c :: r) = (3, [c]) :: lexB r := by
  refine lex_sym c [] r ?_ ?_ ?_ ?_
  all_goals
    simp only [List.mem_cons, List.not_mem_nil, or_false] at hm
    rcases hm with rfl | rfl | rfl | rfl | rfl | rfl | rfl | rfl | rfl | rfl | rfl | rfl | rfl | rfl | rfl <;> first | decide | simp [symL, List.isPrefixOf]
theorem stopW_sp (r : List UInt8) : stopW (32 :: r) := fun c q h => by injection h with h _; rw [← h]; decide
theorem lex_symsp (c : UInt8) (q r : List UInt8) (h32 : c ≠ 32) (hl : letU c.toNat = false) (hd : digU c = false) (hf : symL.find? (fun t => t.isPrefixOf (c :: q ++ 32 :: r)) = some (c :: q)) : lexB ((32 :: c :: q ++ [32]) ++ r) = (3, c :: q) :: lexB r := by
  have : (32 :: c :: q ++ [32]) ++ r = 32 :: (c :: q ++ 32 :: r) := by simp
  rw [this, lex_sp, lex_sym c q (32 :: r) h32 hl hd hf, lex_sp]
theorem lex_wordsp (c : UInt8) (q r : List UInt8) (hl : letU c.toNat = true) (hq : ∀ d ∈ q, wordU d = true) : lexB ((32 :: c :: q ++ [32]) ++ r) = (1, c :: q) :: lexB r := by
  have : (32 :: c :: q ++ [32]) ++ r = 32 :: (c :: q ++ 32 :: r) := by simp
  rw [this, lex_sp, lex_word c q (32 :: r) hl hq (stopW_sp r), lex_sp]
theorem atT_mem' {k : Int} {v : List UInt8 × Int × Int × Int} : ∀ {T : List (Int × List UInt8 × Int × Int × Int)}, atT k T = some v → (k, v) ∈ T
  | [], h => by cases h
  | (a, u) :: r, h => by
    rw [atT] at h
    split at h
    · rename_i e; subst e; cases h; exact List.mem_cons_self
    · exact List.mem_cons_of_mem _ (atT_mem' h)
theorem lex_bin {k : Int} {t : List UInt8} {l a b : Int} (h : atT k binT = some (t, l, a, b)) (r : List UInt8) : lexB (t ++ r) = opTok t :: lexB r := by
  have hm := atT_mem' h
  simp only [binT, List.mem_cons, List.not_mem_nil, or_false, Prod.mk.injEq] at hm
  rcases hm with ⟨_, rfl, _⟩ | ⟨_, rfl, _⟩ | ⟨_, rfl, _⟩ | ⟨_, rfl, _⟩ | ⟨_, rfl, _⟩ | ⟨_, rfl, _⟩ | ⟨_, rfl, _⟩ | ⟨_, rfl, _⟩ | ⟨_, rfl, _⟩ | ⟨_, rfl, _⟩ | ⟨_, rfl, _⟩ | ⟨_, rfl, _⟩ | ⟨_, rfl, _⟩ | ⟨_, rfl, _⟩ | ⟨_, rfl, _⟩ | ⟨_, rfl, _⟩ | ⟨_, rfl, _⟩
  all_goals first
    | exact lex_symsp 60 [61, 62] r (by decide) (by decide) (by decide) (by simp [symL, List.isPrefixOf])
    | exact lex_symsp 61 [62] r (by decide) (by decide) (by decide) (by simp [symL, List.isPrefixOf])
    | exact lex_symsp 124 [124] r (by decide) (by decide) (by decide) (by simp [symL, List.isPrefixOf])
    | exact lex_symsp 38 [38] r (by decide) (by decide) (by decide) (by simp [symL, List.isPrefixOf])
    | exact lex_wordsp 117 [110, 116, 105, 108] r (by decide) (by decide)
    | exact lex_wordsp 105 [110] r (by decide) (by decide)
    | exact lex_symsp 61 [] r (by decide) (by decide) (by decide) (by simp [symL, List.isPrefixOf])
    | exact lex_symsp 60 [] r (by decide) (by decide) (by decide) (by simp [symL, List.isPrefixOf])
    | exact lex_symsp 43 [] r (by decide) (by decide) (by decide) (by simp [symL, List.isPrefixOf])
    | exact lex_symsp 45 [] r (by decide) (by decide) (by decide) (by simp [symL, List.isPrefixOf])
    | exact lex_symsp 43 [43] r (by decide) (by decide) (by decide) (by simp [symL, List.isPrefixOf])
    | exact lex_symsp 38 [] r (by decide) (by decide) (by decide) (by simp [symL, List.isPrefixOf])
    | exact lex_symsp 45 [62] r (by decide) (by decide) (by decide) (by simp [symL, List.isPrefixOf])
    | exact lex_one 46 r (by decide)
theorem lex_wsp (c : UInt8) (q r : List UInt8) (hl : letU c.toNat = true) (hq : ∀ d ∈ q, wordU d = true) : lexB ((c :: q ++ [32]) ++ r) = (1, c :: q) :: lexB r := by
  have : (c :: q ++ [32]) ++ r = c :: q ++ 32 :: r := by simp
  rw [this, lex_word c q (32 :: r) hl hq (stopW_sp r), lex_sp]
theorem lex_pre {k : Int} {t : List UInt8} {l a b : Int} (h : atT k preT = some (t, l, a, b)) (r : List UInt8) : lexB (t ++ r) = opTok t :: lexB r := by
  have hm := atT_mem' h
  simp only [preT, List.mem_cons, List.not_mem_nil, or_false, Prod.mk.injEq] at hm
  rcases hm with ⟨_, rfl, _⟩ | ⟨_, rfl, _⟩ | ⟨_, rfl, _⟩ | ⟨_, rfl, _⟩ | ⟨_, rfl, _⟩ | ⟨_, rfl, _⟩ | ⟨_, rfl, _⟩ | ⟨_, rfl, _⟩ | ⟨_, rfl, _⟩ | ⟨_, rfl, _⟩ | ⟨_, rfl, _⟩ | ⟨_, rfl, _⟩
  · exact lex_wsp 110 [111, 116] r (by decide) (by decide)
  · exact lex_wsp 97 [108, 119, 97, 121, 115] r (by decide) (by decide)
  · exact lex_wsp 101 [118, 101, 110, 116, 117, 97, 108, 108, 121] r (by decide) (by decide)
  · exact lex_wsp 97 [102, 116, 101, 114] r (by decide) (by decide)
  · exact lex_wsp 110 [111] r (by decide) (by decide)
  · exact lex_wsp 115 [111, 109, 101] r (by decide) (by decide)
  · exact lex_wsp 111 [110, 101] r (by decide) (by decide)
  · exact lex_wsp 108 [111, 110, 101] r (by decide) (by decide)
  · exact lex_one 35 r (by decide)
  · exact lex_one 126 r (by decide)
  · exact lex_one 94 r (by decide)
  · exact lex_one 42 r (by decide)
/-- A number's digits. -/
def digsB (s : List UInt8) : Bool := match s with
  | [] => false
  | c :: q => digU c && q.all digU
theorem itoa_digs : ∀ k : Fin 65, digsB (Lib.itoa (k.val : Int)) = true ∧ (1 ≤ k.val → Lib.itoa (-(k.val : Int)) = 45 :: Lib.itoa (k.val : Int)) := by decide +kernel
theorem stopW_dig {r : List UInt8} (h : stopW r) : ∀ d q, r = d :: q → digU d = false := fun d q e => by
  have := h d q e
  unfold wordU okU at this
  unfold digU
  simp only [Bool.or_eq_false_iff] at this
  exact this.2
theorem lex_digs (s r : List UInt8) (hs : digsB s = true) (hr : stopW r) : lexB (s ++ r) = (2, s) :: lexB r := by
  cases s with
  | nil => cases hs
  | cons c q =>
    simp only [digsB, Bool.and_eq_true, List.all_eq_true] at hs
    exact lex_num c q r hs.1 hs.2 (stopW_dig hr)
theorem lex_lit (n : Int) (h0 : -64 ≤ n) (h1 : n ≤ 64) (r : List UInt8) (hr : stopW r) : lexB (Lib.itoa n ++ r) = numTok n ++ lexB r := by
  unfold numTok
  by_cases hn : n < 0
  · obtain ⟨k, rfl⟩ : ∃ k : Nat, n = -(k : Int) := ⟨(-n).toNat, by omega⟩
    have hk := itoa_digs ⟨k, by omega⟩
    have e := hk.2 (by show 1 ≤ k; omega)
    simp only at e hk
    rw [if_pos hn, e]
    have : (0 : Int) - -(k : Int) = k := by omega
    rw [this]
    cases hs : Lib.itoa (k : Int) with
    | nil => rw [hs] at hk; exact absurd hk.1 (by decide)
    | cons c q =>
      have hd := hk.1
      rw [hs] at hd
      have hdc : digU c = true := by simp only [digsB, Bool.and_eq_true] at hd; exact hd.1
      have hc62 : c ≠ 62 := by intro h; rw [h] at hdc; revert hdc; decide
      have h45 : lexB (45 :: (c :: q ++ r)) = (3, [45]) :: lexB (c :: q ++ r) := by
        refine lex_sym 45 [] (c :: q ++ r) (by decide) (by decide) (by decide) ?_
        simp [symL, List.isPrefixOf, hc62, Ne.symm hc62]
      rw [List.cons_append, h45, lex_digs (c :: q) r hd hr]
      rfl
  · obtain ⟨k, rfl⟩ : ∃ k : Nat, n = (k : Int) := ⟨n.toNat, by omega⟩
    rw [if_neg hn, lex_digs _ r (itoa_digs ⟨k, by omega⟩).1 hr]
    rfl
end Go.Proofs.YtgdiodhaihmnbaaDoor.Own
namespace Go.Proofs.YtgdiodhaihmnbaaDoor.Own
open Go.Proofs.YtgdiodhaihmnbaaDoor.PPrinterMatchesReference
theorem name_bytes {s : ByteArray} (h : nameB s = true) : ∃ c q, s.data.toList = c :: q ∧ letU c.toNat = true ∧ ∀ d ∈ q, wordU d = true := by
  simp only [nameB, Bool.and_eq_true, decide_eq_true_eq, List.all_eq_true, List.mem_range] at h
  obtain ⟨⟨⟨h1, _⟩, _⟩, hall⟩ := h
  have hl : s.data.toList.length = s.size := Array.length_toList
  cases hs : s.data.toList with
  | nil => rw [hs] at hl; simp at hl; omega
  | cons c q =>
    refine ⟨c, q, rfl, ?_, fun d hd => ?_⟩
    · have := hall 0 (by omega)
      simpa [okAt, byteAt, hs] using this
    · obtain ⟨i, hi, rfl⟩ := List.getElem_of_mem hd
      have := hall (i + 1) (by rw [← hl, hs]; simp; omega)
      simpa [okAt, byteAt, hs, wordU, hi] using this
theorem lex_name {s : ByteArray} (h : nameB s = true) (r : List UInt8) (hr : stopW r) : lexB (s.data.toList ++ r) = wrdT s.data.toList :: lexB r := by
  obtain ⟨c, q, e, hc, hq⟩ := name_bytes h
  rw [e]
  exact lex_word c q r hc hq hr
def oprT (x : S24) (need : Int) (fin : Bool) : List Tok := if bare x.f0 need fin then toks x fin else [symT [40]] ++ toks x true ++ [symT [41]]
def bndT (x : S24) : List Tok := [wrdT x.f1.data.toList, symT [58]] ++ opdT x.f3 0 8 true ++ [symT [124]] ++ nodT x.f3 1
theorem toks_def (x : S24) (fin : Bool) : toks x fin = match atT x.f0 binT with
    | some (t, _, a, b) => opdT x.f3 0 a false ++ [opTok t] ++ opdT x.f3 1 b fin
    | none => match atT x.f0 preT with
      | some (t, _, a, _) => [opTok t] ++ opdT x.f3 0 a fin
      | none =>
        if x.f0 = 1 then [wrdT x.f1.data.toList]
        else if x.f0 = 2 then [wrdT [110, 111, 110, 101]] ++ (if x.f2 = 1 then [] else [symT [91]] ++ numTok x.f2 ++ [symT [93]])
        else if x.f0 = 20 then numTok x.f2
        else if x.f0 = 5 then opdT x.f3 0 14 false ++ [symT [39]]
        else if x.f0 = 45 then [wrdT [97, 108, 108]] ++ bndT x
        else if x.f0 = 46 then [wrdT [115, 111, 109, 101]] ++ bndT x
        else if x.f0 = 15 then [symT [123]] ++ bndT x ++ [symT [125]]
        else if x.f0 = 47 then [wrdT x.f1.data.toList, symT [91]] ++ argT x.f3 true ++ [symT [93]]
        else [wrdT (wordT x.f0)] := by cases x; rw [toks]; rfl
/-- The tree's text is cut as it should. -/
def LexOK (x : S24) : Prop := ∀ fin r, stopW r → lexB (txt x fin ++ r) = toks x fin ++ lexB r
theorem stopW_c (c : UInt8) (r : List UInt8) (h : wordU c = false) : stopW (c :: r) := fun d q e => by injection e with e _; rw [← e]; exact h
theorem lex_opr (x : S24) (h : LexOK x) (need : Int) (fin : Bool) (r : List UInt8) (hr : stopW r) : lexB ((if bare x.f0 need fin then txt x fin else [40] ++ txt x true ++ [41]) ++ r) = (if bare x.f0 need fin then toks x fin else [symT [40]] ++ toks x true ++ [symT [41]]) ++ lexB r := by
  split
  · exact h fin r hr
  · have e : [40] ++ txt x true ++ [41] ++ r = 40 :: (txt x true ++ 41 :: r) := by simp
    rw [e, lex_one 40 _ (by decide), h true _ (stopW_c 41 r (by decide)), lex_one 41 r (by decide)]
    simp [symT]
theorem lex_opd : ∀ (ks : List S24), (∀ y ∈ ks, LexOK y) → ∀ (i : Nat) (need : Int) (fin : Bool) (r : List UInt8), stopW r → lexB (opd ks i need fin ++ r) = opdT ks i need fin ++ lexB r
  | [], _, _, _, _, r, _ => by simp [opd, opdT]
  | x :: _, h, 0, need, fin, r, hr => by rw [opd, opdT]; exact lex_opr x (h x List.mem_cons_self) need fin r hr
  | _ :: q, h, i + 1, need, fin, r, hr => by rw [opd, opdT]; exact lex_opd q (fun y hy => h y (List.mem_cons_of_mem _ hy)) i need fin r hr
theorem lex_nod : ∀ (ks : List S24), (∀ y ∈ ks, LexOK y) → ∀ (i : Nat) (r : List UInt8), stopW r → lexB (nod ks i ++ r) = nodT ks i ++ lexB r
  | [], _, _, r, _ => by simp [nod, nodT]
  | x :: _, h, 0, r, hr => by rw [nod, nodT]; exact h x List.mem_cons_self true r hr
  | _ :: q, h, i + 1, r, hr => by rw [nod, nodT]; exact lex_nod q (fun y hy => h y (List.mem_cons_of_mem _ hy)) i r hr
theorem stop_argl (q : List S24) (r : List UInt8) (hr : stopW r) : stopW (argl q false ++ r) := by
  cases q with
  | nil => simpa [argl] using hr
  | cons y q => rw [argl]; simp only [Bool.false_eq_true, if_false, List.cons_append, List.append_assoc]; exact stopW_c 44 _ (by decide)
theorem lex_argl : ∀ (ks : List S24), (∀ y ∈ ks, LexOK y) → ∀ (first : Bool) (r : List UInt8), stopW r → lexB (argl ks first ++ r) = argT ks first ++ lexB r
  | [], _, _, r, _ => by simp [argl, argT]
  | x :: q, h, first, r, hr => by
    rw [argl, argT]
    have h1 := lex_opr x (h x List.mem_cons_self) 8 true (argl q false ++ r) (stop_argl q r hr)
    have h2 := lex_argl q (fun y hy => h y (List.mem_cons_of_mem _ hy)) false r hr
    cases first
    · simp only [Bool.false_eq_true, if_false, List.append_assoc, List.cons_append, List.nil_append] at h1 ⊢
      rw [lex_one 44 _ (by decide), lex_sp, h1, h2]
      simp [symT]
    · simp only [if_true, List.append_assoc, List.nil_append] at h1 ⊢
      rw [h1, h2]
end Go.Proofs.YtgdiodhaihmnbaaDoor.Own
namespace Go.Proofs.YtgdiodhaihmnbaaDoor.Own
open Go.Proofs.YtgdiodhaihmnbaaDoor.PPrinterMatchesReference
theorem atS_mem {k : Int} {v : List UInt8} : ∀ {T : List (Int × List UInt8)}, atS k T = some v → (k, v) ∈ T
  | [], h => by cases h
  | (a, u) :: r, h => by
    rw [atS] at h
    split at h
    · rename_i e; subst e; cases h; exact List.mem_cons_self
    · exact List.mem_cons_of_mem _ (atS_mem h)
theorem fits_cases {op : Int} {ks : List S24} (h : fitsB op ks = true) :
    (op = 47 ∧ ∀ y ∈ ks, kindC y.f0 = 101) ∨ (op ≠ 47 ∧ ∃ l, atS op shapeT = some l ∧ l.length = ks.length ∧ ∀ i < ks.length, kindC (ks.getD i z24).f0 = ((l.getD i 0).toNat : Int)) := by
  unfold fitsB shapeS at h
  by_cases h47 : op = 47
  · left
    refine ⟨h47, fun y hy => ?_⟩
    rw [if_pos h47] at h
    simp only [Bool.and_eq_true, List.all_eq_true, List.mem_range, kindAt, beq_iff_eq] at h
    obtain ⟨i, hi, rfl⟩ := List.getElem_of_mem hy
    have := h.2 i hi
    simpa [hi] using this
  · right
    rw [if_neg h47] at h
    refine ⟨h47, ?_⟩
    cases hs : atS op shapeT with
    | none => rw [hs] at h; cases h
    | some l =>
      rw [hs] at h
      simp only [Bool.and_eq_true, decide_eq_true_eq, List.all_eq_true, List.mem_range, kindAt, beq_iff_eq] at h
      exact ⟨l, rfl, h.1, h.2⟩
/-- What a valid tree's own fields are. -/
theorem frm_own {x : S24} {lv : Int} (h : frmN x lv = true) : ownB x = true ∧ fitsB x.f0 x.f3 = true ∧ frmL x.f3 (lv - 1) = true := by
  rw [frmN_def] at h
  simp only [Bool.and_eq_true] at h
  exact ⟨h.1.1.2, h.1.2, h.2⟩
theorem frmL_mem : ∀ {l : List S24} {lv : Int}, frmL l lv = true → ∀ y ∈ l, frmN y lv = true
  | [], _, _, y, hy => by cases hy
  | x :: r, lv, h, y, hy => by
    rw [frmL, Bool.and_eq_true] at h
    rcases List.mem_cons.1 hy with rfl | hy
    · exact h.1
    · exact frmL_mem h.2 y hy
theorem own_name {x : S24} (h : ownB x = true) (hn : named x.f0 = true) : nameB x.f1 = true := by
  unfold ownB at h
  simp only [Bool.and_eq_true, hn] at h
  simpa using h.1.1
theorem own_none {x : S24} (h : ownB x = true) (hn : x.f0 = 2) : 1 ≤ x.f2 ∧ x.f2 ≤ 3 := by
  unfold ownB at h
  simp only [Bool.and_eq_true, hn, if_true, decide_eq_true_eq] at h
  exact h.2
theorem own_lit {x : S24} (h : ownB x = true) (hn : x.f0 = 20) : -64 ≤ x.f2 ∧ x.f2 ≤ 64 := by
  unfold ownB at h
  rw [hn] at h
  simp only [Bool.and_eq_true] at h
  simpa using h.2
theorem stop_row : ∀ v ∈ binT, ∀ q, stopW (v.2.1 ++ q) := by
  intro v hv q
  have : ∀ v ∈ binT, ∃ c p, v.2.1 = c :: p ∧ wordU c = false := by
    intro v hv
    have : ∀ v ∈ binT, (match v.2.1 with | [] => false | c :: _ => !wordU c) = true := by decide
    have := this v hv
    cases hs : v.2.1 with
    | nil => rw [hs] at this; cases this
    | cons c p => rw [hs] at this; exact ⟨c, p, rfl, by simpa using this⟩
  obtain ⟨c, p, e, hc⟩ := this v hv
  rw [e]
  exact stopW_c c _ hc
theorem stop_bin {k : Int} {t : List UInt8} {l a b : Int} (h : atT k binT = some (t, l, a, b)) (q : List UInt8) : stopW (t ++ q) := stop_row _ (atT_mem' h) q
theorem lex_bnd (x : S24) (hk : ∀ y ∈ x.f3, LexOK y) (hn : nameB x.f1 = true) (r : List UInt8) (hr : stopW r) : lexB (bnd x ++ r) = bndT x ++ lexB r := by
  have e : bnd x ++ r = x.f1.data.toList ++ (58 :: 32 :: (opd x.f3 0 8 true ++ (32 :: 124 :: 32 :: (nod x.f3 1 ++ r)))) := by simp [bnd]
  have h124 : lexB (32 :: 124 :: 32 :: (nod x.f3 1 ++ r)) = symT [124] :: lexB (nod x.f3 1 ++ r) := by
    have := lex_symsp 124 [] (nod x.f3 1 ++ r) (by decide) (by decide) (by decide) (by simp [symL, List.isPrefixOf])
    simpa [symT] using this
  rw [e, lex_name hn _ (stopW_c 58 _ (by decide)), lex_one 58 _ (by decide), lex_sp, lex_opd x.f3 hk 0 8 true _ (stopW_sp _), h124, lex_nod x.f3 hk 1 r hr]
  simp [bndT, symT]
theorem shape_bare : ∀ v ∈ shapeT, atT v.1 binT = none → atT v.1 preT = none → v.1 ∈ ([1, 2, 20, 5, 45, 46, 15, 3, 4, 30, 31] : List Int) := by decide
theorem lex_txt (n : Nat) : ∀ (x : S24), SizeOf.sizeOf x < n → ∀ lv, frmN x lv = true → LexOK x := by
  induction n with
  | zero => intro x h; omega
  | succ n ih =>
    intro x hx lv hf fin r hr
    obtain ⟨hown, hfit, hkids⟩ := frm_own hf
    have hk : ∀ y ∈ x.f3, LexOK y := fun y hy => ih y (by have := size_kid hy; omega) (lv - 1) (frmL_mem hkids y hy)
    rw [txt_def, toks_def]
    cases hb : atT x.f0 binT with
    | some v =>
      obtain ⟨t, l, a, b⟩ := v
      simp only [List.append_assoc]
      rw [lex_opd x.f3 hk 0 a false _ (stop_bin hb _), lex_bin hb, lex_opd x.f3 hk 1 b fin r hr]
      simp
    | none =>
      cases hp : atT x.f0 preT with
      | some v =>
        obtain ⟨t, l, a, b⟩ := v
        simp only [List.append_assoc]
        rw [lex_pre hp, lex_opd x.f3 hk 0 a fin r hr]
        simp
      | none =>
        dsimp only
        by_cases h1 : x.f0 = 1
        · rw [if_pos h1, if_pos h1, lex_name (own_name hown (by rw [h1]; rfl)) r hr]; rfl
        rw [if_neg h1, if_neg h1]
        by_cases h2 : x.f0 = 2
        · rw [if_pos h2, if_pos h2]
          have hw : ∀ q, stopW q → lexB ([110, 111, 110, 101] ++ q) = wrdT [110, 111, 110, 101] :: lexB q := fun q hq => lex_word 110 [111, 110, 101] q (by decide) (by decide) hq
          by_cases hn : x.f2 = 1
          · rw [if_pos hn, if_pos hn]; simp only [List.append_nil]; exact hw r hr
          · rw [if_neg hn, if_neg hn]
            have := own_none hown h2
            have e : [110, 111, 110, 101] ++ ([91] ++ Lib.itoa x.f2 ++ [93]) ++ r = [110, 111, 110, 101] ++ (91 :: (Lib.itoa x.f2 ++ 93 :: r)) := by simp
            rw [e, hw _ (stopW_c 91 _ (by decide)), lex_one 91 _ (by decide), lex_lit x.f2 (by omega) (by omega) _ (stopW_c 93 _ (by decide)), lex_one 93 r (by decide)]
            simp [symT]
        rw [if_neg h2, if_neg h2]
        by_cases h20 : x.f0 = 20
        · rw [if_pos h20, if_pos h20]
          have := own_lit hown h20
          exact lex_lit x.f2 this.1 this.2 r hr
        rw [if_neg h20, if_neg h20]
        by_cases h5 : x.f0 = 5
        · rw [if_pos h5, if_pos h5]
          have e : opd x.f3 0 14 false ++ [39] ++ r = opd x.f3 0 14 false ++ 39 :: r := by simp
          rw [e, lex_opd x.f3 hk 0 14 false _ (stopW_c 39 _ (by decide)), lex_one 39 r (by decide)]
          simp [symT]
        rw [if_neg h5, if_neg h5]
        by_cases h45 : x.f0 = 45
        · rw [if_pos h45, if_pos h45]
          have e : [97, 108, 108, 32] ++ bnd x ++ r = (97 :: [108, 108] ++ [32]) ++ (bnd x ++ r) := by simp
          rw [e, lex_wsp 97 [108, 108] _ (by decide) (by decide), lex_bnd x hk (own_name hown (by rw [h45]; rfl)) r hr]
          rfl
        rw [if_neg h45, if_neg h45]
        by_cases h46 : x.f0 = 46
        · rw [if_pos h46, if_pos h46]
          have e : [115, 111, 109, 101, 32] ++ bnd x ++ r = (115 :: [111, 109, 101] ++ [32]) ++ (bnd x ++ r) := by simp
          rw [e, lex_wsp 115 [111, 109, 101] _ (by decide) (by decide), lex_bnd x hk (own_name hown (by rw [h46]; rfl)) r hr]
          rfl
        rw [if_neg h46, if_neg h46]
        by_cases h15 : x.f0 = 15
        · rw [if_pos h15, if_pos h15]
          have e : [123] ++ bnd x ++ [125] ++ r = 123 :: (bnd x ++ 125 :: r) := by simp
          rw [e, lex_one 123 _ (by decide), lex_bnd x hk (own_name hown (by rw [h15]; rfl)) _ (stopW_c 125 _ (by decide)), lex_one 125 r (by decide)]
          simp [symT]
        rw [if_neg h15, if_neg h15]
        by_cases h47 : x.f0 = 47
        · rw [if_pos h47, if_pos h47]
          have e : x.f1.data.toList ++ [91] ++ argl x.f3 true ++ [93] ++ r = x.f1.data.toList ++ (91 :: (argl x.f3 true ++ 93 :: r)) := by simp
          rw [e, lex_name (own_name hown (by rw [h47]; rfl)) _ (stopW_c 91 _ (by decide)), lex_one 91 _ (by decide), lex_argl x.f3 hk true _ (stopW_c 93 _ (by decide)), lex_one 93 r (by decide)]
          simp [symT]
        rw [if_neg h47, if_neg h47]
        rcases fits_cases hfit with ⟨h, _⟩ | ⟨_, l, hl, _, _⟩
        · exact absurd h h47
        · have := shape_bare _ (atS_mem hl) hb hp
          simp only [List.mem_cons, List.not_mem_nil, or_false] at this
          rcases this with h | h | h | h | h | h | h | h | h | h | h
          · exact absurd h h1
          · exact absurd h h2
          · exact absurd h h20
          · exact absurd h h5
          · exact absurd h h45
          · exact absurd h h46
          · exact absurd h h15
          · rw [h]; exact lex_word 117 [110, 105, 118] r (by decide) (by decide) hr
          · rw [h]; exact lex_word 105 [100, 101, 110] r (by decide) (by decide) hr
          · rw [h]; exact lex_word 116 [114, 117, 101] r (by decide) (by decide) hr
          · rw [h]; exact lex_word 102 [97, 108, 115, 101] r (by decide) (by decide) hr
end Go.Proofs.YtgdiodhaihmnbaaDoor.Own
namespace Go.Proofs.YtgdiodhaihmnbaaDoor.Own
open Go.Proofs.YtgdiodhaihmnbaaDoor.PPrinterMatchesReference
def emp : ByteArray := ⟨#[]⟩
mutual
/-- A tree without its offsets. -/
def strip : S24 → S24
  | ⟨op, s, n, ks, _⟩ => ⟨op, s, n, stripL ks, 0⟩
def stripL : List S24 → List S24
  | [] => []
  | x :: r => strip x :: stripL r
end
/-- A node whose kids have the kinds that its operator asks for. -/
def nodeP (x : S24) : Option S24 := if fitsB x.f0 x.f3 then some x else none
def atK {α : Type} (t : Tok) : List (Tok × α) → Option α
  | [] => none
  | (k, v) :: r => if t = k then some v else atK t r
/-- Binary operators: level, the right operand's level, the operators for relations and for other kinds. -/
def bopT : List (Tok × Int × Int × Int × Int) := [(symT [60, 61, 62], 1, 2, 0, 44), (symT [61, 62], 2, 2, 0, 43), (symT [124, 124], 3, 4, 0, 42), (symT [38, 38], 4, 5, 0, 41), (wrdT [117, 110, 116, 105, 108], 5, 5, 0, 51), (wrdT [105, 110], 7, 8, 32, 0), (symT [61], 7, 8, 33, 38), (symT [33, 61], 7, 8, 33, 38), (symT [60], 7, 8, 0, 39), (symT [60, 61], 7, 8, 0, 39), (symT [43], 8, 9, 6, 22), (symT [45], 8, 9, 8, 23), (symT [43, 43], 9, 10, 14, 0), (symT [38], 10, 11, 7, 0), (symT [45, 62], 11, 12, 10, 0), (symT [46], 12, 13, 9, 0)]
/-- Prefix operators: the operand's level, the operator. -/
def uopT : List (Tok × Int × Int) := [(wrdT [110, 111, 116], 6, 40), (wrdT [97, 108, 119, 97, 121, 115], 6, 48), (wrdT [101, 118, 101, 110, 116, 117, 97, 108, 108, 121], 6, 49), (wrdT [97, 102, 116, 101, 114], 6, 50), (wrdT [110, 111], 8, 35), (wrdT [115, 111, 109, 101], 8, 34), (wrdT [111, 110, 101], 8, 36), (wrdT [108, 111, 110, 101], 8, 37), (symT [35], 12, 21), (symT [126], 13, 11), (symT [94], 13, 12), (symT [42], 13, 13)]
def conT : List (Tok × Int) := [(wrdT [116, 114, 117, 101], 30), (wrdT [102, 97, 108, 115, 101], 31), (wrdT [117, 110, 105, 118], 3), (wrdT [105, 100, 101, 110], 4)]
def joinP (t : Tok) (rel alt : Int) (a b : S24) : Option S24 :=
  if (if kindC a.f0 = 101 ∧ rel ≠ 0 then rel else alt) = 0 then none
  else if t = symT [60, 61] then (nodeP ⟨if kindC a.f0 = 101 ∧ rel ≠ 0 then rel else alt, emp, 0, [b, a], 0⟩).map fun z => ⟨40, emp, 0, [z], 0⟩
  else if t = symT [33, 61] then (nodeP ⟨if kindC a.f0 = 101 ∧ rel ≠ 0 then rel else alt, emp, 0, [a, b], 0⟩).map fun z => ⟨40, emp, 0, [z], 0⟩
  else nodeP ⟨if kindC a.f0 = 101 ∧ rel ≠ 0 then rel else alt, emp, 0, [a, b], 0⟩
def isNm (t : Tok) : Bool := t.1 == 1 && !kwB ⟨t.2.toArray⟩
def nameP : List Tok → Option (ByteArray × List Tok)
  | t :: r => if isNm t then some (⟨t.2.toArray⟩, r) else none
  | [] => none
def expP (t : Tok) : List Tok → Option (List Tok)
  | u :: r => if u = t then some r else none
  | [] => none
/-- A name and a colon. -/
def colP (ts : List Tok) : Bool := match ts with
  | t :: u :: _ => isNm t && u == symT [58]
  | _ => false
def numV (s : List UInt8) : Int := s.foldl (fun a c => a * 10 + ((c.toNat : Int) - 48)) 0
/-- A number up to a limit. -/
def numP (m : Int) (t : Tok) : Option Int := if t.1 = 2 ∧ numV t.2 ≤ m then some (numV t.2) else none
def arP (t : Tok) : Option Int := if t = (2, [49]) then some 1 else if t = (2, [50]) then some 2 else if t = (2, [51]) then some 3 else none
mutual
def parP : Nat → Int → List Tok → Option (S24 × List Tok)
  | 0, _, _ => none
  | n + 1, lv, ts => (opdP n ts).bind fun p => lopP n lv p.1 false p.2
def lopP : Nat → Int → S24 → Bool → List Tok → Option (S24 × List Tok)
  | 0, _, _, _, _ => none
  | _ + 1, _, x, _, [] => some (x, [])
  | n + 1, lv, x, c, t :: r => match atK t bopT with
    | none => some (x, t :: r)
    | some (l, nx, rel, alt) => if l < lv ∨ (l = 7 ∧ c = true) then some (x, t :: r) else (parP n nx r).bind fun p => (joinP t rel alt x p.1).bind fun z => lopP n lv z (l == 7) p.2
def opdP : Nat → List Tok → Option (S24 × List Tok)
  | 0, _ => none
  | _ + 1, [] => none
  | n + 1, t :: r => if t = wrdT [97, 108, 108] then qntP n 45 r
    else if t = wrdT [115, 111, 109, 101] ∧ colP r = true then qntP n 46 r
    else match atK t uopT with
      | some (l, op) => (parP n l r).bind fun p => (nodeP ⟨op, emp, 0, [p.1], 0⟩).map fun z => (z, p.2)
      | none => (priP n t r).bind fun p => pstP n p.1 p.2
def pstP : Nat → S24 → List Tok → Option (S24 × List Tok)
  | 0, _, _ => none
  | n + 1, x, ts => match expP (symT [39]) ts with
    | none => some (x, ts)
    | some r => (nodeP ⟨5, emp, 0, [x], 0⟩).bind fun z => pstP n z r
def qntP : Nat → Int → List Tok → Option (S24 × List Tok)
  | 0, _, _ => none
  | n + 1, op, ts => (nameP ts).bind fun p => (expP (symT [58]) p.2).bind fun r => (parP n 8 r).bind fun e => (expP (symT [124]) e.2).bind fun r => (parP n 1 r).bind fun f => (nodeP ⟨op, p.1, 0, [e.1, f.1], 0⟩).map fun z => (z, f.2)
def priP : Nat → Tok → List Tok → Option (S24 × List Tok)
  | 0, _, _ => none
  | n + 1, t, r => match atK t conT with
    | some op => some (⟨op, emp, 0, [], 0⟩, r)
    | none =>
      if t.1 = 2 then (numP 64 t).map fun v => (⟨20, emp, v, [], 0⟩, r)
      else if t = symT [45] then match r with
        | u :: q => (numP 64 u).map fun v => (⟨20, emp, -v, [], 0⟩, q)
        | [] => none
      else if t = wrdT [110, 111, 110, 101] then match expP (symT [91]) r with
        | none => some (⟨2, emp, 1, [], 0⟩, r)
        | some (u :: q) => (arP u).bind fun v => (expP (symT [93]) q).map fun q => (⟨2, emp, v, [], 0⟩, q)
        | some [] => none
      else if t = symT [123] then (qntP n 15 r).bind fun p => (expP (symT [125]) p.2).map fun q => (p.1, q)
      else if t = symT [40] then (parP n 1 r).bind fun p => (expP (symT [41]) p.2).map fun q => (p.1, q)
      else if isNm t then match expP (symT [91]) r with
        | some q => calP n ⟨t.2.toArray⟩ [] q
        | none => some (⟨1, ⟨t.2.toArray⟩, 0, [], 0⟩, r)
      else none
def calP : Nat → ByteArray → List S24 → List Tok → Option (S24 × List Tok)
  | 0, _, _, _ => none
  | n + 1, s, ks, ts => match expP (symT [93]) ts with
    | some r => (nodeP ⟨47, s, 0, ks, 0⟩).map fun z => (z, r)
    | none => (if ks.isEmpty then some ts else expP (symT [44]) ts).bind fun r => (parP n 8 r).bind fun p => calP n s (ks ++ [p.1]) p.2
end
/-- With enough fuel. -/
def Evt {α : Type} (f : Nat → Option α) (v : α) : Prop := ∃ N, ∀ n, N ≤ n → f n = some v
theorem evt_const {α : Type} {f : Nat → Option α} {a : α} (h : ∀ n, f (n + 1) = some a) : Evt f a := ⟨1, fun n hn => by cases n with
  | zero => omega
  | succ n => exact h n⟩
theorem evt_step {α β : Type} {f : Nat → Option α} {g : Nat → Option β} {a : α} {b : β} (hg : Evt g b) (h : ∀ n, g n = some b → f (n + 1) = some a) : Evt f a := by
  obtain ⟨N, hg⟩ := hg
  exact ⟨N + 1, fun n hn => by cases n with
    | zero => omega
    | succ n => exact h n (hg n (by omega))⟩
theorem evt_step2 {α β γ : Type} {f : Nat → Option α} {g : Nat → Option β} {k : Nat → Option γ} {a : α} {b : β} {c : γ} (hg : Evt g b) (hk : Evt k c) (h : ∀ n, g n = some b → k n = some c → f (n + 1) = some a) : Evt f a := by
  obtain ⟨N, hg⟩ := hg
  obtain ⟨M, hk⟩ := hk
  exact ⟨max N M + 1, fun n hn => by cases n with
    | zero => omega
    | succ n => exact h n (hg n (by omega)) (hk n (by omega))⟩
def Par (lv : Int) (ts : List Tok) (v : S24 × List Tok) : Prop := Evt (fun n => parP n lv ts) v
def Lop (lv : Int) (x : S24) (c : Bool) (ts : List Tok) (v : S24 × List Tok) : Prop := Evt (fun n => lopP n lv x c ts) v
def Opd (ts : List Tok) (v : S24 × List Tok) : Prop := Evt (fun n => opdP n ts) v
def Pst (x : S24) (ts : List Tok) (v : S24 × List Tok) : Prop := Evt (fun n => pstP n x ts) v
def Qnt (op : Int) (ts : List Tok) (v : S24 × List Tok) : Prop := Evt (fun n => qntP n op ts) v
def Pri (t : Tok) (ts : List Tok) (v : S24 × List Tok) : Prop := Evt (fun n => priP n t ts) v
def Cal (s : ByteArray) (ks : List S24) (ts : List Tok) (v : S24 × List Tok) : Prop := Evt (fun n => calP n s ks ts) v
/-- The level of a binary operator that a list begins with. -/
def blv : List Tok → Option Int
  | [] => none
  | t :: _ => (atK t bopT).map (·.1)
theorem par_mk {lv : Int} {ts r : List Tok} {x : S24} {v : S24 × List Tok} (h : Opd ts (x, r)) (g : Lop lv x false r v) : Par lv ts v :=
  evt_step2 h g fun n h g => by simp only [parP, h, Option.bind_some, g]
theorem lop_stop {lv : Int} {x : S24} {c : Bool} {ts : List Tok} (h : ∀ l, blv ts = some l → l < lv) : Lop lv x c ts (x, ts) := by
  refine evt_const fun n => ?_
  cases ts with
  | nil => simp only [lopP]
  | cons t r =>
    simp only [lopP]
    simp only [blv] at h
    cases hk : atK t bopT with
    | none => rfl
    | some v =>
      obtain ⟨l, nx, rel, alt⟩ := v
      rw [hk] at h
      have := h l rfl
      simp [this]
theorem lop_go {lv : Int} {x y z : S24} {c : Bool} {t : Tok} {r r' : List Tok} {v : S24 × List Tok} {l nx rel alt : Int} (hk : atK t bopT = some (l, nx, rel, alt)) (h1 : lv ≤ l) (h2 : l = 7 → c = false) (hp : Par nx r (y, r')) (hj : joinP t rel alt x y = some z) (hl : Lop lv z (l == 7) r' v) : Lop lv x c (t :: r) v :=
  evt_step2 hp hl fun n hp hl => by
    have hc : ¬ (l < lv ∨ (l = 7 ∧ c = true)) := by
      rintro (h | ⟨h, h'⟩)
      · omega
      · rw [h2 h] at h'; cases h'
    simp only [lopP, hk]
    rw [if_neg hc, hp]
    simp only [Option.bind_some, hj, hl]
theorem opd_all {r : List Tok} {v : S24 × List Tok} (h : Qnt 45 r v) : Opd (wrdT [97, 108, 108] :: r) v :=
  evt_step h fun n h => by simp only [opdP, if_true, h]
theorem opd_ex {r : List Tok} {v : S24 × List Tok} (hc : colP r = true) (h : Qnt 46 r v) : Opd (wrdT [115, 111, 109, 101] :: r) v :=
  evt_step h fun n h => by
    have h1 : ¬ (wrdT [115, 111, 109, 101] = wrdT [97, 108, 108]) := by decide
    simp only [opdP]
    rw [if_neg h1, if_pos ⟨trivial, hc⟩, h]
theorem opd_pre {t : Tok} {l op : Int} {r r' : List Tok} {y z : S24} (hk : atK t uopT = some (l, op)) (h1 : t ≠ wrdT [97, 108, 108]) (hc : colP r = false) (h : Par l r (y, r')) (hn : nodeP ⟨op, emp, 0, [y], 0⟩ = some z) : Opd (t :: r) (z, r') :=
  evt_step h fun n h => by
    have h2 : ¬ (t = wrdT [115, 111, 109, 101] ∧ colP r = true) := by rw [hc]; simp
    simp only [opdP]
    rw [if_neg h1, if_neg h2, hk]
    simp only [h, Option.bind_some, hn, Option.map_some]
theorem opd_pri {t : Tok} {r r' : List Tok} {y : S24} {v : S24 × List Tok} (hk : atK t uopT = none) (h1 : t ≠ wrdT [97, 108, 108]) (h : Pri t r (y, r')) (g : Pst y r' v) : Opd (t :: r) v :=
  evt_step2 h g fun n h g => by
    have h2 : ¬ (t = wrdT [115, 111, 109, 101] ∧ colP r = true) := by rintro ⟨rfl, _⟩; revert hk; decide
    simp only [opdP]
    rw [if_neg h1, if_neg h2, hk]
    simp only [h, Option.bind_some, g]
theorem pst_stop {x : S24} {ts : List Tok} (h : expP (symT [39]) ts = none) : Pst x ts (x, ts) := evt_const fun n => by simp only [pstP, h]
theorem pst_go {x z : S24} {r : List Tok} {v : S24 × List Tok} (hn : nodeP ⟨5, emp, 0, [x], 0⟩ = some z) (h : Pst z r v) : Pst x (symT [39] :: r) v :=
  evt_step h fun n h => by simp only [pstP, expP, if_true, hn, Option.bind_some, h]
theorem qnt_mk {op : Int} {t : Tok} {r q q' : List Tok} {e f z : S24} (hn : isNm t = true) (he : Par 8 r (e, symT [124] :: q)) (hf : Par 1 q (f, q')) (hz : nodeP ⟨op, ⟨t.2.toArray⟩, 0, [e, f], 0⟩ = some z) : Qnt op (t :: symT [58] :: r) (z, q') :=
  evt_step2 he hf fun n he hf => by simp only [qntP, nameP, hn, if_true, Option.bind_some, expP, he, hf, hz, Option.map_some]
theorem pri_con {t : Tok} {r : List Tok} {op : Int} (h : atK t conT = some op) : Pri t r (⟨op, emp, 0, [], 0⟩, r) := evt_const fun n => by simp only [priP, h]
theorem pri_num {s : List UInt8} {r : List Tok} (h : numV s ≤ 64) : Pri (2, s) r (⟨20, emp, numV s, [], 0⟩, r) := evt_const fun n => by
  have h0 : atK ((2, s) : Tok) conT = none := by simp [atK, conT, wrdT]
  simp only [priP, h0, if_true, numP, h, and_self, Option.map_some]
theorem pri_neg {s : List UInt8} {r : List Tok} (h : numV s ≤ 64) : Pri (symT [45]) ((2, s) :: r) (⟨20, emp, -numV s, [], 0⟩, r) := evt_const fun n => by
  have h0 : atK (symT [45]) conT = none := by decide
  have h1 : ¬ ((symT [45]).1 = 2) := by decide
  simp only [priP, h0]
  rw [if_neg h1, if_pos trivial]
  simp only [numP, h, and_self, if_true, Option.map_some]
theorem pri_none1 {r : List Tok} (h : expP (symT [91]) r = none) : Pri (wrdT [110, 111, 110, 101]) r (⟨2, emp, 1, [], 0⟩, r) := evt_const fun n => by
  have h0 : atK (wrdT [110, 111, 110, 101]) conT = none := by decide
  have h1 : ¬ ((wrdT [110, 111, 110, 101]).1 = 2) := by decide
  have h2 : ¬ (wrdT [110, 111, 110, 101] = symT [45]) := by decide
  simp only [priP, h0]
  rw [if_neg h1, if_neg h2, if_pos trivial]
  simp only [h]
theorem pri_none {u : Tok} {k : Int} {r : List Tok} (h : arP u = some k) : Pri (wrdT [110, 111, 110, 101]) (symT [91] :: u :: symT [93] :: r) (⟨2, emp, k, [], 0⟩, r) := evt_const fun n => by
  have h0 : atK (wrdT [110, 111, 110, 101]) conT = none := by decide
  have h1 : ¬ ((wrdT [110, 111, 110, 101]).1 = 2) := by decide
  have h2 : ¬ (wrdT [110, 111, 110, 101] = symT [45]) := by decide
  simp only [priP, h0]
  rw [if_neg h1, if_neg h2, if_pos trivial]
  simp only [expP, if_true, h, Option.bind_some, Option.map_some]
theorem pri_brace {r q : List Tok} {z : S24} (h : Qnt 15 r (z, symT [125] :: q)) : Pri (symT [123]) r (z, q) :=
  evt_step h fun n h => by
    have h0 : atK (symT [123]) conT = none := by decide
    have h1 : ¬ ((symT [123]).1 = 2) := by decide
    have h2 : ¬ (symT [123] = symT [45]) := by decide
    have h3 : ¬ (symT [123] = wrdT [110, 111, 110, 101]) := by decide
    simp only [priP, h0]
    rw [if_neg h1, if_neg h2, if_neg h3, if_pos trivial]
    simp only [h, Option.bind_some, expP, if_true, Option.map_some]
theorem pri_paren {r q : List Tok} {z : S24} (h : Par 1 r (z, symT [41] :: q)) : Pri (symT [40]) r (z, q) :=
  evt_step h fun n h => by
    have h0 : atK (symT [40]) conT = none := by decide
    have h1 : ¬ ((symT [40]).1 = 2) := by decide
    have h2 : ¬ (symT [40] = symT [45]) := by decide
    have h3 : ¬ (symT [40] = wrdT [110, 111, 110, 101]) := by decide
    have h4 : ¬ (symT [40] = symT [123]) := by decide
    simp only [priP, h0]
    rw [if_neg h1, if_neg h2, if_neg h3, if_neg h4, if_pos trivial]
    simp only [h, Option.bind_some, expP, if_true, Option.map_some]
theorem nm_word {t : Tok} (h : isNm t = true) : t.1 = 1 ∧ kwB ⟨t.2.toArray⟩ = false := by
  unfold isNm at h
  simp only [Bool.and_eq_true, beq_iff_eq, Bool.not_eq_true'] at h
  exact h
theorem nm_no {t : Tok} (h : isNm t = true) (u : Tok) (hu : isNm u = false) : t ≠ u := by
  rintro rfl
  rw [h] at hu
  cases hu
theorem nm_con {t : Tok} (h : isNm t = true) : atK t conT = none := by
  have h1 := nm_no h (wrdT [116, 114, 117, 101]) (by decide +kernel)
  have h2 := nm_no h (wrdT [102, 97, 108, 115, 101]) (by decide +kernel)
  have h3 := nm_no h (wrdT [117, 110, 105, 118]) (by decide +kernel)
  have h4 := nm_no h (wrdT [105, 100, 101, 110]) (by decide +kernel)
  simp [atK, conT, h1, h2, h3, h4]
theorem atK_none {α : Type} {t : Tok} : ∀ {T : List (Tok × α)}, (∀ v ∈ T, t ≠ v.1) → atK t T = none
  | [], _ => rfl
  | (k, v) :: r, h => by
    rw [atK, if_neg (h (k, v) List.mem_cons_self)]
    exact atK_none fun v hv => h v (List.mem_cons_of_mem _ hv)
theorem nm_uop {t : Tok} (h : isNm t = true) : atK t uopT = none := atK_none fun v hv => nm_no h v.1 (by revert v; decide +kernel)
theorem pri_name {t : Tok} {r : List Tok} (h : isNm t = true) (hr : expP (symT [91]) r = none) : Pri t r (⟨1, ⟨t.2.toArray⟩, 0, [], 0⟩, r) := evt_const fun n => by
  have h1 : ¬ (t.1 = 2) := by rw [(nm_word h).1]; decide
  have h2 := nm_no h (symT [45]) (by decide +kernel)
  have h3 := nm_no h (wrdT [110, 111, 110, 101]) (by decide +kernel)
  have h4 := nm_no h (symT [123]) (by decide +kernel)
  have h5 := nm_no h (symT [40]) (by decide +kernel)
  simp only [priP, nm_con h]
  rw [if_neg h1, if_neg h2, if_neg h3, if_neg h4, if_neg h5, if_pos h]
  simp only [hr]
theorem pri_call {t : Tok} {r : List Tok} {v : S24 × List Tok} (h : isNm t = true) (hc : Cal ⟨t.2.toArray⟩ [] r v) : Pri t (symT [91] :: r) v :=
  evt_step hc fun n hc => by
    have h1 : ¬ (t.1 = 2) := by rw [(nm_word h).1]; decide
    have h2 := nm_no h (symT [45]) (by decide +kernel)
    have h3 := nm_no h (wrdT [110, 111, 110, 101]) (by decide +kernel)
    have h4 := nm_no h (symT [123]) (by decide +kernel)
    have h5 := nm_no h (symT [40]) (by decide +kernel)
    simp only [priP, nm_con h]
    rw [if_neg h1, if_neg h2, if_neg h3, if_neg h4, if_neg h5, if_pos h]
    simp only [expP, if_true, hc]
theorem cal_end {s : ByteArray} {ks : List S24} {r : List Tok} {z : S24} (hz : nodeP ⟨47, s, 0, ks, 0⟩ = some z) : Cal s ks (symT [93] :: r) (z, r) := evt_const fun n => by simp only [calP, expP, if_true, hz, Option.map_some]
theorem cal_go {s : ByteArray} {ks : List S24} {ts r q : List Tok} {y : S24} {v : S24 × List Tok} (h0 : expP (symT [93]) ts = none) (h1 : (if ks.isEmpty then some ts else expP (symT [44]) ts) = some r) (hp : Par 8 r (y, q)) (hc : Cal s (ks ++ [y]) q v) : Cal s ks ts v :=
  evt_step2 hp hc fun n hp hc => by simp only [calP, h0, h1, Option.bind_some, hp, hc]
theorem par_nil {lv : Int} {v : S24 × List Tok} : ¬ Par lv [] v := by
  rintro ⟨N, h⟩
  have := h (N + 2) (by omega)
  simp only [parP, opdP] at this
  cases this
end Go.Proofs.YtgdiodhaihmnbaaDoor.Own
namespace Go.Proofs.YtgdiodhaihmnbaaDoor.Own
open Go.Proofs.YtgdiodhaihmnbaaDoor.PPrinterMatchesReference
theorem strip_def (x : S24) : strip x = ⟨x.f0, x.f1, x.f2, stripL x.f3, 0⟩ := by cases x; rw [strip]
theorem stripL_len : ∀ l : List S24, (stripL l).length = l.length
  | [] => by rw [stripL]
  | x :: r => by rw [stripL, List.length_cons, List.length_cons, stripL_len r]
theorem strip_f0 (x : S24) : (strip x).f0 = x.f0 := by rw [strip_def]
theorem stripL_f0 : ∀ (l : List S24) (i : Nat), ((stripL l).getD i z24).f0 = (l.getD i z24).f0
  | [], i => by rw [stripL]
  | x :: r, 0 => by rw [stripL]; exact strip_f0 x
  | x :: r, i + 1 => by rw [stripL]; simpa using stripL_f0 r i
theorem fits_strip (op : Int) (l : List S24) : fitsB op (stripL l) = fitsB op l := by
  unfold fitsB
  rw [stripL_len]
  cases shapeS op l.length with
  | none => rfl
  | some s =>
    have : kindAt s (stripL l) = kindAt s l := funext fun i => by unfold kindAt; rw [stripL_f0]
    simp only [this]
theorem node_strip {x : S24} (h : fitsB x.f0 x.f3 = true) : nodeP (strip x) = some (strip x) := by
  rw [strip_def, nodeP]
  simp only [fits_strip, h, if_true]
theorem own_plain {x : S24} (h : ownB x = true) (hn : named x.f0 = false) : x.f1 = emp := by
  unfold ownB at h
  simp only [Bool.and_eq_true, hn, Bool.false_or] at h
  have := h.1.2
  rw [List.isEmpty_iff, ByteArray.toList_eq] at this
  have e : x.f1 = ⟨x.f1.data.toList.toArray⟩ := by simp
  rw [e, this]
  rfl
theorem own_zero {x : S24} (h : ownB x = true) (h2 : x.f0 ≠ 2) (h20 : x.f0 ≠ 20) : x.f2 = 0 := by
  unfold ownB at h
  simp only [Bool.and_eq_true, h2, h20, if_false, beq_iff_eq] at h
  exact h.2
/-- How strong an operator may follow. -/
def rnd (op : Int) : Int := match atT op binT with
  | some (_, _, _, b) => b
  | none => match atT op preT with
    | some (_, _, a, _) => a
    | none => 100
def openB (op : Int) : Bool := decide (op = 45) || decide (op = 46)
def cmpB (op : Int) : Bool := match atT op binT with
  | some (_, l, _, _) => l == 7
  | none => false
def kid0 (op : Int) : Int := ((((atS op shapeT).getD []).getD 0 0).toNat : Int)
theorem bin_row {op : Int} {t : List UInt8} {l a b : Int} (h : atT op binT = some (t, l, a, b)) :
    ∃ rel alt k0 k1, atK (opTok t) bopT = some (l, b, rel, alt) ∧ atS op shapeT = some [k0, k1] ∧ (if (k0.toNat : Int) = 101 ∧ rel ≠ 0 then rel else alt) = op ∧ op ≠ 0 ∧ opTok t ≠ symT [60, 61] ∧ opTok t ≠ symT [33, 61] ∧ opTok t ≠ symT [39] ∧ opTok t ≠ symT [91] ∧ opTok t ≠ symT [58] ∧ isNm (opTok t) = false ∧ (1 ≤ l ∧ l ≤ a ∧ l ≤ b ∧ a ≤ 14 ∧ b ≤ 14) ∧ (l = 7 → a = 8) ∧ named op = false ∧ op ≠ 2 ∧ op ≠ 20 := by
  have hm := atT_mem' h
  simp only [binT, List.mem_cons, List.not_mem_nil, or_false, Prod.mk.injEq] at hm
  rcases hm with ⟨rfl, rfl, rfl, rfl, rfl⟩ | ⟨rfl, rfl, rfl, rfl, rfl⟩ | ⟨rfl, rfl, rfl, rfl, rfl⟩ | ⟨rfl, rfl, rfl, rfl, rfl⟩ | ⟨rfl, rfl, rfl, rfl, rfl⟩ | ⟨rfl, rfl, rfl, rfl, rfl⟩ | ⟨rfl, rfl, rfl, rfl, rfl⟩ | ⟨rfl, rfl, rfl, rfl, rfl⟩ | ⟨rfl, rfl, rfl, rfl, rfl⟩ | ⟨rfl, rfl, rfl, rfl, rfl⟩ | ⟨rfl, rfl, rfl, rfl, rfl⟩ | ⟨rfl, rfl, rfl, rfl, rfl⟩ | ⟨rfl, rfl, rfl, rfl, rfl⟩ | ⟨rfl, rfl, rfl, rfl, rfl⟩ | ⟨rfl, rfl, rfl, rfl, rfl⟩ | ⟨rfl, rfl, rfl, rfl, rfl⟩ | ⟨rfl, rfl, rfl, rfl, rfl⟩
  all_goals exact ⟨_, _, _, _, rfl, rfl, by decide, by decide, by decide, by decide, by decide, by decide, by decide, by decide +kernel, by decide, by decide, by decide, by decide, by decide⟩
theorem pre_row {op : Int} {t : List UInt8} {l a b : Int} (h : atT op preT = some (t, l, a, b)) :
    ∃ k0, atK (opTok t) uopT = some (a, op) ∧ atS op shapeT = some [k0] ∧ opTok t ≠ wrdT [97, 108, 108] ∧ isNm (opTok t) = false ∧ (1 ≤ l ∧ l ≤ a ∧ a ≤ 14) ∧ named op = false ∧ op ≠ 2 ∧ op ≠ 20 ∧ openB op = false := by
  have hm := atT_mem' h
  simp only [preT, List.mem_cons, List.not_mem_nil, or_false, Prod.mk.injEq] at hm
  rcases hm with ⟨rfl, rfl, rfl, rfl, rfl⟩ | ⟨rfl, rfl, rfl, rfl, rfl⟩ | ⟨rfl, rfl, rfl, rfl, rfl⟩ | ⟨rfl, rfl, rfl, rfl, rfl⟩ | ⟨rfl, rfl, rfl, rfl, rfl⟩ | ⟨rfl, rfl, rfl, rfl, rfl⟩ | ⟨rfl, rfl, rfl, rfl, rfl⟩ | ⟨rfl, rfl, rfl, rfl, rfl⟩ | ⟨rfl, rfl, rfl, rfl, rfl⟩ | ⟨rfl, rfl, rfl, rfl, rfl⟩ | ⟨rfl, rfl, rfl, rfl, rfl⟩ | ⟨rfl, rfl, rfl, rfl, rfl⟩
  all_goals exact ⟨_, rfl, rfl, by decide, by decide +kernel, by decide, by decide, by decide, by decide, by decide⟩
theorem lvl_bin {op : Int} {t : List UInt8} {l a b : Int} (h : atT op binT = some (t, l, a, b)) : lvl op = l ∧ rnd op = b ∧ cmpB op = (l == 7) := by
  unfold lvl rnd cmpB; rw [h]; exact ⟨rfl, rfl, rfl⟩
theorem lvl_pre {op : Int} {t : List UInt8} {l a b : Int} (h0 : atT op binT = none) (h : atT op preT = some (t, l, a, b)) : lvl op = l ∧ rnd op = a ∧ cmpB op = false := by
  unfold lvl rnd cmpB; rw [h0, h]; exact ⟨rfl, rfl, rfl⟩
theorem lvl_oth {op : Int} (h0 : atT op binT = none) (h : atT op preT = none) : 14 ≤ lvl op ∧ lvl op ≤ 15 ∧ rnd op = 100 ∧ cmpB op = false := by
  unfold lvl rnd cmpB; rw [h0, h]; dsimp only; split <;> simp
theorem lvl_pos (op : Int) : 1 ≤ lvl op ∧ lvl op ≤ rnd op := by
  cases h0 : atT op binT with
  | some v =>
    obtain ⟨t, l, a, b⟩ := v
    obtain ⟨_, _, _, _, _, _, _, _, _, _, _, _, _, _, hh, _⟩ := bin_row h0
    have := lvl_bin h0
    omega
  | none =>
    cases h : atT op preT with
    | some v =>
      obtain ⟨t, l, a, b⟩ := v
      obtain ⟨_, _, _, _, _, hh, _⟩ := pre_row h
      have := lvl_pre h0 h
      omega
    | none => have := lvl_oth h0 h; omega
theorem left_bb : ∀ r ∈ binT, ∀ q ∈ binT, r.2.2.2.1 ≤ q.2.2.1 → r.2.2.1 < q.2.2.2.2 := by decide +kernel
theorem left_bp : ∀ r ∈ binT, ∀ q ∈ preT, r.2.2.2.1 ≤ q.2.2.1 → kindC q.1 = kid0 r.1 → r.2.2.1 < q.2.2.2.1 := by decide +kernel
theorem left_need {op op' : Int} {t : List UInt8} {l a b : Int} (h : atT op binT = some (t, l, a, b)) (hk : kindC op' = kid0 op) (hl : a ≤ lvl op') : l < rnd op' := by
  cases h0 : atT op' binT with
  | some v =>
    obtain ⟨t', l', a', b'⟩ := v
    have := lvl_bin h0
    have := left_bb _ (atT_mem' h) _ (atT_mem' h0) (by dsimp only; omega)
    dsimp only at this
    omega
  | none =>
    cases h1 : atT op' preT with
    | some v =>
      obtain ⟨t', l', a', b'⟩ := v
      have := lvl_pre h0 h1
      have := left_bp _ (atT_mem' h) _ (atT_mem' h1) (by dsimp only; omega) hk
      dsimp only at this
      omega
    | none =>
      have := lvl_oth h0 h1
      obtain ⟨_, _, _, _, _, _, _, _, _, _, _, _, _, _, hh, _⟩ := bin_row h
      omega
/-- No prime, bracket or colon begins the list. -/
def noPo (r : List Tok) : Prop := expP (symT [39]) r = none ∧ expP (symT [91]) r = none ∧ expP (symT [58]) r = none
def okR (op : Int) (fin : Bool) (r : List Tok) : Prop := noPo r ∧ ∀ l, blv r = some l → fin = false ∧ l < rnd op
theorem exp_none {t u : Tok} (h : u ≠ t) (r : List Tok) : expP t (u :: r) = none := by rw [expP, if_neg h]
theorem noPo_cons {u : Tok} (r : List Tok) (h1 : u ≠ symT [39]) (h2 : u ≠ symT [91]) (h3 : u ≠ symT [58]) : noPo (u :: r) := ⟨exp_none h1 r, exp_none h2 r, exp_none h3 r⟩
theorem okR_close {u : Tok} (op : Int) (fin : Bool) (r : List Tok) (hu : u ∈ [symT [41], symT [125], symT [93], symT [124], symT [44]]) : okR op fin (u :: r) := by
  have : ∀ u ∈ [symT [41], symT [125], symT [93], symT [124], symT [44]], (u ≠ symT [39] ∧ u ≠ symT [91] ∧ u ≠ symT [58]) ∧ atK u bopT = none := by decide
  obtain ⟨h, h2⟩ := this u hu
  refine ⟨noPo_cons r h.1 h.2.1 h.2.2, fun l hl => ?_⟩
  rw [blv, h2] at hl
  cases hl
/-- A tree whose text is read back. -/
structure Good (x : S24) : Prop where
  prim : atT x.f0 binT = none → atT x.f0 preT = none → openB x.f0 = false → ∀ fin r v, expP (symT [91]) r = none → Pst (strip x) r v → Opd (toks x fin ++ r) v
  part : ∀ fin r lv v, lv ≤ lvl x.f0 → okR x.f0 fin r → (fin = true ∨ openB x.f0 = false) → Lop lv (strip x) (cmpB x.f0) r v → Par lv (toks x fin ++ r) v
theorem opd_paren {k : S24} (hk : Good k) {r : List Tok} {v : S24 × List Tok} (h : Pst (strip k) r v) : Opd ([symT [40]] ++ toks k true ++ [symT [41]] ++ r) v := by
  have e : [symT [40]] ++ toks k true ++ [symT [41]] ++ r = symT [40] :: (toks k true ++ symT [41] :: r) := by simp
  rw [e]
  have hp : Par 1 (toks k true ++ symT [41] :: r) (strip k, symT [41] :: r) := by
    have ho := okR_close (u := symT [41]) k.f0 true r (by decide)
    refine hk.part true _ 1 _ (lvl_pos _).1 ho (Or.inl rfl) (lop_stop fun l hl => ?_)
    exact absurd (ho.2 l hl).1 (by decide)
  exact opd_pri (by decide) (by decide) (pri_paren hp) h
theorem bare_split {op need : Int} {fin : Bool} (h : bare op need fin = true) : need ≤ lvl op ∧ (fin = true ∨ openB op = false) := by
  unfold bare at h
  simp only [Bool.and_eq_true, decide_eq_true_eq, Bool.or_eq_true, Bool.not_eq_true'] at h
  exact h
theorem opr_par {k : S24} (hk : Good k) {need lv : Int} {fin : Bool} {r : List Tok} {v : S24 × List Tok} (h1 : lv ≤ need) (hr : noPo r) (ho : bare k.f0 need fin = true → okR k.f0 fin r) (h : Lop lv (strip k) (bare k.f0 need fin && cmpB k.f0) r v) : Par lv (oprT k need fin ++ r) v := by
  unfold oprT
  by_cases hb : bare k.f0 need fin = true
  · rw [if_pos hb]
    rw [hb, Bool.true_and] at h
    obtain ⟨h2, h3⟩ := bare_split hb
    exact hk.part fin r lv v (by omega) (ho hb) h3 h
  · rw [if_neg hb]
    rw [Bool.not_eq_true] at hb
    rw [hb, Bool.false_and] at h
    exact par_mk (opd_paren hk (pst_stop hr.1)) h
/-- The same for a whole operand that is read to its end. -/
theorem opr_end {k : S24} (hk : Good k) {need : Int} {fin : Bool} {r : List Tok} (hr : noPo r) (ho : bare k.f0 need fin = true → okR k.f0 fin r) (hl : ∀ l, blv r = some l → l < need) : Par need (oprT k need fin ++ r) (strip k, r) :=
  opr_par hk (Int.le_refl _) hr ho (lop_stop hl)
theorem good_of_prim {x : S24} (hb : atT x.f0 binT = none) (hp : atT x.f0 preT = none) (hq : openB x.f0 = false) (h : ∀ fin r v, expP (symT [91]) r = none → Pst (strip x) r v → Opd (toks x fin ++ r) v) : Good x := by
  refine ⟨fun _ _ _ => h, fun fin r lv v _ ho _ hl => ?_⟩
  rw [(lvl_oth hb hp).2.2.2] at hl
  exact par_mk (h fin r _ ho.1.2.1 (pst_stop ho.1.1)) hl
theorem col_no {u : Tok} (h : isNm u = false) (r : List Tok) : colP (u :: r) = false := by
  cases r with
  | nil => rfl
  | cons q r => unfold colP; simp [h]
theorem col_two {u q : Tok} (h : q ≠ symT [58]) (r : List Tok) : colP (u :: q :: r) = false := by
  unfold colP; simp [h]
theorem col_one {u : Tok} {r : List Tok} (h : expP (symT [58]) r = none) : colP (u :: r) = false := by
  cases r with
  | nil => rfl
  | cons q r =>
    refine col_two (fun e => ?_) r
    rw [e, expP, if_pos rfl] at h
    cases h
theorem num_col (n : Int) (r : List Tok) : colP (numTok n ++ r) = false := by
  unfold numTok
  split
  · exact col_no (by decide) _
  · exact col_no (by simp [isNm]) _
theorem toks_col (n : Nat) : ∀ x : S24, SizeOf.sizeOf x < n → ∀ fin r, expP (symT [58]) r = none → colP (toks x fin ++ r) = false := by
  induction n with
  | zero => intro x h; omega
  | succ n ih =>
    intro x hx fin r hr
    have hop : ∀ (i : Nat) (need : Int) (fin : Bool) (r : List Tok), expP (symT [58]) r = none → colP r = false → colP (opdT x.f3 0 need fin ++ r) = false := by
      intro i need fin r hr hc
      cases hk : x.f3 with
      | nil => simpa [opdT] using hc
      | cons y q =>
        rw [opdT]
        split
        · exact ih y (by have := size_kid (x := x) (y := y) (by rw [hk]; exact List.mem_cons_self); omega) fin r hr
        · exact col_no (by decide) _
    rw [toks_def]
    cases hb : atT x.f0 binT with
    | some v =>
      obtain ⟨t, l, a, b⟩ := v
      obtain ⟨_, _, _, _, _, _, _, _, _, _, _, _, h58, hnm, _⟩ := bin_row hb
      simp only [List.append_assoc, List.singleton_append]
      exact hop 0 a false _ (exp_none h58 _) (col_no hnm _)
    | none =>
      cases hp : atT x.f0 preT with
      | some v =>
        obtain ⟨t, l, a, b⟩ := v
        obtain ⟨_, _, _, _, hnm, _⟩ := pre_row hp
        exact col_no hnm _
      | none =>
        dsimp only
        by_cases h1 : x.f0 = 1
        · rw [if_pos h1]; exact col_one hr
        rw [if_neg h1]
        by_cases h2 : x.f0 = 2
        · rw [if_pos h2]; exact col_no (by decide +kernel) _
        rw [if_neg h2]
        by_cases h20 : x.f0 = 20
        · rw [if_pos h20]; exact num_col _ _
        rw [if_neg h20]
        by_cases h5 : x.f0 = 5
        · rw [if_pos h5, List.append_assoc]
          exact hop 0 14 false _ (exp_none (by decide) _) (col_no (by decide) _)
        rw [if_neg h5]
        by_cases h45 : x.f0 = 45
        · rw [if_pos h45]; exact col_no (by decide +kernel) _
        rw [if_neg h45]
        by_cases h46 : x.f0 = 46
        · rw [if_pos h46]; exact col_no (by decide +kernel) _
        rw [if_neg h46]
        by_cases h15 : x.f0 = 15
        · rw [if_pos h15]; exact col_no (by decide) _
        rw [if_neg h15]
        by_cases h47 : x.f0 = 47
        · rw [if_pos h47]; exact col_two (by decide) _
        rw [if_neg h47]; exact col_one hr
theorem opr_col (k : S24) (need : Int) (fin : Bool) (r : List Tok) (hr : expP (symT [58]) r = none) : colP (oprT k need fin ++ r) = false := by
  unfold oprT
  split
  · exact toks_col _ k (Nat.lt_succ_self _) fin r hr
  · exact col_no (by decide) _
end Go.Proofs.YtgdiodhaihmnbaaDoor.Own
namespace Go.Proofs.YtgdiodhaihmnbaaDoor.Own
open Go.RowKit Go.Proofs.YtgdiodhaihmnbaaDoorW.PrintWords Go.Proofs.YtgdiodhaihmnbaaDoorW.PrintLast Go.Proofs.YtgdiodhaihmnbaaDoorW.PrintMore Go.Proofs.YtgdiodhaihmnbaaDoor.PPrinterMatchesReference
/-- Block b of the world holds the printer, whose text is bs; all of it lies from B on. -/
structure IsPa (B b m2 m1 : Nat) (p : Option Addr) (v : Value) (bs : List UInt8) (w : World) : Prop where
  low : B ≤ b
  blk : w.heap[b]? = some (.cells #[.pointer p, v, .map (some m2), .map (some m1)] 75 (0, 0))
  self : p = none ∨ p = some ⟨b, 0, none⟩
  own : w.ownsRow B 5 1 v bs.length (Lib.byteCells bs)
  two : w.heap[m2]? = some (.map (entT binT 0).toArray 17)
  one : w.heap[m1]? = some (.map (entT preT 0).toArray 12)
def IsP (B b m2 m1 : Nat) (bs : List UInt8) (w : World) : Prop := ∃ p v, IsPa B b m2 m1 p v bs w
theorem IsPa.lt {B b m2 m1 : Nat} {p : Option Addr} {v : Value} {bs : List UInt8} {w : World} (h : IsPa B b m2 m1 p v bs w) : b < w.heap.size := blk_lt h.blk
theorem IsPa.below {B b m2 m1 : Nat} {p : Option Addr} {v : Value} {bs : List UInt8} {w w1 : World} (h : IsPa B b m2 m1 p v bs w) (hb : Below w.heap.size w w1) : IsPa B b m2 m1 p v bs w1 :=
  ⟨h.low, (hb.block b (blk_lt h.blk)).trans h.blk, h.self, pw_own_below h.own hb, (hb.block m2 (blk_lt h.two)).trans h.two, (hb.block m1 (blk_lt h.one)).trans h.one⟩
theorem IsP.below {B b m2 m1 : Nat} {bs : List UInt8} {w w1 : World} (h : IsP B b m2 m1 bs w) (hb : Below w.heap.size w w1) : IsP B b m2 m1 bs w1 := let ⟨p, v, k⟩ := h; ⟨p, v, k.below hb⟩
theorem IsP.lt {B b m2 m1 : Nat} {bs : List UInt8} {w : World} (h : IsP B b m2 m1 bs w) : b < w.heap.size := let ⟨_, _, k⟩ := h; k.lt
theorem IsP.low {B b m2 m1 : Nat} {bs : List UInt8} {w : World} (h : IsP B b m2 m1 bs w) : B ≤ b := let ⟨_, _, k⟩ := h; k.low
/-- The buffer's block is none of these. -/
theorem IsPa.apart {B b m2 m1 : Nat} {p : Option Addr} {v : Value} {bs : List UInt8} {w : World} (h : IsPa B b m2 m1 p v bs w) : v.ownBlock ≠ some b ∧ v.ownBlock ≠ some m2 ∧ v.ownBlock ≠ some m1 := by
  refine ⟨fun e => ?_, fun e => ?_, fun e => ?_⟩
  · obtain ⟨c, hc⟩ := own_typed h.own _ e
    rw [h.blk] at hc
    injection hc with hc
    injection hc with _ hc _
    exact absurd hc (by decide)
  · obtain ⟨c, hc⟩ := own_typed h.own _ e
    rw [h.two] at hc
    cases hc
  · obtain ⟨c, hc⟩ := own_typed h.own _ e
    rw [h.one] at hc
    cases hc
/-- A cell of the printer's block is written. -/
theorem IsPa.put {B b m2 m1 : Nat} {p p' : Option Addr} {v v' : Value} {bs bs' : List UInt8} {w : World} (h : IsPa B b m2 m1 p v bs w) (i : Nat) (u : Value)
    (he : (#[.pointer p, v, .map (some m2), .map (some m1)] : Array Value).setIfInBounds i u = #[.pointer p', v', .map (some m2), .map (some m1)]) (hp : p' = none ∨ p' = some ⟨b, 0, none⟩)
    (hown : w.ownsRow B 5 1 v' bs'.length (Lib.byteCells bs')) (hne : v'.ownBlock ≠ some b) : IsPa B b m2 m1 p' v' bs' (w.setCell ⟨b, i, none⟩ u) := by
  have hm2 : m2 ≠ b := fun e => by have := h.two; rw [e, h.blk] at this; cases this
  have hm1 : m1 ≠ b := fun e => by have := h.one; rw [e, h.blk] at this; cases this
  exact ⟨h.low, blk_put h.blk i u he, hp, own_setCell hown (fun e => hne e.symm) u, (Below.heap_setCell w ⟨b, i, none⟩ u m2 hm2).trans h.two, (Below.heap_setCell w ⟨b, i, none⟩ u m1 hm1).trans h.one⟩
/-- What writing a text does: the text, all below B kept, and all blocks but the printer's and bytes kept. -/
def Wrote (B b m2 m1 : Nat) (bs : List UInt8) (w w' : World) : Prop := IsP B b m2 m1 bs w' ∧ Below B w w' ∧ Lib.OthersKept 5 (some b) w w'
theorem info75 : (Tryd.prog.info? 72).map (fun i => (i.zero, i.size, i.bytes)) = some (some (.agg #[.pointer none, .slice none 0 0]), 2, 32) := by kernel_rfl
set_option maxHeartbeats 1000000 in
set_option maxRecDepth 100000 in
theorem check_used (b : Nat) (w : World) (h0 : w.cell? ⟨b, 0, none⟩ = some (.pointer (some ⟨b, 0, none⟩))) : Calls Tryd.prog 75 #[.pointer (some ⟨b, 0, none⟩)] w fun e w' => e = .returned (.tuple #[]) ∧ w' = w := by
  obtain ⟨j, hj, _⟩ := Option.map_eq_some_iff.1 info75
  go_enter Tryd.func75, Tryd.ntmps75
  go_wp2
  rw [Lib.run_neq_ptr_same w _ Tryd.underlying69 hj]
  go_wp2
  go_end0
  exact ⟨rfl, rfl⟩
set_option maxHeartbeats 1000000 in
set_option maxRecDepth 100000 in
theorem check_fresh (b : Nat) (w : World) (h0 : w.cell? ⟨b, 0, none⟩ = some (.pointer none)) (hsh : w.shape? b = some (75, 4)) (hfz : w.frozen? ⟨b, 0, none⟩ = false) : Calls Tryd.prog 75 #[.pointer (some ⟨b, 0, none⟩)] w fun e w' => e = .returned (.tuple #[]) ∧ w' = w.setCell ⟨b, 0, none⟩ (.pointer (some ⟨b, 0, none⟩)) := by
  obtain ⟨j, hj, hjs⟩ := Option.map_eq_some_iff.1 info75
  simp only [Prod.mk.injEq] at hjs
  go_enter Tryd.func75, Tryd.ntmps75
  go_wp2
  rw [Lib.run_to_unsafe w ⟨b, 0, none⟩ Tryd.underlying69 Tryd.underlying110 hj (by rw [hjs.2.1]; decide) hsh (by show 0 < 4; omega)]
  simp only [Result.andThen]
  rw [Oper.upon_value]
  go_wp2
  rw [run_callFunc_extern Tryd.func79 (by kernel_rfl) (by kernel_rfl) (by kernel_rfl) (e := Extern.AbiNoEscape.same) (by kernel_rfl)]
  rw [Lib.run_noEscape]
  simp only [Result.andThen]
  rw [Oper.upon_value]
  go_wp2
  rw [Lib.run_from_unsafe w ⟨b, 0, none⟩ Tryd.underlying110 Tryd.underlying69 hj hsh (by kernel_rfl)]
  simp only [Result.andThen]
  rw [Oper.upon_value]
  go_wp2
  go_end0
  exact ⟨rfl, rfl⟩
/-- copyCheck of the printer's builder. -/
theorem check_walk (B b m2 m1 : Nat) (bs : List UInt8) (w : World) (h : IsP B b m2 m1 bs w) :
    Calls Tryd.prog 75 #[.pointer (some ⟨b, 0, none⟩)] w fun e w' => e = .returned (.tuple #[]) ∧ (∃ v, IsPa B b m2 m1 (some ⟨b, 0, none⟩) v bs w') ∧ Below B w w' ∧ Lib.OthersKept 5 (some b) w w' := by
  obtain ⟨p, v, k⟩ := h
  rcases k.self with rfl | rfl
  · refine (check_fresh b w (blk_cell k.blk 0) (by simp [World.shape?, k.blk]) (blk_frozen k.blk 0)).mono ?_
    rintro e w' ⟨rfl, rfl⟩
    exact ⟨rfl, ⟨v, k.put 0 _ rfl (.inr rfl) k.own k.apart.1⟩, (Below.refl B w).setCell (p := ⟨b, 0, none⟩) k.low _, (Lib.OthersKept.refl _ _ w).setCell ⟨b, 0, none⟩ rfl _⟩
  · refine (check_used b w (blk_cell k.blk 0)).mono ?_
    rintro e w' ⟨rfl, rfl⟩
    exact ⟨rfl, ⟨v, k⟩, Below.refl B _, Lib.OthersKept.refl _ _ _⟩
/-- The buffer has been appended to, and stored back. -/
theorem IsPa.wrote {B b m2 m1 : Nat} {p : Option Addr} {v v' : Value} {bs bs' : List UInt8} {w w1 w2 : World} (k : IsPa B b m2 m1 p v bs w1) (hb : Below B w w1) (ho : Lib.OthersKept 5 (some b) w w1)
    (hg : w1.grownBy w2 v.ownBlock) (hown : w2.ownsRow B 5 1 v' bs'.length (Lib.byteCells bs')) (hB : B ≤ w1.heap.size) : Wrote B b m2 m1 bs' w (w2.setCell ⟨b, 1, none⟩ v') := by
  obtain ⟨hnb, hn2, hn1⟩ := k.apart
  have k2 : w2.heap[b]? = some (.cells #[.pointer p, v, .map (some m2), .map (some m1)] 75 (0, 0)) := blk_grown k.blk hg (fun e => hnb e.symm)
  have e2 := blk_grown k.two hg (fun e => hn2 e.symm)
  have e1 := blk_grown k.one hg (fun e => hn1 e.symm)
  have hne' : v'.ownBlock ≠ some b := fun e => by
    obtain ⟨c, hc⟩ := own_typed hown _ e
    rw [k2] at hc
    injection hc with hc
    injection hc with _ hc _
    exact absurd hc (by decide)
  have hm2 : m2 ≠ b := fun e => by have := k.two; rw [e, k.blk] at this; cases this
  have hm1 : m1 ≠ b := fun e => by have := k.one; rw [e, k.blk] at this; cases this
  refine ⟨⟨p, v', k.low, blk_put k2 1 v' rfl, k.self, own_setCell hown (fun e => hne' e.symm) v', (Below.heap_setCell w2 ⟨b, 1, none⟩ v' m2 hm2).trans e2, (Below.heap_setCell w2 ⟨b, 1, none⟩ v' m1 hm1).trans e1⟩, ?_, ?_⟩
  · exact (hb.grown hg hB (fun g hg' => own_base k.own g hg')).setCell (p := ⟨b, 1, none⟩) k.low _
  · exact (ho.grown hg (fun g hg' => by obtain ⟨c, hc⟩ := own_typed k.own g hg'; exact ⟨c, (0, 0), hc⟩)).setCell ⟨b, 1, none⟩ rfl _
theorem info5 : (Tryd.prog.info? 5).map (fun i => (i.zero, i.size, i.bytes)) = some (some (.int .u8 0), 1, 1) := by kernel_rfl
set_option maxHeartbeats 2000000 in
set_option maxRecDepth 100000 in
theorem writeString_walk (B b m2 m1 : Nat) (bs : List UInt8) (s : ByteArray) (w : World) (h : IsP B b m2 m1 bs w) (hlen : bs.length + s.size ≤ 140737488355328) (hBw : B ≤ w.heap.size) :
    Calls Tryd.prog 47 #[.pointer (some ⟨b, 0, none⟩), .string s] w fun e w' => e = .returned (.tuple #[.int .i64 s.size, .nilIface]) ∧ Wrote B b m2 m1 (bs ++ s.data.toList) w w' := by
  obtain ⟨i0, hi, hz0, hz1, hz2⟩ := info_parts info5
  go_enter Tryd.func47, Tryd.ntmps47
  go_wp2_with (go_at_call 75; refine (check_walk B b m2 m1 bs _ h).mono ?_)
  rintro e w1 ⟨rfl, ⟨v, h1⟩, hb1, ho1⟩
  have c0 : w1.cell? ⟨b, 0, none⟩ = some (.pointer (some ⟨b, 0, none⟩)) := blk_cell h1.blk 0
  have c1 : w1.cell? ⟨b, 1, none⟩ = some v := blk_cell h1.blk 1
  go_wp2_with (at_builtin; refine Lib.wpList_append_own_string _ rfl _ _ 70 9 rfl B 5 i0 Tryd.underlying70 Tryd.underlying9 hi hz0 hz1 hz2 _ _ _ rfl h1.own s rfl ?c3 ?c4 ?c5 ?_)
  case c3 => unfold maxLen; omega
  case c4 => omega
  case c5 => have := hb1.size; omega
  intro v' w2 hown hg _
  have hbk2 := blk_grown h1.blk hg (fun e => h1.apart.1 e.symm)
  have c2 : w2.cell? ⟨b, 1, none⟩ = some v := blk_cell hbk2 1
  have f2 := blk_frozen hbk2 1
  clear c0 c1
  obtain ⟨A, cc, rfl⟩ := own_slice hown
  go_wp2
  go_ret2
  refine ⟨rfl, h1.wrote hb1 ho1 hg ?_ (by have := hb1.size; omega)⟩
  have e1 : (bs ++ s.data.toList).length = bs.length + s.size := by rw [List.length_append, data_length]
  have e2 : Lib.byteCells (bs ++ s.data.toList) = Lib.byteCells bs ++ Lib.strCells s := by simp [Lib.byteCells, Lib.strCells]
  rw [e1, e2]
  exact hown
set_option maxHeartbeats 2000000 in
set_option maxRecDepth 100000 in
theorem writeByte_walk (B b m2 m1 : Nat) (bs : List UInt8) (c : UInt8) (w : World) (h : IsP B b m2 m1 bs w) (hlen : bs.length + 1 ≤ 140737488355328) (hBw : B ≤ w.heap.size) :
    Calls Tryd.prog 62 #[.pointer (some ⟨b, 0, none⟩), .int .u8 c.toNat] w fun e w' => e = .returned .nilIface ∧ Wrote B b m2 m1 (bs ++ [c]) w w' := by
  obtain ⟨i0, hi, hz0, hz1, hz2⟩ := info_parts info5
  go_enter Tryd.func62, Tryd.ntmps62
  go_wp2_with (go_at_call 75; refine (check_walk B b m2 m1 bs _ h).mono ?_)
  rintro e w1 ⟨rfl, ⟨v, h1⟩, hb1, ho1⟩
  have c0 : w1.cell? ⟨b, 0, none⟩ = some (.pointer (some ⟨b, 0, none⟩)) := blk_cell h1.blk 0
  have c1 : w1.cell? ⟨b, 1, none⟩ = some v := blk_cell h1.blk 1
  go_wp2_with (at_builtin; refine wpList_append_own _ rfl _ _ 70 rfl B 5 i0 (.int .u8 0) 1 1 Tryd.underlying70 hi hz0 hz1 hz2 rfl (by decide) _ _ _ rfl (h1.own.alloc _) ⟨w1.heap.size, 0, none⟩ 1 1 [.int .u8 c.toNat] rfl rfl ?c1 ?c2 ?c3 ?c4 ?c5 ?_)
  case c1 =>
    intro j u hj
    match j, hj with
    | 0, hj => simp at hj; subst hj; simp [Addr.add]
  case c2 => intro u hu; simp at hu; subst hu; rfl
  case c3 => unfold maxLen; omega
  case c4 => omega
  case c5 => have := hb1.size; simp; omega
  intro v' w2 hown hg _
  have k1 : IsPa B b m2 m1 (some ⟨b, 0, none⟩) v bs (w1.alloc (.cells #[.int .u8 c.toNat] 5)) := h1.below (below_alloc (Below.refl _ _) _)
  have hbk2 := blk_grown k1.blk hg (fun e => k1.apart.1 e.symm)
  have c2 : w2.cell? ⟨b, 1, none⟩ = some v := blk_cell hbk2 1
  have f2 := blk_frozen hbk2 1
  clear c0 c1
  obtain ⟨A, cc, rfl⟩ := own_slice hown
  go_wp2
  go_ret
  refine ⟨rfl, k1.wrote (hb1.alloc (by have := hb1.size; omega) _) (ho1.alloc _) hg ?_ (by have := hb1.size; simp; omega)⟩
  have e1 : (bs ++ [c]).length = bs.length + 1 := by simp
  have e2 : Lib.byteCells (bs ++ [c]) = Lib.byteCells bs ++ [.int .u8 c.toNat] := by simp [Lib.byteCells]
  rw [e1, e2]
  exact hown
theorem cells5 : Tryd.prog.cellsOf 5 = 1 := by kernel_rfl
set_option maxHeartbeats 2000000 in
set_option maxRecDepth 100000 in
/-- String: the text; the printer is not used again. -/
theorem string_walk (B b m2 m1 : Nat) (bs : List UInt8) (w : World) (h : IsP B b m2 m1 bs w) (h0 : bs ≠ []) (hBw : B ≤ w.heap.size) :
    Calls Tryd.prog 39 #[.pointer (some ⟨b, 0, none⟩)] w fun e w' => e = .returned (.string ⟨bs.toArray⟩) ∧ Below B w w' := by
  obtain ⟨p, v, k⟩ := h
  have hl0 : bs.length ≠ 0 := by simpa using h0
  have hown := k.own
  obtain ⟨g, cap, cur, rfl, hbg, hg, hnc, hcm, hcs, htake⟩ : ∃ g cap cur, v = .slice (some ⟨g, 0, none⟩) bs.length cap ∧ B ≤ g ∧ w.heap[g]? = some (.cells cur 5 (0, 0)) ∧ bs.length ≤ cap ∧ cap ≤ maxLen ∧ cur.size = cap * 1 ∧ cur.toList.take (bs.length * 1) = Lib.byteCells bs := by
    rcases hown.2 with ⟨_, hz⟩ | ⟨g, cap, cur, hv, r⟩
    · exact absurd hz hl0
    · exact ⟨g, cap, cur, hv, r⟩
  have c1 : w.drew.cell? ⟨b, 1, none⟩ = some (.slice (some ⟨g, 0, none⟩) bs.length cap) := blk_cell k.blk 1
  have hSD : (Builtin.unsafeSliceData_ #[70] 104 #[.slice (some ⟨g, 0, none⟩) bs.length cap]).run Tryd.prog w.drew = .ok (.pointer (some ⟨g, 0, none⟩)) w.drew :=
    Lib.run_unsafeSliceData_row _ _ _ _ _ _ (by omega)
  have hUS : (Builtin.unsafeString_ #[104, 3] 9 #[.pointer (some ⟨g, 0, none⟩), .int .i64 bs.length]).run Tryd.prog w.drew = .ok (.string ⟨bs.toArray⟩) (w.drew.freeze ⟨g, 0, none⟩ bs.length) := by
    refine Lib.run_unsafeString_row w.drew 104 3 9 5 Tryd.underlying104 cells5 g cur.size (by have hg' : w.drew.heap[g]? = some (.cells cur 5 (0, 0)) := hg; simp [World.shape?, hg']) bs h0 (by omega) (by unfold maxLen at hcm; omega) ?_
    intro j x hx
    have hj : (Lib.byteCells bs)[j]? = some (.int .u8 x.toNat) := by simp [Lib.byteCells, hx]
    rw [← htake, Nat.mul_one, List.getElem?_take] at hj
    rw [show ((⟨g, 0, none⟩ : Addr).add j) = ⟨g, j, none⟩ from add_plain g j]
    split at hj
    · rw [Lib.cell_of_heap (show w.drew.heap[g]? = some (.cells cur 5 (0, 0)) from hg), ← hj]; simp
    · cases hj
  go_enter Tryd.func39, Tryd.ntmps39
  go_wp2
  go_region
  all_goals (go_wp2; go_ret; exact ⟨rfl, Lib.below_freeze (Below.drew (Below.refl B w)) (p := ⟨g, 0, none⟩) hbg _⟩)
set_option maxHeartbeats 2000000 in
set_option maxRecDepth 100000 in
/-- String where nothing has been written. -/
theorem string_nil_walk (B b m2 m1 : Nat) (p : Option Addr) (w : World) (k : IsPa B b m2 m1 p (.slice none 0 0) [] w) :
    Calls Tryd.prog 39 #[.pointer (some ⟨b, 0, none⟩)] w fun e w' => e = .returned (.string ⟨#[]⟩) ∧ Below B w w' := by
  have c1 : w.drew.cell? ⟨b, 1, none⟩ = some (.slice none 0 0) := blk_cell k.blk 1
  have hSD : (Builtin.unsafeSliceData_ #[70] 104 #[.slice none 0 0]).run Tryd.prog w.drew = .ok (.pointer none) w.drew := Lib.run_unsafeSliceData_nil _ _ _ _ _
  have hUS : (Builtin.unsafeString_ #[104, 3] 9 #[.pointer none, .int .i64 0]).run Tryd.prog w.drew = .ok (.string .empty) w.drew := Lib.run_unsafeString_none _ _ _ _ _
  go_enter Tryd.func39, Tryd.ntmps39
  go_wp2
  go_region
  all_goals (go_wp2; go_ret; exact ⟨rfl, Below.drew (Below.refl B w)⟩)
end Go.Proofs.YtgdiodhaihmnbaaDoor.Own
namespace Go.Proofs.YtgdiodhaihmnbaaDoor.Own
open Go.RowKit Go.Proofs.YtgdiodhaihmnbaaDoorW.PrintWords Go.Proofs.YtgdiodhaihmnbaaDoorW.PrintLast Go.Proofs.YtgdiodhaihmnbaaDoorW.PrintMore Go.Proofs.YtgdiodhaihmnbaaDoor.PPrinterMatchesReference
def symS (op : Int) : List UInt8 := match atT op binT with
  | some (t, _) => trimT t
  | none => []
def preS (op : Int) : List UInt8 := match atT op preT with
  | some (t, _) => t
  | none => []
def conS (op : Int) : List UInt8 := if op = 3 then [117, 110, 105, 118] else if op = 4 then [105, 100, 101, 110] else if op = 30 then [116, 114, 117, 101] else [102, 97, 108, 115, 101]
theorem atT_no {op : Int} : ∀ {T : List (Int × List UInt8 × Int × Int × Int)}, (∀ k ∈ T.map (·.1), (op == k) = false) → atT op T = none
  | [], _ => rfl
  | (a, v) :: r, h => by
    have h1 := h a (by simp)
    rw [atT, if_neg (by simpa using h1)]
    exact atT_no fun k hk => h k (by simp at hk ⊢; exact Or.inr hk)
set_option maxHeartbeats 4000000 in
set_option maxRecDepth 100000 in
theorem ref_level (op : Int) (w : World) : Calls Tryd.prog 69 #[.int .i64 op] w fun e w' => e = .returned (.int .i64 (lvl op)) ∧ w = w' := by
  by_cases hm : op ∈ ([44, 43, 42, 41, 51, 32, 33, 38, 39, 6, 22, 8, 23, 14, 7, 10, 9, 40, 48, 49, 50, 35, 34, 36, 37, 21, 11, 12, 13, 5] : List Int)
  · simp only [List.mem_cons, List.not_mem_nil, or_false] at hm
    rcases hm with rfl | rfl | rfl | rfl | rfl | rfl | rfl | rfl | rfl | rfl | rfl | rfl | rfl | rfl | rfl | rfl | rfl | rfl | rfl | rfl | rfl | rfl | rfl | rfl | rfl | rfl | rfl | rfl | rfl | rfl
    all_goals
      go_enter Tryd.func69, Tryd.ntmps69
      go_wp2_with fail
      go_ret
      exact ⟨rfl, rfl⟩
  · have hno : ∀ k ∈ ([44, 43, 42, 41, 51, 32, 33, 38, 39, 6, 22, 8, 23, 14, 7, 10, 9, 40, 48, 49, 50, 35, 34, 36, 37, 21, 11, 12, 13, 5] : List Int), (op == k) = false := fun k hk => by rw [beq_eq_false_iff_ne]; intro h; exact hm (h ▸ hk)
    have hs : lvl op = 15 := by
      unfold lvl
      rw [atT_no fun k hk => hno k (by revert hk; revert k; decide), atT_no fun k hk => hno k (by revert hk; revert k; decide)]
      exact if_neg (by have := hno 5 (by decide); simpa using this)
    rw [hs]
    have e44 := hno 44 (by decide)
    have e43 := hno 43 (by decide)
    have e42 := hno 42 (by decide)
    have e41 := hno 41 (by decide)
    have e51 := hno 51 (by decide)
    have e32 := hno 32 (by decide)
    have e33 := hno 33 (by decide)
    have e38 := hno 38 (by decide)
    have e39 := hno 39 (by decide)
    have e6 := hno 6 (by decide)
    have e22 := hno 22 (by decide)
    have e8 := hno 8 (by decide)
    have e23 := hno 23 (by decide)
    have e14 := hno 14 (by decide)
    have e7 := hno 7 (by decide)
    have e10 := hno 10 (by decide)
    have e9 := hno 9 (by decide)
    have e40 := hno 40 (by decide)
    have e48 := hno 48 (by decide)
    have e49 := hno 49 (by decide)
    have e50 := hno 50 (by decide)
    have e35 := hno 35 (by decide)
    have e34 := hno 34 (by decide)
    have e36 := hno 36 (by decide)
    have e37 := hno 37 (by decide)
    have e21 := hno 21 (by decide)
    have e11 := hno 11 (by decide)
    have e12 := hno 12 (by decide)
    have e13 := hno 13 (by decide)
    have e5 := hno 5 (by decide)
    clear hno hm hs
    go_enter Tryd.func69, Tryd.ntmps69
    go_wp2_with fail
    go_ret
    exact ⟨rfl, rfl⟩
set_option maxHeartbeats 4000000 in
set_option maxRecDepth 100000 in
theorem ref_symbol (op : Int) (w : World) : Calls Tryd.prog 66 #[.int .i64 op] w fun e w' => e = .returned (.string ⟨(symS op).toArray⟩) ∧ w = w' := by
  by_cases hm : op ∈ ([44, 43, 42, 41, 51, 32, 33, 38, 39, 6, 22, 8, 23, 14, 7, 10, 9] : List Int)
  · simp only [List.mem_cons, List.not_mem_nil, or_false] at hm
    rcases hm with rfl | rfl | rfl | rfl | rfl | rfl | rfl | rfl | rfl | rfl | rfl | rfl | rfl | rfl | rfl | rfl | rfl
    all_goals
      go_enter Tryd.func66, Tryd.ntmps66
      go_wp2_with fail
      go_ret
      exact ⟨rfl, rfl⟩
  · have hno : ∀ k ∈ ([44, 43, 42, 41, 51, 32, 33, 38, 39, 6, 22, 8, 23, 14, 7, 10, 9] : List Int), (op == k) = false := fun k hk => by rw [beq_eq_false_iff_ne]; intro h; exact hm (h ▸ hk)
    have hs : symS op = [] := by
      unfold symS
      rw [atT_no fun k hk => hno k (by revert hk; revert k; decide)]
    rw [hs]
    have e44 := hno 44 (by decide)
    have e43 := hno 43 (by decide)
    have e42 := hno 42 (by decide)
    have e41 := hno 41 (by decide)
    have e51 := hno 51 (by decide)
    have e32 := hno 32 (by decide)
    have e33 := hno 33 (by decide)
    have e38 := hno 38 (by decide)
    have e39 := hno 39 (by decide)
    have e6 := hno 6 (by decide)
    have e22 := hno 22 (by decide)
    have e8 := hno 8 (by decide)
    have e23 := hno 23 (by decide)
    have e14 := hno 14 (by decide)
    have e7 := hno 7 (by decide)
    have e10 := hno 10 (by decide)
    have e9 := hno 9 (by decide)
    clear hno hm hs
    go_enter Tryd.func66, Tryd.ntmps66
    go_wp2_with fail
    go_ret
    exact ⟨rfl, rfl⟩
set_option maxHeartbeats 4000000 in
set_option maxRecDepth 100000 in
theorem ref_prefix (op : Int) (w : World) : Calls Tryd.prog 68 #[.int .i64 op] w fun e w' => e = .returned (.string ⟨(preS op).toArray⟩) ∧ w = w' := by
  by_cases hm : op ∈ ([40, 48, 49, 50, 35, 34, 36, 37, 21, 11, 12, 13] : List Int)
  · simp only [List.mem_cons, List.not_mem_nil, or_false] at hm
    rcases hm with rfl | rfl | rfl | rfl | rfl | rfl | rfl | rfl | rfl | rfl | rfl | rfl
    all_goals
      go_enter Tryd.func68, Tryd.ntmps68
      go_wp2_with fail
      go_ret
      exact ⟨rfl, rfl⟩
  · have hno : ∀ k ∈ ([40, 48, 49, 50, 35, 34, 36, 37, 21, 11, 12, 13] : List Int), (op == k) = false := fun k hk => by rw [beq_eq_false_iff_ne]; intro h; exact hm (h ▸ hk)
    have hs : preS op = [] := by
      unfold preS
      rw [atT_no fun k hk => hno k (by revert hk; revert k; decide)]
    rw [hs]
    have e40 := hno 40 (by decide)
    have e48 := hno 48 (by decide)
    have e49 := hno 49 (by decide)
    have e50 := hno 50 (by decide)
    have e35 := hno 35 (by decide)
    have e34 := hno 34 (by decide)
    have e36 := hno 36 (by decide)
    have e37 := hno 37 (by decide)
    have e21 := hno 21 (by decide)
    have e11 := hno 11 (by decide)
    have e12 := hno 12 (by decide)
    have e13 := hno 13 (by decide)
    clear hno hm hs
    go_enter Tryd.func68, Tryd.ntmps68
    go_wp2_with fail
    go_ret
    exact ⟨rfl, rfl⟩
set_option maxHeartbeats 4000000 in
set_option maxRecDepth 100000 in
theorem ref_constant (op : Int) (w : World) : Calls Tryd.prog 73 #[.int .i64 op] w fun e w' => e = .returned (.string ⟨(conS op).toArray⟩) ∧ w = w' := by
  by_cases hm : op ∈ ([3, 4, 30] : List Int)
  · simp only [List.mem_cons, List.not_mem_nil, or_false] at hm
    rcases hm with rfl | rfl | rfl
    all_goals
      go_enter Tryd.func73, Tryd.ntmps73
      go_wp2_with fail
      go_ret
      exact ⟨rfl, rfl⟩
  · have hno : ∀ k ∈ ([3, 4, 30] : List Int), (op == k) = false := fun k hk => by rw [beq_eq_false_iff_ne]; intro h; exact hm (h ▸ hk)
    have hs : conS op = [102, 97, 108, 115, 101] := by
      unfold conS
      rw [if_neg (by have := hno 3 (by decide); simpa using this), if_neg (by have := hno 4 (by decide); simpa using this), if_neg (by have := hno 30 (by decide); simpa using this)]
    rw [hs]
    have e3 := hno 3 (by decide)
    have e4 := hno 4 (by decide)
    have e30 := hno 30 (by decide)
    clear hno hm hs
    go_enter Tryd.func73, Tryd.ntmps73
    go_wp2_with fail
    go_ret
    exact ⟨rfl, rfl⟩
end Go.Proofs.YtgdiodhaihmnbaaDoor.Own
namespace Go.Proofs.YtgdiodhaihmnbaaDoor.Own
open Go.RowKit Go.Proofs.YtgdiodhaihmnbaaDoorW.PrintWords Go.Proofs.YtgdiodhaihmnbaaDoorW.PrintLast Go.Proofs.YtgdiodhaihmnbaaDoorW.PrintMore Go.Proofs.YtgdiodhaihmnbaaDoor.PPrinterMatchesReference
set_option linter.unusedVariables false
set_option linter.unusedSimpArgs false
def armatureref03_decimal.f : Nat → Int → Option (ByteArray)
  | 0, _ => none
  | k + 1, a0 => if a0 < 0 then ((armatureref03_decimal.f k (wrap64 (-a0))).bind fun t377 => (if 1 + t377.size ≤ 9223372036854775807 then (some ((⟨#[45]⟩ : ByteArray) ++ t377)) else (none))) else (if a0 < 10 then (some (strOfNums (([(wrap64 (48 + a0)) % 256] : List Int)))) else ((armatureref03_decimal.f k (wrap64 (Int.tdiv a0 10))).bind fun t381 => ((some (([(wrap64 (48 + (Int.tmod a0 10))) % 256] : List Int) : List Int)).bind fun y382 => (if t381.size + (strOfNums y382).size ≤ 9223372036854775807 then (some (t381 ++ (strOfNums y382))) else (none)))))
def armatureref03_decimal.T5 : Bool × List (List Nat × List Nat) := (true, [([], []), ([0], [0]), ([1], [1]), ([], []), ([3], [3]), ([4], [4]), ([5], [5]), ([6], [6]), ([7], [7]), ([2, 8], [2, 8]), ([9, 2, 0, 1, 2, 3, 4, 5, 6, 7, 8, 9], [9])])
def armatureref03_decimal.B5 : List Nat := [0, 1, 3, 0, 8, 24, 56, 120, 248, 511, 1023]
theorem armatureref03_decimal.tab5 : rtab .any (opsOf Tryd.f71 5) = armatureref03_decimal.T5 := by kernel_rfl
theorem armatureref03_decimal.bits5 : waitsOk armatureref03_decimal.T5.2 armatureref03_decimal.B5 = true := by kernel_rfl
set_option maxHeartbeats 8000000 in
set_option maxRecDepth 100000 in
theorem armatureref03_decimal.calls (k : Nat) : ∀ (a0 : Int) (r : ByteArray) (w : World) (h : armatureref03_decimal.f k a0 = some r),
    Calls Tryd.prog 71 #[.int .i64 a0] w fun e w' => e = .returned (.string r) ∧ Below w.heap.size w w' := by
  induction k using Nat.strongRecOn with
  | _ k ih =>
  intro a0 r w h
  cases k with
  | zero => exact absurd h (by simp [armatureref03_decimal.f])
  | succ k =>
  simp only [armatureref03_decimal.f] at h
  have HB := Aside0.mk (Below.refl w.heap.size w)
  have H : (if a0 < 0 then ((armatureref03_decimal.f k (wrap64 (-a0))).bind fun t377 => (if 1 + t377.size ≤ 9223372036854775807 then (some ((⟨#[45]⟩ : ByteArray) ++ t377)) else (none))) else (if a0 < 10 then (some (strOfNums (([(wrap64 (48 + a0)) % 256] : List Int)))) else ((armatureref03_decimal.f k (wrap64 (Int.tdiv a0 10))).bind fun t381 => ((some (([(wrap64 (48 + (Int.tmod a0 10))) % 256] : List Int) : List Int)).bind fun y382 => (if t381.size + (strOfNums y382).size ≤ 9223372036854775807 then (some (t381 ++ (strOfNums y382))) else (none)))))) = some r := h
  clear h
  by_cases c2 : a0 < 0
  · rw [if_pos c2] at H
    have c2b0 : decide (a0 < 0) = true := decide_eq_true c2
    clear c2
    replace H := Option.bind_eq_some_iff.mp H
    obtain ⟨t377, A30, H⟩ := H
    replace H : (if 1 + t377.size ≤ 9223372036854775807 then (some ((⟨#[45]⟩ : ByteArray) ++ t377)) else (none)) = some r := H
    have A3 := Aside0.mk A30
    clear A30
    by_cases c4 : 1 + t377.size ≤ 9223372036854775807
    · rw [if_pos c4] at H
      have c4b0 := eq_true c4
      have c4b1 : decide (1 + t377.size ≤ 9223372036854775807) = true := decide_eq_true c4
      try have c4b2 : (9223372036854775807 < 1 + t377.size) = False := eq_false (Nat.not_lt.2 c4)
      obtain rfl := Option.some.inj H
      go_enter Tryd.func71, Tryd.ntmps71
      go_wp2_with (first | ((with_reducible refine gate_callee (f := 71) rfl ?_); refine goesL_ (some 7) rfl rfl Tryd.func71 (by kernel_rfl) rfl #[.int .i64 (wrap64 (-a0))] rfl (by (try simp only [List.map_toArray, List.map_cons, List.map_nil]); first | done | rfl | (simp only [List.length_drop, List.length_take]; rfl)) ?_; (with_reducible refine (ih k (by omega) (wrap64 (-a0)) t377 _ A3.out).mono ?_); rintro e w5 ⟨rfl, hb⟩; refine ⟨_, rfl, ?_⟩; have n0_ := Aside0.mk (below_step (by repeat (first | (with_reducible first | exact HB.out | apply below_alloc | apply pw_below_drewN | apply below_drew1) | exact HB.out)) hb); clear HB; have HB := n0_; clear n0_; (try clear hb); (try clear hb2); (try clear hk); (try clear hi)))
      go_ret
      exact ⟨by first | rfl | (simp [errW_none, errW_some] <;> rfl) | (simp [*, errW_none, errW_some] <;> rfl), by repeat (first | (with_reducible first | exact HB.out | apply below_alloc | apply pw_below_drewN | apply below_drew1) | exact HB.out)⟩
    · rw [if_neg c4] at H
      exact absurd H (by simp)
  · rw [if_neg c2] at H
    have c2b0 : decide (a0 < 0) = false := decide_eq_false c2
    clear c2
    by_cases c6 : a0 < 10
    · rw [if_pos c6] at H
      have c6b0 : decide (a0 < 10) = true := decide_eq_true c6
      clear c6
      obtain ⟨y378, hy378⟩ : ∃ y_ : List Int, y_ = (([(wrap64 (48 + a0)) % 256] : List Int)) := ⟨_, rfl⟩
      replace H : (some (strOfNums y378)) = some r := by first | (rw [hy378]; with_reducible exact H) | (have H2_ := (Option.bind_some _ _).symm.trans H; rw [hy378]; with_reducible exact H2_) | (have H2_ := (Option.bind_some _ _).symm.trans H; with_reducible exact H2_) | with_reducible exact H | (rw [hy378]; exact H) | exact H
      have Ny378 := Aside0.mk hy378
      clear hy378
      obtain rfl := Option.some.inj H
      go_enter Tryd.func71, Tryd.ntmps71
      go_wp2_with (first | ((with_reducible refine gate_dst (N := 14) rfl ?_); refine Kd.R_lit (Kd.int .u8) _ 5 ?hg (N := 14) ?hd (xs := ([(wrap64 (48 + a0)) % 256] : List Int)) (inner := [.int .u8 ((wrap64 (48 + a0)) % 256)]) (ok := fun _ => True) (okp := fun _ => True) ?hr ?hp (fun _ hk => hk) trivial (Below.refl _ _) (Nat.le_refl _) (by simp) ?_; (case hd => rfl); (case hg => rfl); (case hr => first | (go_simp; done) | (go_simp; rfl)); (case hp => exact (Reps.one (show Kd.M (Kd.int .u8) _ _ _ ((wrap64 (48 + a0)) % 256) [.int .u8 ((wrap64 (48 + a0)) % 256)] from rfl) (Reps.none _ _))); intro v379 w7 ho8 hb hg_ hnew_; clear hg_ hnew_; (first | rw [← Ny378.out] at ho8 | (simp only [Int.reduceToNat] at ho8; rw [← Ny378.out] at ho8)); have n0_ := Aside0.mk (Kd.R_lower ho8 (below_size (by repeat (first | (with_reducible first | exact HB.out | apply below_alloc | apply pw_below_drewN | apply below_drew1) | exact HB.out)))); have n1_ := Aside0.mk (below_step (by repeat (first | (with_reducible first | exact HB.out | apply below_alloc | apply pw_below_drewN | apply below_drew1) | exact HB.out)) hb); clear HB; have HO380 := n0_; have HB := n1_; clear n0_ n1_; clear hb ho8; have hcv9 := own_string (P := Tryd.prog) Tryd.underlying70 Tryd.underlying5 Tryd.underlying9 (Kd.own_of_R HO380.out)))
      go_ret
      exact ⟨by first | rfl | (simp [errW_none, errW_some] <;> rfl) | (simp [*, errW_none, errW_some] <;> rfl), by repeat (first | (with_reducible first | exact HB.out | apply below_alloc | apply pw_below_drewN | apply below_drew1) | exact HB.out)⟩
    · rw [if_neg c6] at H
      have c6b0 : decide (a0 < 10) = false := decide_eq_false c6
      clear c6
      replace H := Option.bind_eq_some_iff.mp H
      obtain ⟨t381, A100, H⟩ := H
      replace H : ((some (([(wrap64 (48 + (Int.tmod a0 10))) % 256] : List Int) : List Int)).bind fun y382 => (if t381.size + (strOfNums y382).size ≤ 9223372036854775807 then (some (t381 ++ (strOfNums y382))) else (none))) = some r := H
      have A10 := Aside0.mk A100
      clear A100
      obtain ⟨y382, hy382⟩ : ∃ y_ : List Int, y_ = (([(wrap64 (48 + (Int.tmod a0 10))) % 256] : List Int)) := ⟨_, rfl⟩
      replace H : (if t381.size + (strOfNums y382).size ≤ 9223372036854775807 then (some (t381 ++ (strOfNums y382))) else (none)) = some r := by first | (rw [hy382]; with_reducible exact H) | (have H2_ := (Option.bind_some _ _).symm.trans H; rw [hy382]; with_reducible exact H2_) | (have H2_ := (Option.bind_some _ _).symm.trans H; with_reducible exact H2_) | with_reducible exact H | (rw [hy382]; exact H) | exact H
      have Ny382 := Aside0.mk hy382
      clear hy382
      by_cases c11 : t381.size + (strOfNums y382).size ≤ 9223372036854775807
      · rw [if_pos c11] at H
        have c11b0 := eq_true c11
        have c11b1 : decide (t381.size + (strOfNums y382).size ≤ 9223372036854775807) = true := decide_eq_true c11
        try have c11b2 : (9223372036854775807 < t381.size + (strOfNums y382).size) = False := eq_false (Nat.not_lt.2 c11)
        obtain rfl := Option.some.inj H
        go_enter Tryd.func71, Tryd.ntmps71
        try go_wp2
        have n0_ := Aside0.mk (below_drew1 HB.out)
        clear HB
        have HB := n0_
        clear n0_
        refine start_ (n := 11) (S := fun w' => True) (ds := []) #[false, false, false, false, false, false, false, false, false, false, false] (by kernel_rfl) rfl rfl trivial (fun hHeld => ?_); refine with_tabW armatureref03_decimal.tab5 armatureref03_decimal.bits5 (fun HT_ HW_ => ?_)
        generalize w.drew = w12 at HB hHeld ⊢
        refine pure_ (i := 0) (N := some 16) (v := ?_) (a' := ?_) #[true, false, false, false, false, false, false, false, false, false, false] rfl rfl (any_of HT_.out (by kernel_rfl)) (fun _ _ _ h => h) (Or.inl ⟨by rfl, ?_⟩) ?_ ?_
        rotate_left
        · intro w'
          go_simp
          with_reducible rfl
        rotate_left
        · simp only [Act.put, List.setIfInBounds_toArray, List.set_cons_zero, List.set_cons_succ, i64_w, i32_w]
          rfl
        refine pure_ (i := 1) (N := some 17) (v := ?_) (a' := ?_) #[true, true, false, false, false, false, false, false, false, false, false] rfl rfl (any_of HT_.out (by kernel_rfl)) (fun _ _ _ h => h) (Or.inl ⟨by rfl, ?_⟩) ?_ ?_
        rotate_left
        · intro w'
          go_simp
          with_reducible rfl
        rotate_left
        · simp only [Act.put, List.setIfInBounds_toArray, List.set_cons_zero, List.set_cons_succ, i64_w, i32_w]
          rfl
        refine pure_ (i := 3) (N := some 19) (v := ?_) (a' := ?_) #[true, true, false, true, false, false, false, false, false, false, false] rfl rfl (any_of HT_.out (by kernel_rfl)) (fun _ _ _ h => h) (Or.inl ⟨by rfl, ?_⟩) ?_ ?_
        rotate_left
        · intro w'
          go_simp
          with_reducible rfl
        rotate_left
        · simp only [Act.put, List.setIfInBounds_toArray, List.set_cons_zero, List.set_cons_succ, i64_w, i32_w]
          rfl
        refine pure_ (i := 4) (N := some 20) (v := ?_) (a' := ?_) #[true, true, false, true, true, false, false, false, false, false, false] rfl rfl (any_of HT_.out (by kernel_rfl)) (fun _ _ _ h => h) (Or.inl ⟨by rfl, ?_⟩) ?_ ?_
        rotate_left
        · intro w'
          go_simp
          with_reducible rfl
        rotate_left
        · simp only [Act.put, List.setIfInBounds_toArray, List.set_cons_zero, List.set_cons_succ, i64_w, i32_w]
          rfl
        refine pure_ (i := 5) (N := some 21) (v := ?_) (a' := ?_) #[true, true, false, true, true, true, false, false, false, false, false] rfl rfl (any_of HT_.out (by kernel_rfl)) (fun _ _ _ h => h) (Or.inl ⟨by rfl, ?_⟩) ?_ ?_
        rotate_left
        · intro w'
          go_simp
          with_reducible rfl
        rotate_left
        · simp only [Act.put, List.setIfInBounds_toArray, List.set_cons_zero, List.set_cons_succ, i64_w, i32_w]
          rfl
        refine pure_ (i := 6) (N := some 22) (v := ?_) (a' := ?_) #[true, true, false, true, true, true, true, false, false, false, false] rfl rfl (any_of HT_.out (by kernel_rfl)) (fun _ _ _ h => h) (Or.inl ⟨by rfl, ?_⟩) ?_ ?_
        rotate_left
        · intro w'
          go_simp
          with_reducible rfl
        rotate_left
        · simp only [Act.put, List.setIfInBounds_toArray, List.set_cons_zero, List.set_cons_succ, i64_w, i32_w]
          rfl
        refine join_ (σ := Value) 2 #[true, true, true, true, true, true, true, true, true, false, false] (fun s_ => [(18, .string t381), (23, s_), (24, .string (strOfNums y382))]) (fun s_ w' => (Kd.R (Kd.int .u8) 5 w' w.heap.size (fun _ => True) s_ y382) ∧ (Below w.heap.size w w')) ?_ ?_
        rotate_left
        · intro hCont
          refine two_ (i := 2) (j := 7) (Ni := some 18) (Nj := some 23) #[true, true, true, true, true, true, true, false, false, false, false] #[true, true, false, true, true, true, true, true, false, false, false] rfl rfl rfl rfl (two_of HT_.out (by kernel_rfl)) (by decide) (by decide) (fun K hK => ?_) (fun K hK => ?_)
          · skip
            refine goes_ Tryd.func71 (by kernel_rfl) rfl #[.int .i64 (wrap64 (Int.tdiv a0 10))] (by rfl) rfl rfl (by (try simp only [List.map_toArray, List.map_cons, List.map_nil]); first | done | rfl | (simp only [List.length_drop, List.length_take]; rfl)) ?_
            with_reducible refine (ih k (by omega) (wrap64 (Int.tdiv a0 10)) t381 _ A10.out).mono ?_
            rintro e w13 ⟨rfl, hb⟩
            refine ⟨_, rfl, ?_⟩
            have n0_ := Aside0.mk (below_step (by repeat (first | (with_reducible first | exact HB.out | apply below_alloc | apply pw_below_drewN | apply below_drew1) | exact HB.out)) hb)
            clear HB
            have HB := n0_
            clear n0_
            (try clear hb)
            (try clear hb2)
            (try clear hk)
            (try clear hi)
            refine hK.out _ _ trivial (fun hHeld => ?_)
            clear hK K
            refine norm_ (a' := ?_) ?_ ?_
            rotate_left
            · show Act.put _ (some 18) _ = _
              simp only [Act.put, List.setIfInBounds_toArray, List.set_cons_zero, List.set_cons_succ, i64_w, i32_w]
              rfl
            refine one_ (i := 7) (N := some 23) #[true, true, true, true, true, true, true, true, false, false, false] rfl rfl (one_of HT_.out (by kernel_rfl)) (by decide) (fun K hK => ?_)
            refine Kd.R_lit_step (Kd.int .u8) _ 5 ?hg (N := 23) ?hd (xs := ([(wrap64 (48 + (Int.tmod a0 10))) % 256] : List Int)) (inner := [.int .u8 ((wrap64 (48 + (Int.tmod a0 10))) % 256)]) (ok := fun _ => True) (okp := fun _ => True) ?hr ?hp (fun _ hk => hk) trivial (Below.refl _ _) (Nat.le_refl _) (by simp) ?_; (case hd => rfl); (case hg => rfl); (case hr => first | (go_simp; done) | (go_simp; rfl)); (case hp => exact (Reps.one (show Kd.M (Kd.int .u8) _ _ _ ((wrap64 (48 + (Int.tmod a0 10))) % 256) [.int .u8 ((wrap64 (48 + (Int.tmod a0 10))) % 256)] from rfl) (Reps.none _ _)))
            intro v383 w14 ho15 hb hg_ hnew_
            clear hg_ hnew_
            (first | rw [← Ny382.out] at ho15 | (simp only [Int.reduceToNat] at ho15; rw [← Ny382.out] at ho15))
            have n0_ := Aside0.mk (Kd.R_lower ho15 (below_size (by repeat (first | (with_reducible first | exact HB.out | apply below_alloc | apply pw_below_drewN | apply below_drew1) | exact HB.out))))
            have n1_ := Aside0.mk (below_step (by repeat (first | (with_reducible first | exact HB.out | apply below_alloc | apply pw_below_drewN | apply below_drew1) | exact HB.out)) hb)
            clear HB
            have HO384 := n0_
            have HB := n1_
            clear n0_ n1_
            clear hb ho15
            refine hK.out _ _ trivial (fun hHeld => ?_)
            clear hK K
            refine norm_ (a' := ?_) ?_ ?_
            rotate_left
            · show Act.put _ (some 23) _ = _
              simp only [Act.put, List.setIfInBounds_toArray, List.set_cons_zero, List.set_cons_succ, i64_w, i32_w]
              rfl
            refine one_ (i := 8) (N := some 24) #[true, true, true, true, true, true, true, true, true, false, false] rfl rfl (one_of HT_.out (by kernel_rfl)) (by decide) (fun K hK => ?_)
            have hcv16 := own_string (P := Tryd.prog) Tryd.underlying70 Tryd.underlying5 Tryd.underlying9 (Kd.own_of_R HO384.out)
            refine value_ (w1 := ?_) (v := ?_) (by rfl) rfl ?_ ?_
            rotate_left 2
            · go_simp
              constructor
              · rfl
              · rfl
            clear hcv16
            refine hK.out _ _ trivial (fun hHeld => ?_)
            clear hK K
            refine norm_ (a' := ?_) ?_ ?_
            rotate_left
            · show Act.put _ (some 24) _ = _
              simp only [Act.put, List.setIfInBounds_toArray, List.set_cons_zero, List.set_cons_succ, i64_w, i32_w]
              rfl
            exact norm_ (by simp only [putAll, Act.put, List.setIfInBounds_toArray, List.set_cons_zero, List.set_cons_succ]) (hCont (v383) _ ⟨(by (with_reducible repeat (first | apply Kd.R_alloc | apply Kd.R_drewN | apply Kd.R_drew)); exact HO384.out), (by repeat (first | (with_reducible first | exact HB.out | apply below_alloc | apply pw_below_drewN | apply below_drew1) | exact HB.out))⟩)
          · skip
            refine Kd.R_lit_step (Kd.int .u8) _ 5 ?hg (N := 23) ?hd (xs := ([(wrap64 (48 + (Int.tmod a0 10))) % 256] : List Int)) (inner := [.int .u8 ((wrap64 (48 + (Int.tmod a0 10))) % 256)]) (ok := fun _ => True) (okp := fun _ => True) ?hr ?hp (fun _ hk => hk) trivial (Below.refl _ _) (Nat.le_refl _) (by simp) ?_; (case hd => rfl); (case hg => rfl); (case hr => first | (go_simp; done) | (go_simp; rfl)); (case hp => exact (Reps.one (show Kd.M (Kd.int .u8) _ _ _ ((wrap64 (48 + (Int.tmod a0 10))) % 256) [.int .u8 ((wrap64 (48 + (Int.tmod a0 10))) % 256)] from rfl) (Reps.none _ _)))
            intro v383 w13 ho14 hb hg_ hnew_
            clear hg_ hnew_
            (first | rw [← Ny382.out] at ho14 | (simp only [Int.reduceToNat] at ho14; rw [← Ny382.out] at ho14))
            have n0_ := Aside0.mk (Kd.R_lower ho14 (below_size (by repeat (first | (with_reducible first | exact HB.out | apply below_alloc | apply pw_below_drewN | apply below_drew1) | exact HB.out))))
            have n1_ := Aside0.mk (below_step (by repeat (first | (with_reducible first | exact HB.out | apply below_alloc | apply pw_below_drewN | apply below_drew1) | exact HB.out)) hb)
            clear HB
            have HO384 := n0_
            have HB := n1_
            clear n0_ n1_
            clear hb ho14
            refine hK.out _ _ trivial (fun hHeld => ?_)
            clear hK K
            refine norm_ (a' := ?_) ?_ ?_
            rotate_left
            · show Act.put _ (some 23) _ = _
              simp only [Act.put, List.setIfInBounds_toArray, List.set_cons_zero, List.set_cons_succ, i64_w, i32_w]
              rfl
            refine two_ (i := 2) (j := 8) (Ni := some 18) (Nj := some 24) #[true, true, true, true, true, true, true, true, false, false, false] #[true, true, false, true, true, true, true, true, true, false, false] rfl rfl rfl rfl (two_of HT_.out (by kernel_rfl)) (by decide) (by decide) (fun K hK => ?_) (fun K hK => ?_)
            · skip
              refine goes_ Tryd.func71 (by kernel_rfl) rfl #[.int .i64 (wrap64 (Int.tdiv a0 10))] (by rfl) rfl rfl (by (try simp only [List.map_toArray, List.map_cons, List.map_nil]); first | done | rfl | (simp only [List.length_drop, List.length_take]; rfl)) ?_
              with_reducible refine (ih k (by omega) (wrap64 (Int.tdiv a0 10)) t381 _ A10.out).mono ?_
              rintro e w15 ⟨rfl, hb⟩
              refine ⟨_, rfl, ?_⟩
              have n0_ := Aside0.mk (Kd.R_below (by (with_reducible repeat (first | apply Kd.R_alloc | apply Kd.R_drewN | apply Kd.R_drew)); exact HO384.out) hb)
              have n1_ := Aside0.mk (below_step (by repeat (first | (with_reducible first | exact HB.out | apply below_alloc | apply pw_below_drewN | apply below_drew1) | exact HB.out)) hb)
              clear HO384
              clear HB
              have HO384 := n0_
              have HB := n1_
              clear n0_ n1_
              (try clear hb)
              (try clear hb2)
              (try clear hk)
              (try clear hi)
              refine hK.out _ _ trivial (fun hHeld => ?_)
              clear hK K
              refine norm_ (a' := ?_) ?_ ?_
              rotate_left
              · show Act.put _ (some 18) _ = _
                simp only [Act.put, List.setIfInBounds_toArray, List.set_cons_zero, List.set_cons_succ, i64_w, i32_w]
                rfl
              refine one_ (i := 8) (N := some 24) #[true, true, true, true, true, true, true, true, true, false, false] rfl rfl (one_of HT_.out (by kernel_rfl)) (by decide) (fun K hK => ?_)
              have hcv16 := own_string (P := Tryd.prog) Tryd.underlying70 Tryd.underlying5 Tryd.underlying9 (Kd.own_of_R HO384.out)
              refine value_ (w1 := ?_) (v := ?_) (by rfl) rfl ?_ ?_
              rotate_left 2
              · go_simp
                constructor
                · rfl
                · rfl
              clear hcv16
              refine hK.out _ _ trivial (fun hHeld => ?_)
              clear hK K
              refine norm_ (a' := ?_) ?_ ?_
              rotate_left
              · show Act.put _ (some 24) _ = _
                simp only [Act.put, List.setIfInBounds_toArray, List.set_cons_zero, List.set_cons_succ, i64_w, i32_w]
                rfl
              exact norm_ (by simp only [putAll, Act.put, List.setIfInBounds_toArray, List.set_cons_zero, List.set_cons_succ]) (hCont (v383) _ ⟨(by (with_reducible repeat (first | apply Kd.R_alloc | apply Kd.R_drewN | apply Kd.R_drew)); exact HO384.out), (by repeat (first | (with_reducible first | exact HB.out | apply below_alloc | apply pw_below_drewN | apply below_drew1) | exact HB.out))⟩)
            · skip
              have hcv15 := own_string (P := Tryd.prog) Tryd.underlying70 Tryd.underlying5 Tryd.underlying9 (Kd.own_of_R HO384.out)
              refine value_ (w1 := ?_) (v := ?_) (by rfl) rfl ?_ ?_
              rotate_left 2
              · go_simp
                constructor
                · rfl
                · rfl
              clear hcv15
              refine hK.out _ _ trivial (fun hHeld => ?_)
              clear hK K
              refine norm_ (a' := ?_) ?_ ?_
              rotate_left
              · show Act.put _ (some 24) _ = _
                simp only [Act.put, List.setIfInBounds_toArray, List.set_cons_zero, List.set_cons_succ, i64_w, i32_w]
                rfl
              refine one_ (i := 2) (N := some 18) #[true, true, true, true, true, true, true, true, true, false, false] rfl rfl (one_of HT_.out (by kernel_rfl)) (by decide) (fun K hK => ?_)
              refine goes_ Tryd.func71 (by kernel_rfl) rfl #[.int .i64 (wrap64 (Int.tdiv a0 10))] (by rfl) rfl rfl (by (try simp only [List.map_toArray, List.map_cons, List.map_nil]); first | done | rfl | (simp only [List.length_drop, List.length_take]; rfl)) ?_
              with_reducible refine (ih k (by omega) (wrap64 (Int.tdiv a0 10)) t381 _ A10.out).mono ?_
              rintro e w16 ⟨rfl, hb⟩
              refine ⟨_, rfl, ?_⟩
              have n0_ := Aside0.mk (Kd.R_below (by (with_reducible repeat (first | apply Kd.R_alloc | apply Kd.R_drewN | apply Kd.R_drew)); exact HO384.out) hb)
              have n1_ := Aside0.mk (below_step (by repeat (first | (with_reducible first | exact HB.out | apply below_alloc | apply pw_below_drewN | apply below_drew1) | exact HB.out)) hb)
              clear HO384
              clear HB
              have HO384 := n0_
              have HB := n1_
              clear n0_ n1_
              (try clear hb)
              (try clear hb2)
              (try clear hk)
              (try clear hi)
              refine hK.out _ _ trivial (fun hHeld => ?_)
              clear hK K
              refine norm_ (a' := ?_) ?_ ?_
              rotate_left
              · show Act.put _ (some 18) _ = _
                simp only [Act.put, List.setIfInBounds_toArray, List.set_cons_zero, List.set_cons_succ, i64_w, i32_w]
                rfl
              exact norm_ (by simp only [putAll, Act.put, List.setIfInBounds_toArray, List.set_cons_zero, List.set_cons_succ]) (hCont (v383) _ ⟨(by (with_reducible repeat (first | apply Kd.R_alloc | apply Kd.R_drewN | apply Kd.R_drew)); exact HO384.out), (by repeat (first | (with_reducible first | exact HB.out | apply below_alloc | apply pw_below_drewN | apply below_drew1) | exact HB.out))⟩)
        rintro v383 w17 ⟨h0_, h1_⟩
        have n0_ : Aside0 (Kd.R (Kd.int .u8) 5 w17 w.heap.size (fun _ => True) v383 y382) := ⟨h0_⟩
        have n1_ : Aside0 (Below w.heap.size w w17) := ⟨h1_⟩
        clear HB
        clear h0_ h1_
        have HO384 := n0_
        have HB := n1_
        clear n0_ n1_
        have hHeld := trivial
        refine norm_ (a' := ?_) ?_ ?_
        rotate_left
        · simp only [putAll, Act.put, List.setIfInBounds_toArray, List.set_cons_zero, List.set_cons_succ]
          rfl
        refine pure_ (i := 9) (N := some 25) (v := ?_) (a' := ?_) #[true, true, true, true, true, true, true, true, true, true, false] rfl rfl (any_of HT_.out (by kernel_rfl)) (fun _ _ _ h => h) (Or.inl ⟨by rfl, ?_⟩) ?_ ?_
        rotate_left
        · intro w'
          go_simp
          with_reducible rfl
        rotate_left
        · simp only [Act.put, List.setIfInBounds_toArray, List.set_cons_zero, List.set_cons_succ, i64_w, i32_w]
          rfl
        refine pure_ (i := 10) (N := some 2) (v := ?_) (a' := ?_) #[true, true, true, true, true, true, true, true, true, true, true] rfl rfl (any_of HT_.out (by kernel_rfl)) (fun _ _ _ h => h) (Or.inl ⟨by rfl, ?_⟩) ?_ ?_
        rotate_left
        · intro w'
          go_simp
          with_reducible rfl
        rotate_left
        · simp only [Act.put, List.setIfInBounds_toArray, List.set_cons_zero, List.set_cons_succ, i64_w, i32_w]
          rfl
        refine done_ (done_of HT_.out (by kernel_rfl)) ?_
        try go_wp2
        go_ret
        exact ⟨by first | rfl | (simp [errW_none, errW_some] <;> rfl) | (simp [*, errW_none, errW_some] <;> rfl), by repeat (first | (with_reducible first | exact HB.out | apply below_alloc | apply pw_below_drewN | apply below_drew1) | exact HB.out)⟩
      · rw [if_neg c11] at H
        exact absurd H (by simp)
theorem dec_val : ∀ k : Fin 129, armatureref03_decimal.f 4 ((k.val : Int) - 64) = some ⟨(Lib.itoa ((k.val : Int) - 64)).toArray⟩ := by decide +kernel
theorem decimal_walk (n : Int) (h0 : -64 ≤ n) (h1 : n ≤ 64) (w : World) : Calls Tryd.prog 71 #[.int .i64 n] w fun e w' => e = .returned (.string ⟨(Lib.itoa n).toArray⟩) ∧ Below w.heap.size w w' := by
  have h := dec_val ⟨(n + 64).toNat, by omega⟩
  have e : (((n + 64).toNat : Nat) : Int) - 64 = n := by omega
  simp only [e] at h
  exact armatureref03_decimal.calls 4 n _ w h
end Go.Proofs.YtgdiodhaihmnbaaDoor.Own
namespace Go.Proofs.YtgdiodhaihmnbaaDoor.Own
open Go.Proofs.YtgdiodhaihmnbaaDoor.PPrinterMatchesReference
theorem kids_two {ks : List S24} (h : ks.length = 2) : ∃ p q, ks = [p, q] := by
  match ks, h with
  | [p, q], _ => exact ⟨p, q, rfl⟩
theorem kids_one {ks : List S24} (h : ks.length = 1) : ∃ p, ks = [p] := by
  match ks, h with
  | [p], _ => exact ⟨p, rfl⟩
theorem fits_shape {op : Int} {ks : List S24} {s : List UInt8} (hs : atS op shapeT = some s) (h47 : op ≠ 47) (h : fitsB op ks = true) : s.length = ks.length ∧ ∀ i < ks.length, kindC (ks.getD i z24).f0 = ((s.getD i 0).toNat : Int) := by
  rcases fits_cases h with ⟨h, _⟩ | ⟨_, l, hl, h1, h2⟩
  · exact absurd h h47
  · rw [hs] at hl
    cases hl
    exact ⟨h1, h2⟩
theorem opdT_0 (p : S24) (r : List S24) (need : Int) (fin : Bool) : opdT (p :: r) 0 need fin = oprT p need fin := by rw [opdT, oprT]
theorem opdT_1 (p q : S24) (r : List S24) (need : Int) (fin : Bool) : opdT (p :: q :: r) 1 need fin = oprT q need fin := by rw [opdT, opdT, oprT]
theorem blv_none_okR {op : Int} {fin : Bool} {r : List Tok} (h : noPo r) (hb : blv r = none) : okR op fin r := ⟨h, fun l hl => by rw [hb] at hl; cases hl⟩
/-- A name, its domain and the formula behind it. -/
theorem qnt_bnd {x e f : S24} (op : Int) (hk : x.f3 = [e, f]) (he : Good e) (hf : Good f) (hn : nameB x.f1 = true) {r : List Tok} (hr : noPo r) (hb : blv r = none) {z : S24} (hz : nodeP ⟨op, x.f1, 0, [strip e, strip f], 0⟩ = some z) : Qnt op (bndT x ++ r) (z, r) := by
  have e1 : bndT x ++ r = wrdT x.f1.data.toList :: symT [58] :: (oprT e 8 true ++ symT [124] :: (toks f true ++ r)) := by
    simp [bndT, hk, opdT_0, nodT]
  have hs : (⟨(wrdT x.f1.data.toList).2.toArray⟩ : ByteArray) = x.f1 := by simp [wrdT]
  have hnm : isNm (wrdT x.f1.data.toList) = true := by
    unfold isNm
    rw [hs]
    unfold nameB at hn
    simp only [Bool.and_eq_true] at hn
    simp [wrdT, hn.1.2]
  rw [e1]
  have h124 := okR_close (u := symT [124]) e.f0 true (toks f true ++ r) (by decide)
  have p1 : Par 8 (oprT e 8 true ++ symT [124] :: (toks f true ++ r)) (strip e, symT [124] :: (toks f true ++ r)) := opr_end he h124.1 (fun _ => h124) fun l hl => absurd (h124.2 l hl).1 (by decide)
  have hfo : okR f.f0 true r := blv_none_okR hr hb
  have p2 : Par 1 (toks f true ++ r) (strip f, r) := hf.part true r 1 _ (lvl_pos _).1 hfo (Or.inl rfl) (lop_stop fun l hl => by rw [hb] at hl; cases hl)
  refine qnt_mk hnm p1 p2 ?_
  rw [hs]
  exact hz
theorem par_no93 {lv : Int} {r : List Tok} {v : S24 × List Tok} : ¬ Par lv (symT [93] :: r) v := by
  rintro ⟨N, h⟩
  have := h (N + 3) (by omega)
  have h0 : atK (symT [93]) uopT = none := by decide
  have h1 : atK (symT [93]) conT = none := by decide
  have h2 : ¬ ((symT [93]).1 = 2) := by decide
  have h3 : isNm (symT [93]) = false := by decide
  have h4 : ¬ (symT [93] = wrdT [97, 108, 108]) := by decide
  have h5 : ¬ (symT [93] = wrdT [115, 111, 109, 101]) := by decide
  have h6 : ¬ (symT [93] = symT [45]) := by decide
  have h7 : ¬ (symT [93] = wrdT [110, 111, 110, 101]) := by decide
  have h8 : ¬ (symT [93] = symT [123]) := by decide
  have h9 : ¬ (symT [93] = symT [40]) := by decide
  simp [parP, opdP, priP, h0, h1, h2, h3, h4, h5, h6, h7, h8, h9] at this
theorem args_head (l : List S24) (r : List Tok) : ∃ u q, argT l false ++ symT [93] :: r = u :: q ∧ u ∈ [symT [41], symT [125], symT [93], symT [124], symT [44]] := by
  cases l with
  | nil => exact ⟨symT [93], r, by rw [argT]; rfl, by decide⟩
  | cons y l => rw [argT]; exact ⟨symT [44], _, rfl, by decide⟩
/-- The arguments of a call. -/
theorem cal_args {s : ByteArray} {z : S24} {r : List Tok} : ∀ (l : List S24), (∀ y ∈ l, Good y) → ∀ d : List S24, nodeP ⟨47, s, 0, d ++ stripL l, 0⟩ = some z → Cal s d (argT l d.isEmpty ++ symT [93] :: r) (z, r)
  | [], _, d, hz => by
    rw [argT]
    rw [stripL, List.append_nil] at hz
    exact cal_end hz
  | y :: l, hg, d, hz => by
    have hy := hg y List.mem_cons_self
    obtain ⟨u, q, hu, hm⟩ := args_head l r
    have hp : Par 8 (oprT y 8 true ++ (argT l false ++ symT [93] :: r)) (strip y, argT l false ++ symT [93] :: r) := by
      rw [hu]
      have h := okR_close y.f0 true q hm
      exact opr_end hy h.1 (fun _ => h) fun l hl => absurd (h.2 l hl).1 (by decide)
    have hc : Cal s (d ++ [strip y]) (argT l false ++ symT [93] :: r) (z, r) := by
      have e : (d ++ [strip y]).isEmpty = false := by simp
      have := cal_args (r := r) l (fun y hy => hg y (List.mem_cons_of_mem _ hy)) (d ++ [strip y]) (by rw [stripL] at hz; simpa using hz)
      rw [e] at this
      exact this
    have ea : argT (y :: l) d.isEmpty ++ symT [93] :: r = (if d.isEmpty then [] else [symT [44]]) ++ (oprT y 8 true ++ (argT l false ++ symT [93] :: r)) := by
      rw [argT, oprT]; simp only [List.append_assoc]
    rw [ea]
    by_cases hd : d.isEmpty = true
    · rw [if_pos hd, List.nil_append]
      refine cal_go ?_ (by rw [if_pos hd]) hp hc
      cases he : oprT y 8 true ++ (argT l false ++ symT [93] :: r) with
      | nil => rfl
      | cons t ts =>
        refine exp_none (fun e => ?_) ts
        rw [he, e] at hp
        exact par_no93 hp
    · rw [if_neg hd, List.singleton_append]
      refine cal_go (exp_none (by decide) _) ?_ hp hc
      rw [if_neg hd, expP, if_pos rfl]
theorem itoa_val : ∀ k : Fin 65, numV (Lib.itoa (k.val : Int)) = (k.val : Int) := by decide +kernel
theorem pri_lit (n : Int) (h0 : -64 ≤ n) (h1 : n ≤ 64) (r : List Tok) : ∃ t q, numTok n ++ r = t :: q ∧ Pri t q (⟨20, emp, n, [], 0⟩, r) ∧ atK t uopT = none ∧ t ≠ wrdT [97, 108, 108] := by
  unfold numTok
  by_cases hn : n < 0
  · obtain ⟨k, rfl⟩ : ∃ k : Nat, n = -(k : Int) := ⟨(-n).toNat, by omega⟩
    have hk := itoa_val ⟨k, by omega⟩
    simp only at hk
    rw [if_pos hn]
    have e : (0 : Int) - -(k : Int) = k := by omega
    rw [e]
    have := pri_neg (s := Lib.itoa (k : Int)) (r := r) (by omega)
    rw [hk] at this
    exact ⟨symT [45], _, rfl, this, by decide, by decide⟩
  · obtain ⟨k, rfl⟩ : ∃ k : Nat, n = (k : Int) := ⟨n.toNat, by omega⟩
    have hk := itoa_val ⟨k, by omega⟩
    simp only at hk
    rw [if_neg hn]
    have := pri_num (s := Lib.itoa (k : Int)) (r := r) (by omega)
    rw [hk] at this
    exact ⟨_, _, rfl, this, atK_none (by simp [uopT, wrdT, symT]), by simp [wrdT]⟩
theorem ar_2 : numTok 2 = [(2, [50])] ∧ arP (2, [50]) = some 2 := by decide +kernel
theorem ar_3 : numTok 3 = [(2, [51])] ∧ arP (2, [51]) = some 3 := by decide +kernel
theorem ar_row {n : Int} (h0 : 2 ≤ n) (h1 : n ≤ 3) : ∃ s, numTok n = [(2, s)] ∧ arP (2, s) = some n := by
  by_cases h : n = 2
  · rw [h]; exact ⟨_, ar_2⟩
  · have : n = 3 := by omega
    rw [this]; exact ⟨_, ar_3⟩
theorem name_nm {s : ByteArray} (hn : nameB s = true) : isNm (wrdT s.data.toList) = true ∧ (⟨(wrdT s.data.toList).2.toArray⟩ : ByteArray) = s := by
  have hs : (⟨(wrdT s.data.toList).2.toArray⟩ : ByteArray) = s := by simp [wrdT]
  refine ⟨?_, hs⟩
  unfold isNm
  rw [hs]
  unfold nameB at hn
  simp only [Bool.and_eq_true] at hn
  simp [wrdT, hn.1.2]
theorem good_tree (n : Nat) : ∀ x : S24, SizeOf.sizeOf x < n → ∀ lv, frmN x lv = true → Good x := by
  induction n with
  | zero => intro x h; omega
  | succ n ih =>
    intro x hx lv hf
    obtain ⟨hown, hfit, hkids⟩ := frm_own hf
    have hg : ∀ y ∈ x.f3, Good y := fun y hy => ih y (by have := size_kid hy; omega) (lv - 1) (frmL_mem hkids y hy)
    have hnd := node_strip hfit
    cases hb : atT x.f0 binT with
    | some v =>
      obtain ⟨t, l, a, b⟩ := v
      obtain ⟨rel, alt, k0, k1, hop, hsh, hif, hne, hnle, hnne, h39, h91, h58, hnm, hnum, h7, hnam, h2, h20⟩ := bin_row hb
      have h47 : x.f0 ≠ 47 := by intro h; rw [h] at hnam; revert hnam; decide
      obtain ⟨hlen, hkd⟩ := fits_shape hsh h47 hfit
      obtain ⟨p, q, hpq⟩ := kids_two hlen.symm
      have hp := hg p (by rw [hpq]; exact List.mem_cons_self)
      have hq := hg q (by rw [hpq]; exact List.mem_cons_of_mem _ List.mem_cons_self)
      have hkp : kindC p.f0 = (k0.toNat : Int) := by have := hkd 0 (by rw [hpq]; exact Nat.zero_lt_succ _); rw [hpq] at this; exact this
      obtain ⟨e1, e2, e3⟩ := lvl_bin hb
      have hsx : strip x = ⟨x.f0, emp, 0, [strip p, strip q], 0⟩ := by
        rw [strip_def, own_plain hown hnam, own_zero hown h2 h20, hpq, stripL, stripL, stripL]
      refine ⟨fun h => (by rw [hb] at h; cases h), fun fin r lv' v hlv ho _ hl => ?_⟩
      rw [e3] at hl
      rw [e1] at hlv
      have et : toks x fin ++ r = oprT p a false ++ opTok t :: (oprT q b fin ++ r) := by
        rw [toks_def, hb]
        simp [hpq, opdT_0, opdT_1]
      rw [et]
      refine opr_par hp (by omega) (noPo_cons _ h39 h91 h58) (fun hbare => ⟨noPo_cons _ h39 h91 h58, fun l' hl' => ⟨rfl, ?_⟩⟩) ?_
      · rw [blv, hop] at hl'
        cases hl'
        exact left_need hb (by rw [hkp, kid0, hsh]; rfl) (bare_split hbare).1
      · have hq' : Par b (oprT q b fin ++ r) (strip q, r) := by
          refine opr_end hq ho.1 (fun hbare => ⟨ho.1, fun l' hl' => ?_⟩) fun l' hl' => by have := (ho.2 l' hl').2; omega
          have h3 := ho.2 l' hl'
          have h4 := (bare_split hbare).1
          have h5 := lvl_pos q.f0
          exact ⟨h3.1, by omega⟩
        refine lop_go hop hlv (fun h => ?_) hq' ?_ hl
        · by_cases hbare : bare p.f0 a false = true
          · have h4 := (bare_split hbare).1
            have h5 := h7 h
            have : cmpB p.f0 = false := by
              cases hpb : atT p.f0 binT with
              | none => unfold cmpB; rw [hpb]
              | some v =>
                obtain ⟨t', l', a', b'⟩ := v
                have := lvl_bin hpb
                rw [this.2.2]
                simp only [beq_eq_false_iff_ne, ne_eq]
                omega
            rw [this, Bool.and_false]
          · rw [Bool.not_eq_true] at hbare
            rw [hbare, Bool.false_and]
        · have hif' : (if kindC (strip p).f0 = 101 ∧ rel ≠ 0 then rel else alt) = x.f0 := by rw [strip_f0, hkp]; exact hif
          unfold joinP
          rw [hif', if_neg hne, if_neg hnle, if_neg hnne, ← hsx]
          exact hnd
    | none =>
      cases hp : atT x.f0 preT with
      | some v =>
        obtain ⟨t, l, a, b⟩ := v
        obtain ⟨k0, hop, hsh, hall, hnm, hnum, hnam, h2, h20, hopen⟩ := pre_row hp
        have h47 : x.f0 ≠ 47 := by intro h; rw [h] at hnam; revert hnam; decide
        obtain ⟨hlen, hkd⟩ := fits_shape hsh h47 hfit
        obtain ⟨p, hpq⟩ := kids_one hlen.symm
        have hgp := hg p (by rw [hpq]; exact List.mem_cons_self)
        obtain ⟨e1, e2, e3⟩ := lvl_pre hb hp
        have hsx : strip x = ⟨x.f0, emp, 0, [strip p], 0⟩ := by
          rw [strip_def, own_plain hown hnam, own_zero hown h2 h20, hpq, stripL, stripL]
        refine ⟨fun _ h => (by rw [hp] at h; cases h), fun fin r lv' v hlv ho _ hl => ?_⟩
        rw [e3] at hl
        have et : toks x fin ++ r = opTok t :: (oprT p a fin ++ r) := by
          rw [toks_def, hb, hp]
          simp [hpq, opdT_0]
        rw [et]
        have hq' : Par a (oprT p a fin ++ r) (strip p, r) := by
          refine opr_end hgp ho.1 (fun hbare => ⟨ho.1, fun l' hl' => ?_⟩) fun l' hl' => by have := (ho.2 l' hl').2; omega
          have h3 := ho.2 l' hl'
          have h4 := (bare_split hbare).1
          have h5 := lvl_pos p.f0
          exact ⟨h3.1, by omega⟩
        refine par_mk (opd_pre hop hall (opr_col p a fin r ho.1.2.2) hq' ?_) hl
        rw [← hsx]
        exact hnd
      | none =>
        by_cases hopen : openB x.f0 = true
        · -- an open quantifier
          have h4 : x.f0 = 45 ∨ x.f0 = 46 := by simpa [openB] using hopen
          have hnam : named x.f0 = true := by rcases h4 with h | h <;> rw [h] <;> rfl
          have h47 : x.f0 ≠ 47 := by omega
          have hsh : atS x.f0 shapeT = some [101, 102] := by rcases h4 with h | h <;> rw [h] <;> rfl
          obtain ⟨hlen, hkd⟩ := fits_shape hsh h47 hfit
          obtain ⟨p, q, hpq⟩ := kids_two hlen.symm
          have hgp := hg p (by rw [hpq]; exact List.mem_cons_self)
          have hgq := hg q (by rw [hpq]; exact List.mem_cons_of_mem _ List.mem_cons_self)
          have hnb := own_name hown hnam
          have hsx : strip x = ⟨x.f0, x.f1, 0, [strip p, strip q], 0⟩ := by
            rw [strip_def, own_zero hown (by omega) (by omega), hpq, stripL, stripL, stripL]
          rw [hsx] at hnd
          refine ⟨fun _ _ h => (by rw [hopen] at h; cases h), fun fin r lv' v hlv ho hfo hl => ?_⟩
          rw [(lvl_oth hb hp).2.2.2] at hl
          have hfin : fin = true := by
            rcases hfo with h | h
            · exact h
            · rw [hopen] at h; cases h
          subst hfin
          have hbl : blv r = none := by
            cases he : blv r with
            | none => rfl
            | some l => exact absurd (ho.2 l he).1 (by decide)
          refine par_mk ?_ hl
          rcases h4 with h | h
          · have et : toks x true ++ r = wrdT [97, 108, 108] :: (bndT x ++ r) := by rw [toks_def, hb, hp]; simp [h]
            rw [et]
            exact opd_all (qnt_bnd 45 hpq hgp hgq hnb ho.1 hbl (by rw [hsx]; rw [h] at hnd ⊢; exact hnd))
          · have et : toks x true ++ r = wrdT [115, 111, 109, 101] :: (bndT x ++ r) := by rw [toks_def, hb, hp]; simp [h]
            rw [et]
            refine opd_ex ?_ (qnt_bnd 46 hpq hgp hgq hnb ho.1 hbl (by rw [hsx]; rw [h] at hnd ⊢; exact hnd))
            have := (name_nm hnb).1
            simp [bndT, colP, this]
        · rw [Bool.not_eq_true] at hopen
          refine good_of_prim hb hp hopen fun fin r v hr hv => ?_
          rw [toks_def, hb, hp]
          dsimp only
          have ho45 : x.f0 ≠ 45 := by intro h; rw [h] at hopen; revert hopen; decide
          have ho46 : x.f0 ≠ 46 := by intro h; rw [h] at hopen; revert hopen; decide
          by_cases h1 : x.f0 = 1
          · rw [if_pos h1]
            obtain ⟨hnm, hs⟩ := name_nm (own_name hown (by rw [h1]; rfl))
            have hk : x.f3 = [] := by
              have := fits_shape (s := []) (by rw [h1]; rfl) (by omega) hfit
              exact List.eq_nil_of_length_eq_zero this.1.symm
            have hsx : strip x = ⟨1, x.f1, 0, [], 0⟩ := by rw [strip_def, h1, own_zero hown (by omega) (by omega), hk, stripL]
            have hp := pri_name hnm hr
            rw [hs, ← hsx] at hp
            exact opd_pri (nm_uop hnm) (nm_no hnm _ (by decide +kernel)) hp hv
          rw [if_neg h1]
          by_cases h2 : x.f0 = 2
          · rw [if_pos h2]
            have hk : x.f3 = [] := by
              have := fits_shape (s := []) (by rw [h2]; rfl) (by omega) hfit
              exact List.eq_nil_of_length_eq_zero this.1.symm
            have hsx : strip x = ⟨2, emp, x.f2, [], 0⟩ := by rw [strip_def, h2, own_plain hown (by rw [h2]; rfl), hk, stripL]
            rw [hsx] at hv
            by_cases hn : x.f2 = 1
            · rw [if_pos hn, List.append_nil]
              rw [hn] at hv
              exact opd_pri (by decide) (by decide) (pri_none1 hr) hv
            · rw [if_neg hn]
              have h3 := own_none hown h2
              obtain ⟨s, hs1, hs2⟩ := ar_row (n := x.f2) (by omega) (by omega)
              rw [hs1]
              exact opd_pri (by decide) (by decide) (pri_none hs2) hv
          rw [if_neg h2]
          by_cases h20 : x.f0 = 20
          · rw [if_pos h20]
            have hk : x.f3 = [] := by
              have := fits_shape (s := []) (by rw [h20]; rfl) (by omega) hfit
              exact List.eq_nil_of_length_eq_zero this.1.symm
            have hsx : strip x = ⟨20, emp, x.f2, [], 0⟩ := by rw [strip_def, h20, own_plain hown (by rw [h20]; rfl), hk, stripL]
            rw [hsx] at hv
            have h3 := own_lit hown h20
            obtain ⟨t, q, he, hpri, hu, ha⟩ := pri_lit x.f2 h3.1 h3.2 r
            rw [he]
            exact opd_pri hu ha hpri hv
          rw [if_neg h20]
          by_cases h5 : x.f0 = 5
          · rw [if_pos h5]
            obtain ⟨hlen, hkd⟩ := fits_shape (s := [101]) (by rw [h5]; rfl) (by omega) hfit
            obtain ⟨p, hpq⟩ := kids_one hlen.symm
            have hgp := hg p (by rw [hpq]; exact List.mem_cons_self)
            have hsx : strip x = ⟨5, emp, 0, [strip p], 0⟩ := by
              rw [strip_def, h5, own_plain hown (by rw [h5]; rfl), own_zero hown (by omega) (by omega), hpq, stripL, stripL]
            rw [hpq, opdT_0, List.append_assoc, List.singleton_append]
            have hpst : Pst (strip p) (symT [39] :: r) v := by
              refine pst_go (z := strip x) ?_ hv
              rw [← hsx]
              exact hnd
            unfold oprT
            by_cases hbare : bare p.f0 14 false = true
            · rw [if_pos hbare]
              obtain ⟨hl, hq⟩ := bare_split hbare
              have hq : openB p.f0 = false := by rcases hq with h | h; cases h; exact h
              have hpb : atT p.f0 binT = none := by
                cases he : atT p.f0 binT with
                | none => rfl
                | some v =>
                  obtain ⟨t, l, a, b⟩ := v
                  have h6 := lvl_bin he
                  obtain ⟨_, _, _, _, _, _, _, _, _, _, _, _, _, _, hh, _⟩ := bin_row he
                  have h7 := left_bb _ (atT_mem' he) _ (atT_mem' he)
                  have h8 : ∀ r ∈ binT, r.2.2.1 ≤ 12 := by decide
                  have h9 := h8 _ (atT_mem' he)
                  dsimp only at h9
                  omega
              have hpp : atT p.f0 preT = none := by
                cases he : atT p.f0 preT with
                | none => rfl
                | some v =>
                  obtain ⟨t, l, a, b⟩ := v
                  have h6 := lvl_pre hpb he
                  have h8 : ∀ r ∈ preT, r.2.2.1 ≤ 13 := by decide
                  have h9 := h8 _ (atT_mem' he)
                  dsimp only at h9
                  omega
              exact hgp.prim hpb hpp hq false _ v (exp_none (by decide) _) hpst
            · rw [if_neg hbare]
              exact opd_paren hgp hpst
          rw [if_neg h5, if_neg ho45, if_neg ho46]
          by_cases h15 : x.f0 = 15
          · rw [if_pos h15]
            obtain ⟨hlen, hkd⟩ := fits_shape (s := [101, 102]) (by rw [h15]; rfl) (by omega) hfit
            obtain ⟨p, q, hpq⟩ := kids_two hlen.symm
            have hgp := hg p (by rw [hpq]; exact List.mem_cons_self)
            have hgq := hg q (by rw [hpq]; exact List.mem_cons_of_mem _ List.mem_cons_self)
            have hnb := own_name hown (by rw [h15]; rfl)
            have hsx : strip x = ⟨15, x.f1, 0, [strip p, strip q], 0⟩ := by
              rw [strip_def, h15, own_zero hown (by omega) (by omega), hpq, stripL, stripL, stripL]
            have e : [symT [123]] ++ bndT x ++ [symT [125]] ++ r = symT [123] :: (bndT x ++ symT [125] :: r) := by simp
            rw [e]
            have hq := qnt_bnd (r := symT [125] :: r) (z := strip x) 15 hpq hgp hgq hnb (noPo_cons _ (by decide) (by decide) (by decide)) rfl (by rw [← hsx]; exact hnd)
            exact opd_pri (by decide) (by decide) (pri_brace hq) hv
          rw [if_neg h15]
          by_cases h47 : x.f0 = 47
          · rw [if_pos h47]
            obtain ⟨hnm, hs⟩ := name_nm (own_name hown (by rw [h47]; rfl))
            have hsx : strip x = ⟨47, x.f1, 0, stripL x.f3, 0⟩ := by rw [strip_def, h47, own_zero hown (by omega) (by omega)]
            have e : [wrdT x.f1.data.toList, symT [91]] ++ argT x.f3 true ++ [symT [93]] ++ r = wrdT x.f1.data.toList :: symT [91] :: (argT x.f3 true ++ symT [93] :: r) := by simp
            rw [e]
            have hc : Cal x.f1 [] (argT x.f3 true ++ symT [93] :: r) (strip x, r) := cal_args x.f3 hg [] (by rw [List.nil_append, ← hsx]; exact hnd)
            refine opd_pri (nm_uop hnm) (nm_no hnm _ (by decide +kernel)) (pri_call hnm ?_) hv
            rw [hs]
            exact hc
          rw [if_neg h47]
          rcases fits_cases hfit with ⟨h, _⟩ | ⟨_, s, hl, hlen, _⟩
          · exact absurd h h47
          · have hm := shape_bare _ (atS_mem hl) hb hp
            have fin4 : ∀ w : List UInt8, x.f0 ∈ ([3, 4, 30, 31] : List Int) → s = [] → wordT x.f0 = w → atK (wrdT w) conT = some x.f0 → Opd ([wrdT (wordT x.f0)] ++ r) v := by
              intro w h4 hs he hc
              rw [hs] at hlen
              have hk : x.f3 = [] := List.eq_nil_of_length_eq_zero hlen.symm
              have hnn : named x.f0 = false := by
                have : ∀ k ∈ ([3, 4, 30, 31] : List Int), named k = false := by decide
                exact this _ h4
              have hsx : strip x = ⟨x.f0, emp, 0, [], 0⟩ := by rw [strip_def, own_plain hown hnn, own_zero hown h2 h20, hk, stripL]
              rw [he]
              have hp := pri_con (r := r) hc
              rw [← hsx] at hp
              have hu : ∀ k : Int, atK (wrdT w) conT = some k → atK (wrdT w) uopT = none ∧ wrdT w ≠ wrdT [97, 108, 108] := by
                intro k hk
                have : w ∈ ([[116, 114, 117, 101], [102, 97, 108, 115, 101], [117, 110, 105, 118], [105, 100, 101, 110]] : List (List UInt8)) := by
                  by_cases g1 : w = [116, 114, 117, 101]
                  · rw [g1]; decide
                  by_cases g2 : w = [102, 97, 108, 115, 101]
                  · rw [g2]; decide
                  by_cases g3 : w = [117, 110, 105, 118]
                  · rw [g3]; decide
                  by_cases g4 : w = [105, 100, 101, 110]
                  · rw [g4]; decide
                  simp [atK, conT, wrdT, g1, g2, g3, g4] at hk
                have hall : ∀ w ∈ ([[116, 114, 117, 101], [102, 97, 108, 115, 101], [117, 110, 105, 118], [105, 100, 101, 110]] : List (List UInt8)), atK (wrdT w) uopT = none ∧ wrdT w ≠ wrdT [97, 108, 108] := by decide
                exact hall w this
              exact opd_pri (hu _ hc).1 (hu _ hc).2 hp hv
            simp only [List.mem_cons, List.not_mem_nil, or_false] at hm
            rcases hm with h | h | h | h | h | h | h | h | h | h | h
            · exact absurd h h1
            · exact absurd h h2
            · exact absurd h h20
            · exact absurd h h5
            · exact absurd h ho45
            · exact absurd h ho46
            · exact absurd h h15
            · rw [h] at hl; cases hl; exact fin4 [117, 110, 105, 118] (by rw [h]; decide) rfl (by rw [h]; rfl) (by rw [h]; decide)
            · rw [h] at hl; cases hl; exact fin4 [105, 100, 101, 110] (by rw [h]; decide) rfl (by rw [h]; rfl) (by rw [h]; decide)
            · rw [h] at hl; cases hl; exact fin4 [116, 114, 117, 101] (by rw [h]; decide) rfl (by rw [h]; rfl) (by rw [h]; decide)
            · rw [h] at hl; cases hl; exact fin4 [102, 97, 108, 115, 101] (by rw [h]; decide) rfl (by rw [h]; rfl) (by rw [h]; decide)
end Go.Proofs.YtgdiodhaihmnbaaDoor.Own
namespace Go.Proofs.YtgdiodhaihmnbaaDoor.Own
open Go Go.RowKit Go.Proofs.YtgdiodhaihmnbaaDoorW.PrintWords
section
variable {P : Program} {ops : Array Oper} {md : Region.Mode} {R : Nat → Value → World → Prop} {a0 : Act} {w0 : World} {Q : Exit → Act → World → Prop}
structure GInv (n : Nat) (ops : Array Oper) (R : Nat → Value → World → Prop) (a0 : Act) (w0 : World) (listed : Array Bool) (a : Act) (w : World) : Prop where
  size : a.tmps.size = a0.tmps.size
  defers : a.defers = a0.defers
  out : ∀ s, (∀ (i : Nat) (o : Oper), i < n → ops[i]? = some o → o.dst ≠ some s) → a.tmps.getD s undef = a0.tmps.getD s undef
  fact : ∀ (i : Nat) (o : Oper) (d : Nat), ops[i]? = some o → o.dst = some d → listed.getD i false = true → R i (a.tmps.getD d undef) w
  low : Below w0.heap.size w0 w
/-- What the operations that are waited for have yielded. -/
def needQ (R : Nat → Value → World → Prop) (ops : Array Oper) (md : Region.Mode) (a : Act) (w : World) (G : Prop) : List Edge → Prop
  | [] => G
  | e :: l => match Region.binds md e, (ops[e.on]?).bind (·.dst) with
    | true, some d => R e.on (a.tmps.getD d undef) w → needQ R ops md a w G l
    | _, _ => needQ R ops md a w G l
def guardP (ops : Array Oper) (a : Act) (o : Oper) : Prop := match o.guard with
  | none => True
  | some (k, b) => ∃ d, (ops[k]?).bind (·.dst) = some d ∧ a.tmps.getD d undef = .bool b
def stepQ (P : Program) (ops : Array Oper) (md : Region.Mode) (R : Nat → Value → World → Prop) (a0 : Act) (w0 : World) (Q : Exit → Act → World → Prop) (i : Nat) (o : Oper) : Prop :=
  ∀ (a : Act) (w : World), Below w0.heap.size w0 w → (∀ s, (ops.all fun o => o.dst != some s) = true → a.tmps.getD s undef = a0.tmps.getD s undef) →
    needQ R ops md a w (guardP ops a o ∧ o.wp P a w (fun a' w' => ∃ v, a' = a.put o.dst v ∧ Below w.heap.size w w' ∧ R i v w') Q) o.after.toList
def stepsQ (P : Program) (ops : Array Oper) (md : Region.Mode) (R : Nat → Value → World → Prop) (a0 : Act) (w0 : World) (Q : Exit → Act → World → Prop) : Nat → List Oper → Prop
  | _, [] => True
  | i, o :: l => stepQ P ops md R a0 w0 Q i o ∧ stepsQ P ops md R a0 w0 Q (i + 1) l
/-- Behind them: whatever they have yielded. -/
def endQ (R : Nat → Value → World → Prop) (K : Act → World → Prop) (w : World) : Nat → List Oper → Act → Prop
  | _, [], a => K a w
  | i, o :: l, a => match o.dst with
    | some d => ∀ v, R i v w → endQ R K w (i + 1) l (a.put (some d) v)
    | none => endQ R K w (i + 1) l a
theorem needQ_elim {a : Act} {w : World} {G : Prop} : ∀ (l : List Edge), (∀ e ∈ l, Region.binds md e = true → ∀ (o : Oper) (d : Nat), ops[e.on]? = some o → o.dst = some d → R e.on (a.tmps.getD d undef) w) → needQ R ops md a w G l → G
  | [], _, h => h
  | e :: l, hf, h => by
    unfold needQ at h
    have hl : ∀ e ∈ l, Region.binds md e = true → ∀ (o : Oper) (d : Nat), ops[e.on]? = some o → o.dst = some d → R e.on (a.tmps.getD d undef) w := fun e he => hf e (List.mem_cons_of_mem _ he)
    split at h
    · rename_i d hb hd
      obtain ⟨o, ho, hod⟩ := Option.bind_eq_some_iff.1 hd
      exact needQ_elim l hl (h (hf e List.mem_cons_self hb o d ho hod))
    · exact needQ_elim l hl h
theorem put_size (a : Act) (d : Option Nat) (v : Value) : (a.put d v).tmps.size = a.tmps.size := by cases d <;> simp [Act.put]
theorem put_defers (a : Act) (d : Option Nat) (v : Value) : (a.put d v).defers = a.defers := by cases d <;> simp [Act.put]
theorem put_ne (a : Act) (d s : Nat) (v : Value) (h : d ≠ s) : (a.put (some d) v).tmps.getD s undef = a.tmps.getD s undef := by
  simp only [Act.put, Array.getD_eq_getD_getElem?]
  rw [Array.getElem?_setIfInBounds_ne h]
theorem put_same (a : Act) (d : Nat) (v : Value) (h : d < a.tmps.size) : (a.put (some d) v).tmps.getD d undef = v := by
  simp [Act.put, h]
theorem wanted_of {a : Act} {o : Oper} (h : guardP ops a o) : Region.wanted o (yielded ops a.tmps) = true := by
  unfold guardP at h
  unfold Region.wanted
  split at h
  · rename_i hg; rw [hg]
  · rename_i k b hg
    rw [hg]
    obtain ⟨d, hd, hv⟩ := h
    have : a.tmps[d]? = some (.bool b) := by
      cases ht : a.tmps[d]? with
      | none => rw [Array.getD_eq_getD_getElem?, ht] at hv; cases hv
      | some u => rw [Array.getD_eq_getD_getElem?, ht] at hv; cases hv; rfl
    simp [yielded, hd, this]
/-- The slots of the operations differ, they lie in the frame. -/
def dstB (ops : Array Oper) (sz : Nat) : Bool := decide (ops.toList.filterMap (·.dst)).Nodup && ops.all fun o => match o.dst with | some d => decide (d < sz) | none => true
theorem nodup_dst : ∀ (l : List Oper), (l.filterMap (·.dst)).Nodup → ∀ (i j : Nat) (oi oj : Oper) (d : Nat), l[i]? = some oi → l[j]? = some oj → oi.dst = some d → oj.dst = some d → i = j
  | [], _, i, j, _, _, _, hi, _, _, _ => by simp at hi
  | o :: l, h, i, j, oi, oj, d, hi, hj, hdi, hdj => by
    have hl : (l.filterMap (·.dst)).Nodup := by
      rw [List.filterMap_cons] at h
      split at h
      · exact h
      · exact (List.nodup_cons.1 h).2
    have hno : ∀ (k : Nat) (ok : Oper), o.dst = some d → l[k]? = some ok → ok.dst = some d → False := fun k ok ho hk hd => by
      rw [List.filterMap_cons, ho] at h
      exact (List.nodup_cons.1 h).1 (List.mem_filterMap.2 ⟨ok, List.mem_of_getElem? hk, hd⟩)
    cases i with
    | zero =>
      simp at hi; subst hi
      cases j with
      | zero => rfl
      | succ j => exact (hno j oj hdi (by simpa using hj) hdj).elim
    | succ i =>
      cases j with
      | zero => simp at hj; subst hj; exact (hno i oi hdj (by simpa using hi) hdi).elim
      | succ j => rw [nodup_dst l hl i j oi oj d (by simpa using hi) (by simpa using hj) hdi hdj]
theorem GInv.step {n : Nat} (hR : ∀ i v w w', R i v w → Below w.heap.size w w' → R i v w') {sz : Nat} (hsz : a0.tmps.size = sz) (hD : dstB ops sz = true) {listed : Array Bool} {a : Act} {w w' : World} (h : GInv n ops R a0 w0 listed a w) {i : Nat} {o : Oper} {v : Value} (hin' : i < n) (ho : ops[i]? = some o)
    (hb : Below w.heap.size w w') (hv : R i v w') : GInv n ops R a0 w0 (listed.setIfInBounds i true) (a.put o.dst v) w' := by
  simp only [dstB, Bool.and_eq_true, decide_eq_true_eq] at hD
  obtain ⟨hnd, hin⟩ := hD
  have hlt : ∀ (j : Nat) (oj : Oper) (d : Nat), ops[j]? = some oj → oj.dst = some d → d < a.tmps.size := fun j oj d hj hd => by
    have := Array.all_eq_true'.1 hin oj (Array.mem_of_getElem? hj)
    rw [hd] at this
    rw [h.size, hsz]
    simpa using this
  refine ⟨(put_size _ _ _).trans h.size, (put_defers _ _ _).trans h.defers, fun s hs => ?_, fun j oj d hj hd hl => ?_, below_step h.low hb⟩
  · cases hod : o.dst with
    | none => exact h.out s hs
    | some d => rw [put_ne _ _ _ _ (fun e => hs i o hin' ho (by rw [hod, e]))]; exact h.out s hs
  · by_cases hij : i = j
    · subst hij
      rw [ho] at hj; cases hj
      rw [hd, put_same _ _ _ (hlt i o d ho hd)]
      exact hv
    · rw [getD_set_ne false hij] at hl
      have hold := hR _ _ _ _ (h.fact j oj d hj hd hl) hb
      cases hod : o.dst with
      | none => exact hold
      | some d' =>
        rw [put_ne _ _ _ _ (fun e => hij (nodup_dst ops.toList hnd i j o oj d (by simpa using ho) (by simpa using hj) (by rw [hod, e]) hd))]
        exact hold
theorem act_ext {a b : Act} (hs : a.tmps.size = b.tmps.size) (hd : a.defers = b.defers) (h : ∀ s, a.tmps.getD s undef = b.tmps.getD s undef) : a = b := by
  obtain ⟨ta, da⟩ := a
  obtain ⟨tb, db⟩ := b
  have : ta = tb := Array.ext hs fun i h1 h2 => by
    have := h i
    simpa [Array.getD_eq_getD_getElem?, h1, h2] using this
  rw [this, show da = db from hd]
theorem end_elim {K : Act → World → Prop} {a : Act} {w : World} : ∀ (l : List Oper) (k : Nat) (b : Act), (∀ j, j < l.length → l[j]? = ops[k + j]?) → b.tmps.size = a.tmps.size → b.defers = a.defers →
    (∀ s, (∀ o ∈ l, o.dst ≠ some s) → b.tmps.getD s undef = a.tmps.getD s undef) → (∀ (j : Nat) (o : Oper) (d : Nat), k ≤ j → j < k + l.length → ops[j]? = some o → o.dst = some d → R j (a.tmps.getD d undef) w) → endQ R K w k l b → K a w
  | [], _, b, _, hs, hd, hout, _, h => act_ext hs hd (fun s => hout s (by simp)) ▸ h
  | o :: l, k, b, hl, hs, hd, hout, hf, h => by
    have h0 : ops[k]? = some o := by simpa using (hl 0 (by simp)).symm
    have hl' : ∀ j, j < l.length → l[j]? = ops[k + 1 + j]? := fun j hj => by have := hl (j + 1) (by simp; omega); simpa [Nat.add_assoc, Nat.add_comm 1 j] using this
    have hf' : ∀ (j : Nat) (o : Oper) (d : Nat), k + 1 ≤ j → j < k + 1 + l.length → ops[j]? = some o → o.dst = some d → R j (a.tmps.getD d undef) w := fun j o d h1 h2 => hf j o d (by omega) (by simp; omega)
    unfold endQ at h
    split at h
    · rename_i d hod
      refine end_elim l (k + 1) (b.put (some d) (a.tmps.getD d undef)) hl' ((put_size _ _ _).trans hs) ((put_defers _ _ _).trans hd) (fun s hno => ?_) hf' (h _ (hf k o d (Nat.le_refl _) (by simp) h0 hod))
      by_cases hsd : d = s
      · subst hsd
        rcases Nat.lt_or_ge d b.tmps.size with hlt | hlt
        · exact put_same _ _ _ hlt
        · have e1 : (b.put (some d) (a.tmps.getD d undef)).tmps[d]? = none := Array.getElem?_eq_none (by rw [put_size]; omega)
          have e2 : a.tmps[d]? = none := Array.getElem?_eq_none (by omega)
          rw [Array.getD_eq_getD_getElem?, e1, Array.getD_eq_getD_getElem?, e2]
      · rw [put_ne _ _ _ _ hsd]
        exact hout s (fun o' ho' => by
          rcases List.mem_cons.1 ho' with rfl | ho'
          · rw [hod]; simpa using hsd
          · exact hno o' ho')
    · rename_i hod
      exact end_elim l (k + 1) b hl' hs hd (fun s hno => hout s (fun o' ho' => by
        rcases List.mem_cons.1 ho' with rfl | ho'
        · rw [hod]; simp
        · exact hno o' ho')) hf' h
theorem stepsQ_get : ∀ (l : List Oper) (k : Nat), stepsQ P ops md R a0 w0 Q k l → ∀ (j : Nat) (o : Oper), l[j]? = some o → stepQ P ops md R a0 w0 Q (k + j) o
  | [], _, _, _, _, h => by simp at h
  | o :: l, k, h, j, o', hj => by
    cases j with
    | zero => simp at hj; subst hj; exact h.1
    | succ j => have := stepsQ_get l (k + 1) h.2 j o' (by simpa using hj); simpa [Nat.add_assoc, Nat.add_comm 1 j] using this
/-- The first n operations wait for earlier ones alone, what follows is one chain. -/
def growB (md : Region.Mode) (ops : Array Oper) (n sz : Nat) : Bool :=
  dstB ops sz && decide (n ≤ ops.size) && ((List.range n).all fun i => match ops[i]? with | some o => o.after.all fun e => !Region.binds md e || decide (e.on < i) | none => false) &&
  (decide (n = ops.size) || (Region.sinkB md ops n && Region.chainB md ops n)) && Region.seqB md ops (ops.size - n) n ((List.range ops.size).map fun j => decide (j < n)).toArray
theorem any_grow (n sz : Nat) (hsz : a0.tmps.size = sz) (hB : growB md ops n sz = true) (hR : ∀ i v w w', R i v w → Below w.heap.size w w' → R i v w') (hsteps : stepsQ P ops md R a0 w0 Q 0 (ops.toList.take n))
    (hend : ∀ w', Below w0.heap.size w0 w' → endQ R (fun a' w'' => wpList P ops Q (ops.toList.drop n) a' w'') w' 0 (ops.toList.take n) a0) :
    ∀ (f : Nat) (U : List Nat) (listed : Array Bool) (a : Act) (w : World), U.length = f → U.Nodup → (∀ j, j ∈ U ↔ j < n ∧ listed.getD j true = false) → HeadInv md ops n listed → GInv n ops R a0 w0 listed a w →
      wpAny P md ops Q (f + (ops.size - n)) listed a w := by
  have hB0 := hB
  simp only [growB, Bool.and_eq_true, decide_eq_true_eq] at hB
  obtain ⟨⟨⟨⟨hD, hn⟩, hac⟩, htail⟩, hseq⟩ := hB
  have hdl : (ops.toList.drop n).length = ops.size - n := by simp
  have htl : (ops.toList.take n).length = n := by simp; omega
  have hidx : ∀ j, j < (ops.toList.take n).length → (ops.toList.take n)[j]? = ops[0 + j]? := fun j hj => by
    rw [htl] at hj
    rw [List.getElem?_take_of_lt hj]; simp
  have htw : ∀ {listed : Array Bool}, HeadInv md ops n listed → ∀ i, i < n → listed.getD i true = false → ∀ t, n ≤ t → t ∉ Region.ready md ops listed := fun inv i hi hun t ht => by
    simp only [Bool.or_eq_true, Bool.and_eq_true, decide_eq_true_eq] at htail
    rcases htail with h | ⟨h1, h2⟩
    · intro hr
      obtain ⟨_, ot, hot, _⟩ := mem_ready.1 hr
      have := (Array.getElem?_eq_some_iff.1 hot).1
      omega
    · by_cases hns : n < ops.size
      · exact tail_waits h1 h2 hns inv (n - i) i rfl hi hun t ht
      · intro hr
        obtain ⟨_, ot, hot, _⟩ := mem_ready.1 hr
        have := (Array.getElem?_eq_some_iff.1 hot).1
        omega
  intro f
  induction f with
  | zero =>
    intro U listed a w hU _ hmem inv gi
    have hU0 : U = [] := List.eq_nil_of_length_eq_zero hU
    have hall : ∀ j, j < n → listed.getD j true = true := fun j hj => by
      cases h : listed.getD j true with
      | true => rfl
      | false => have := (hmem j).2 ⟨hj, h⟩; rw [hU0] at this; cases this
    have hfull : listed = ((List.range ops.size).map fun j => decide (j < n)).toArray := Array.ext (by simp [inv.size]) fun j h1 h2 => by
      simp only [List.getElem_toArray, List.getElem_map, List.getElem_range]
      by_cases hj : j < n
      · have := hall j hj
        rw [Array.getD_eq_getD_getElem?, Array.getElem?_eq_getElem h1] at this
        simpa [hj] using this
      · have := inv.tail j (by omega) (by rw [← inv.size]; exact h1)
        rw [Array.getD_eq_getD_getElem?, Array.getElem?_eq_getElem h1] at this
        simpa [hj] using this
    rw [Nat.zero_add, ← hdl]
    refine wpAny_of_seq _ n listed a w (fun j => by simp [List.getElem?_drop]) (by rw [hdl, hfull]; exact hseq) ?_
    refine end_elim (R := R) (K := fun a' w'' => wpList P ops Q (ops.toList.drop n) a' w'') (ops.toList.take n) 0 a0 hidx gi.size.symm gi.defers.symm (fun s hs => ?_) (fun j o d _ hj ho hd => ?_) (hend w gi.low)
    · refine (gi.out s fun i o hi ho => hs o ?_).symm
      exact List.mem_of_getElem? (i := i) (by rw [hidx i (by rw [htl]; exact hi), Nat.zero_add]; exact ho)
    · rw [htl, Nat.zero_add] at hj
      have h1 := hall j hj
      exact gi.fact j o d ho hd (by
        have hjl : j < listed.size := by rw [inv.size]; omega
        rw [Array.getD_eq_getD_getElem?, Array.getElem?_eq_getElem hjl] at h1 ⊢
        simpa using h1)
  | succ f ih =>
    intro U listed a w hU hnd hmem inv gi
    have hlow : ∀ (m : Nat) (U : List Nat), U ≠ [] → (∀ j ∈ U, j < m) → ∃ i ∈ U, ∀ j ∈ U, i ≤ j := fun m => by
      induction m with
      | zero => intro U hne hm; cases U with
        | nil => exact absurd rfl hne
        | cons x _ => exact absurd (hm x List.mem_cons_self) (by omega)
      | succ m ihm =>
        intro U hne hm
        by_cases h : U.filter (fun j => decide (j < m)) = []
        · obtain ⟨x, hx⟩ := List.exists_mem_of_ne_nil U hne
          refine ⟨x, hx, fun j hj => ?_⟩
          have hx2 := hm x hx
          have : ¬ j < m := fun hjm => by have : j ∈ U.filter (fun j => decide (j < m)) := List.mem_filter.2 ⟨hj, by simpa using hjm⟩; rw [h] at this; cases this
          omega
        · obtain ⟨i, hi, hmin⟩ := ihm _ h (fun j hj => by have := (List.mem_filter.1 hj).2; simpa using this)
          refine ⟨i, (List.mem_filter.1 hi).1, fun j hj => ?_⟩
          by_cases hjm : j < m
          · exact hmin j (List.mem_filter.2 ⟨hj, by simpa using hjm⟩)
          · have := (List.mem_filter.1 hi).2; have : i < m := by simpa using this
            omega
    have hne : U ≠ [] := fun e => by rw [e] at hU; cases hU
    obtain ⟨i0, hi0, hmin⟩ := hlow n U hne (fun j hj => ((hmem j).1 hj).1)
    have hi0n := (hmem i0).1 hi0
    have hrne : Region.ready md ops listed ≠ [] := fun e => by
      have : i0 ∈ Region.ready md ops listed := by
        rw [mem_ready]
        have h1 := List.all_eq_true.1 hac i0 (List.mem_range.2 hi0n.1)
        cases ho : ops[i0]? with
        | none => rw [ho] at h1; cases h1
        | some o =>
          rw [ho] at h1
          refine ⟨hi0n.2, o, rfl, fun e he hb => ?_⟩
          have h2 := Array.all_eq_true'.1 h1 e he
          rw [hb] at h2
          have h3 : e.on < i0 := by simpa using h2
          cases hl : listed.getD e.on false with
          | true => rfl
          | false =>
            have hes : e.on < listed.size := by rw [inv.size]; omega
            have := hmin e.on ((hmem e.on).2 ⟨by omega, getD_in hes hl⟩)
            omega
      rw [e] at this; cases this
    rw [show f + 1 + (ops.size - n) = (f + (ops.size - n)) + 1 by omega]
    refine ⟨fun h => absurd h hrne, fun i hi => ?_⟩
    have hin : i < n := by
      rcases Nat.lt_or_ge i n with h | h
      · exact h
      · exact absurd hi (htw inv i0 hi0n.1 hi0n.2 i h)
    obtain ⟨hun, o, ho, hall⟩ := mem_ready.1 hi
    have hst := stepsQ_get _ 0 hsteps i o (by rw [hidx i (by rw [htl]; exact hin), Nat.zero_add]; exact ho)
    rw [Nat.zero_add] at hst
    have h1 := needQ_elim (R := R) (a := a) (w := w) o.after.toList (fun e he hb o' d ho' hd => gi.fact e.on o' d ho' hd (hall e (by simpa using he) hb)) (hst a w gi.low (fun s hs => gi.out s fun j oj _ hoj => by
      have := Array.all_eq_true'.1 hs oj (Array.mem_of_getElem? hoj)
      simpa using this))
    have h2 : wpOp P ops Q i (fun a' w' => ∃ v, a' = a.put o.dst v ∧ Below w.heap.size w w' ∧ R i v w') a w := by
      unfold wpOp
      simp only [ho, wanted_of h1.1, if_true]
      exact .inl h1.2
    refine wpOp_mono (fun a' w' h' => ?_) h2
    obtain ⟨v, rfl, hb, hv⟩ := h'
    refine ih (U.erase i) _ _ _ ?_ (hnd.erase i) (fun j => ?_) (inv.set hi hin) (gi.step hR hsz hD hin ho hb hv)
    · rw [List.length_erase_of_mem ((hmem i).2 ⟨hin, hun⟩), hU]; rfl
    · rw [hnd.mem_erase_iff, hmem]
      by_cases hij : i = j
      · subst hij
        have hlt : i < listed.size := by rw [inv.size]; omega
        simp [hlt]
      · rw [getD_set_ne true hij]
        constructor
        · rintro ⟨_, h⟩; exact h
        · intro h; exact ⟨fun e => hij e.symm, h⟩
/-- A region that draws its order, of operations that make memory and read it, and a chain behind them. -/
theorem wp_grow {id : Nat} {l : List Oper} (n sz : Nat) (R : Nat → Value → World → Prop) {a : Act} {w : World} (hm : P.follows .mixedOrders = true) (hsz : a.tmps.size = sz) (hB : growB .any l.toArray n sz = true) (hR : ∀ i v w w', R i v w → Below w.heap.size w w' → R i v w')
    (hsteps : stepsQ P l.toArray .any R a w Q 0 (l.take n)) (hend : ∀ w', Below w.heap.size w w' → endQ R (fun a' w'' => wpList P l.toArray Q (l.drop n) a' w'') w' 0 (l.take n) a) : (Code.region id l.toArray true).wp P Q a w := by
  refine wp_region_any hm ?_
  have hn : n ≤ l.toArray.size := by
    simp only [growB, Bool.and_eq_true, decide_eq_true_eq] at hB
    exact hB.1.1.1.2
  have := any_grow (P := P) (ops := l.toArray) (md := .any) (R := R) (a0 := a) (w0 := w) (Q := Q) n sz hsz hB hR hsteps hend n (List.range n) (Array.replicate l.toArray.size false) a { w with drawn := w.drawn + 1 } (by simp) List.nodup_range (fun j => by
      rw [List.mem_range]
      constructor
      · intro h; exact ⟨h, getD_in (by simp; simp at hn; omega) (getD_replicate_false _ _)⟩
      · intro h; exact h.1) ⟨by simp, fun j oj _ hl => (by rw [getD_replicate_false] at hl; cases hl), fun t _ ht => getD_in (by simpa using ht) (getD_replicate_false _ _)⟩
      ⟨rfl, rfl, fun _ _ => rfl, fun _ _ _ _ _ hl => (by rw [getD_replicate_false] at hl; cases hl), below_drew1 (Below.refl _ _)⟩
  rwa [show n + (l.toArray.size - n) = l.toArray.size by omega] at this
end
end Go.Proofs.YtgdiodhaihmnbaaDoor.Own
namespace Go.Proofs.YtgdiodhaihmnbaaDoor.Own
open Go.RowKit Go.Proofs.YtgdiodhaihmnbaaDoorW.PrintWords Go.Proofs.YtgdiodhaihmnbaaDoorW.PrintLast Go.Proofs.YtgdiodhaihmnbaaDoorW.PrintMore Go.Proofs.YtgdiodhaihmnbaaDoor.PPrinterMatchesReference
theorem zero96 (w : World) : (zeroValue 96).run Tryd.prog w = .ok (.agg #[.string ⟨#[]⟩, .int .i64 0, .int .i64 0, .int .i64 0]) w := by kernel_rfl
/-- What a row of the table is as a value; the zero value where there is none. -/
def rowV (q : Option (List UInt8 × Int × Int × Int)) : Value := match q with
  | some (s, a, b, c) => .agg #[.string ⟨s.toArray⟩, .int .i64 a, .int .i64 b, .int .i64 c]
  | none => .agg #[.string ⟨#[]⟩, .int .i64 0, .int .i64 0, .int .i64 0]
theorem look_tab (w : World) (m : Nat) (T : List (Int × List UInt8 × Int × Int × Int)) (n : Nat) (h : w.heap[m]? = some (.map (entT T 0).toArray n)) (k : Int) :
    (Instr.lookup 73 (.map (some m)) (.int .i64 k) true).run Tryd.prog w = .ok (.tuple #[rowV (atT k T), .bool (atT k T).isSome]) w := by
  rw [run_look 3 Tryd.underlying73 Tryd.underlying3 _ zero96 w m _ n h (keys_entT _ _) k, look_entT]
  cases atT k T <;> rfl
set_option maxHeartbeats 1000000 in
set_option maxRecDepth 100000 in
theorem level_walk (B b m2 m1 : Nat) (bs : List UInt8) (op : Int) (w : World) (h : IsP B b m2 m1 bs w) :
    Calls Tryd.prog 77 #[.pointer (some ⟨b, 0, none⟩), .int .i64 op] w fun e w' => e = .returned (.int .i64 (lvl op)) ∧ Below w.heap.size w w' := by
  obtain ⟨p, v, k⟩ := h
  have c1 : w.cell? ⟨b, 2, none⟩ = some (.map (some m2)) := blk_cell k.blk 2
  have hl2 := look_tab w m2 binT 17 k.two op
  have hu96 := Tryd.underlying96
  cases h2 : atT op binT with
  | some q =>
    obtain ⟨s, l, na, nb⟩ := q
    have hlv : lvl op = l := by simp [lvl, h2]
    rw [h2] at hl2
    simp only [rowV, Option.isSome] at hl2
    rw [hlv]
    clear h2 hlv
    go_enter Tryd.func77, Tryd.ntmps77
    go_wp2_with fail
    go_ret
    exact ⟨rfl, by repeat (first | exact Below.refl _ _ | apply below_alloc)⟩
  | none =>
    have c3 : ∀ o, (w.alloc o).cell? ⟨b, 3, none⟩ = some (.map (some m1)) := fun o => cell_new (blk_cell k.blk 3) o
    have hl1 : ∀ o, (Instr.lookup 73 (.map (some m1)) (.int .i64 op) true).run Tryd.prog (w.alloc o) = .ok (.tuple #[rowV (atT op preT), .bool (atT op preT).isSome]) (w.alloc o) :=
      fun o => look_tab (w.alloc o) m1 preT 12 (k.below (below_alloc (Below.refl _ _) o)).one op
    rw [h2] at hl2
    simp only [rowV, Option.isSome] at hl2
    cases h1 : atT op preT with
    | some q =>
      obtain ⟨s, l, na, nb⟩ := q
      have hlv : lvl op = l := by simp [lvl, h2, h1]
      rw [h1] at hl1
      simp only [rowV, Option.isSome] at hl1
      rw [hlv]
      clear h2 h1 hlv
      go_enter Tryd.func77, Tryd.ntmps77
      go_wp2_with fail
      go_ret
      exact ⟨rfl, by repeat (first | exact Below.refl _ _ | apply below_alloc)⟩
    | none =>
      have hlv : lvl op = if op = 5 then 14 else 15 := by simp [lvl, h2, h1]
      rw [h1] at hl1
      simp only [rowV, Option.isSome] at hl1
      by_cases h5 : op = 5
      · have h5b : (op == 5) = true := by simp [h5]
        rw [hlv, if_pos h5]
        clear h2 h1 hlv h5
        go_enter Tryd.func77, Tryd.ntmps77
        go_wp2_with fail
        go_ret
        exact ⟨rfl, by repeat (first | exact Below.refl _ _ | apply below_alloc)⟩
      · have h5b : (op == 5) = false := by simp [h5]
        rw [hlv, if_neg h5]
        clear h2 h1 hlv h5
        go_enter Tryd.func77, Tryd.ntmps77
        go_wp2_with fail
        go_ret
        exact ⟨rfl, by repeat (first | exact Below.refl _ _ | apply below_alloc)⟩
end Go.Proofs.YtgdiodhaihmnbaaDoor.Own
namespace Go.Proofs.YtgdiodhaihmnbaaDoor.Own
open Go.RowKit Go.Proofs.YtgdiodhaihmnbaaDoorW.PrintWords Go.Proofs.YtgdiodhaihmnbaaDoorW.PrintLast Go.Proofs.YtgdiodhaihmnbaaDoorW.PrintMore Go.Proofs.YtgdiodhaihmnbaaDoor.PPrinterMatchesReference
def most : Nat := 140737488355328
/-- The table that strconv reads. -/
def Tab (w : World) : Prop := Lib.TabIs Tryd.prog w "internal/strconv.uint64pow10" .u64 Lib.pow10Tab
/-- What node does with x. -/
def NodeC (x : S24) : Prop := ∀ (w0 : World) (B b m2 m1 : Nat) (bs : List UInt8) (w : World) (cs : List Value) (fin : Bool), k24.K w0 x cs → Below w0.heap.size w0 w → w0.heap.size ≤ B → Tab w0 → IsP B b m2 m1 bs w →
  bs.length + (txt x fin).length ≤ most → Calls Tryd.prog 38 #[.pointer (some ⟨b, 0, none⟩), .agg cs.toArray, .bool fin] w fun e w' => e = .returned (.tuple #[]) ∧ Wrote B b m2 m1 (bs ++ txt x fin) w w'
/-- What operand does with x. -/
def OprC (x : S24) : Prop := ∀ (w0 : World) (B b m2 m1 : Nat) (bs : List UInt8) (w : World) (cs : List Value) (need : Int) (fin : Bool), k24.K w0 x cs → Below w0.heap.size w0 w → w0.heap.size ≤ B → Tab w0 → IsP B b m2 m1 bs w →
  bs.length + (opr x need fin).length ≤ most → Calls Tryd.prog 59 #[.pointer (some ⟨b, 0, none⟩), .agg cs.toArray, .int .i64 need, .bool fin] w fun e w' => e = .returned (.tuple #[]) ∧ Wrote B b m2 m1 (bs ++ opr x need fin) w w'
theorem Wrote.trans {B b m2 m1 : Nat} {bs bs' : List UInt8} {w w1 w2 : World} (h : Wrote B b m2 m1 bs w w1) (k : Wrote B b m2 m1 bs' w1 w2) : Wrote B b m2 m1 bs' w w2 := ⟨k.1, h.2.1.trans k.2.1, h.2.2.trans k.2.2⟩
/-- Memory made ahead of the writing. -/
theorem Wrote.after {B b m2 m1 : Nat} {bs : List UInt8} {w w1 w2 : World} (h : Below w.heap.size w w1) (hB : B ≤ w.heap.size) (k : Wrote B b m2 m1 bs w1 w2) : Wrote B b m2 m1 bs w w2 :=
  ⟨k.1, (h.mono hB).trans k.2.1, fun i o hi hb ho => k.2.2 i o ((h.block i (blk_lt hi)).trans hi) hb ho⟩
theorem Wrote.before {B b m2 m1 : Nat} {bs : List UInt8} {w w1 w2 : World} (k : Wrote B b m2 m1 bs w w1) (h : Below w1.heap.size w1 w2) (hB : B ≤ w1.heap.size) : Wrote B b m2 m1 bs w w2 :=
  ⟨k.1.below h, k.2.1.trans (h.mono hB), fun i o hi hb ho => by have := k.2.2 i o hi hb ho; exact (h.block i (blk_lt this)).trans this⟩
/-- A block that is no row of bytes and not the printer's stands. -/
theorem Wrote.blk {B b m2 m1 : Nat} {bs : List UInt8} {w w1 : World} (k : Wrote B b m2 m1 bs w w1) {g : Nat} {cs : Array Value} {t : TypeId} (h : w.heap[g]? = some (.cells cs t (0, 0))) (hg : g ≠ b) (ht : t ≠ 5) : w1.heap[g]? = some (.cells cs t (0, 0)) :=
  k.2.2 g _ h (fun e => hg (Option.some.inj e)) (fun c fz e => by injection e with _ e _; exact ht e)
theorem Wrote.size {B b m2 m1 : Nat} {bs : List UInt8} {w w1 : World} (k : Wrote B b m2 m1 bs w w1) : w.heap.size ≤ w1.heap.size := k.2.1.size
theorem Wrote.from_ {B b m2 m1 : Nat} {bs : List UInt8} {w0 w w1 : World} (k : Wrote B b m2 m1 bs w w1) (h : Below w0.heap.size w0 w) (hB : w0.heap.size ≤ B) : Below w0.heap.size w0 w1 := h.trans (k.2.1.mono hB)
set_option maxHeartbeats 2000000 in
set_option maxRecDepth 100000 in
theorem opr_walk (x : S24) (hN : NodeC x) : OprC x := by
  intro w0 B b m2 m1 bs w cs need fin hx hb0 hB0 ht hP hlen
  obtain ⟨A, c, rfl, hlc, hA⟩ := k24_open hx
  have HN := Aside0.mk hN
  have HX := Aside0.mk hx
  have HP := Aside0.mk hP
  have HT := Aside0.mk ht
  have HB0 := Aside0.mk hb0
  have hlt := hP.lt
  have hlow := hP.low
  have hu24 := Tryd.underlying24
  clear hN hx hP ht hb0 hA hlc
  by_cases hbare : bare x.f0 need fin = true
  · have hopr : opr x need fin = txt x fin := by simp [opr, hbare]
    rw [hopr] at hlen ⊢
    have HL := Aside0.mk hlen
    clear hopr hlen
    unfold bare at hbare
    obtain ⟨l, Hl⟩ : ∃ l, Aside0 (lvl x.f0 = l) := ⟨_, ⟨rfl⟩⟩
    rw [Hl.out] at hbare
    obtain ⟨q45, h45⟩ : ∃ q, (x.f0 == 45) = q := ⟨_, rfl⟩
    obtain ⟨q46, h46⟩ : ∃ q, (x.f0 == 46) = q := ⟨_, rfl⟩
    obtain ⟨ql, hl⟩ : ∃ q, decide (l ≥ need) = q := ⟨_, rfl⟩
    have e45 : decide (x.f0 = 45) = q45 := by rw [← h45]; rfl
    have e46 : decide (x.f0 = 46) = q46 := by rw [← h46]; rfl
    rw [e45, e46, hl] at hbare
    clear e45 e46
    cases ql
    · exact absurd hbare (by simp)
    cases q45 <;> cases q46 <;> cases fin <;> first | exact absurd hbare (by decide) | skip
    all_goals clear hbare
    all_goals
      go_enter Tryd.func59, Tryd.ntmps59
      go_wp2_with fail
      refine (level_walk B b m2 m1 bs x.f0 _ (HP.out.below (below_alloc (Below.refl _ _) _))).mono ?_
      rintro e w1 ⟨rfl, hb1⟩
      rw [Hl.out]
      have hbk := blk_below (blk_new w (.cells #[.int .i64 x.f0, .string x.f1, .int .i64 x.f2, .slice A x.f3.length c, .int .i64 x.f4] 24)) hb1
      have k0 := blk_cell hbk 0
      have k1 := blk_cell hbk 1
      have k2 := blk_cell hbk 2
      have k3 := blk_cell hbk 3
      have k4 := blk_cell hbk 4
      have HB1 := Aside0.mk (below_step (below_alloc (Below.refl w.heap.size w) _) hb1)
      clear hb1 hbk
      go_wp2_with fail
      refine (HN.out w0 B b m2 m1 bs w1 _ _ HX.out ?s1 hB0 HT.out ?s2 HL.out).mono ?_
      case s1 => exact below_step HB0.out HB1.out
      case s2 => exact HP.out.below HB1.out
      rintro e w2 ⟨rfl, hw⟩
      have HW := Aside0.mk (Wrote.after HB1.out (by omega) hw)
      clear hw k0 k1 k2 k3 k4
      go_wp2
      refine bodyPost_ret (results_none rfl _ _ _) rfl ?_
      exact ⟨rfl, HW.out⟩
  · have hopr : opr x need fin = [40] ++ txt x true ++ [41] := by simp [opr, hbare]
    rw [hopr] at hlen ⊢
    have hlen2 : bs.length + (1 + (txt x true).length + 1) ≤ most := by simp at hlen; omega
    have HL := Aside0.mk hlen2
    have hu41 : bs ++ ([40] ++ txt x true ++ [41]) = ((bs ++ [40]) ++ txt x true) ++ [41] := by simp
    rw [hu41]
    clear hopr hlen hlen2 hu41
    unfold bare at hbare
    obtain ⟨l, Hl⟩ : ∃ l, Aside0 (lvl x.f0 = l) := ⟨_, ⟨rfl⟩⟩
    rw [Hl.out] at hbare
    obtain ⟨q45, h45⟩ : ∃ q, (x.f0 == 45) = q := ⟨_, rfl⟩
    obtain ⟨q46, h46⟩ : ∃ q, (x.f0 == 46) = q := ⟨_, rfl⟩
    obtain ⟨ql, hl⟩ : ∃ q, decide (l ≥ need) = q := ⟨_, rfl⟩
    have e45 : decide (x.f0 = 45) = q45 := by rw [← h45]; rfl
    have e46 : decide (x.f0 = 46) = q46 := by rw [← h46]; rfl
    rw [e45, e46, hl] at hbare
    clear e45 e46
    cases ql <;> cases q45 <;> cases q46 <;> cases fin <;> first | exact absurd rfl hbare | skip
    all_goals clear hbare
    all_goals
      go_enter Tryd.func59, Tryd.ntmps59
      go_wp2_with fail
      refine (level_walk B b m2 m1 bs x.f0 _ (HP.out.below (below_alloc (Below.refl _ _) _))).mono ?_
      rintro e w1 ⟨rfl, hb1⟩
      rw [Hl.out]
      have hbk := blk_below (blk_new w (.cells #[.int .i64 x.f0, .string x.f1, .int .i64 x.f2, .slice A x.f3.length c, .int .i64 x.f4] 24)) hb1
      have HB1 := Aside0.mk (below_step (below_alloc (Below.refl w.heap.size w) _) hb1)
      clear hb1
      go_wp2_with fail
      refine (writeByte_walk B b m2 m1 bs 40 _ (HP.out.below HB1.out) ?l1 ?l2).mono ?_
      case l1 => have := HL.out; unfold most at this; omega
      case l2 => have := HB1.out.size; omega
      rintro e w2 ⟨rfl, hw2⟩
      have hbk2 := hw2.blk hbk (by omega) (by decide)
      have HW2 := Aside0.mk (Wrote.after HB1.out (by omega) hw2)
      clear hw2 hbk
      have k0 := blk_cell hbk2 0
      have k1 := blk_cell hbk2 1
      have k2 := blk_cell hbk2 2
      have k3 := blk_cell hbk2 3
      have k4 := blk_cell hbk2 4
      clear hbk2
      go_wp2_with fail
      refine (HN.out w0 B b m2 m1 (bs ++ [40]) w2 _ true HX.out ?s1 hB0 HT.out HW2.out.1 ?s2).mono ?_
      case s1 => exact HW2.out.from_ HB0.out hB0
      case s2 => have := HL.out; rw [List.length_append]; simp; omega
      rintro e w3 ⟨rfl, hw3⟩
      have HW3 := Aside0.mk (HW2.out.trans hw3)
      clear hw3 k0 k1 k2 k3 k4
      go_wp2_with fail
      refine (writeByte_walk B b m2 m1 ((bs ++ [40]) ++ txt x true) 41 _ HW3.out.1 ?l1 ?l2).mono ?_
      case l1 => have := HL.out; unfold most at this; simp; omega
      case l2 => have := HW3.out.size; omega
      rintro e w4 ⟨rfl, hw4⟩
      have HW4 := Aside0.mk (HW3.out.trans hw4)
      clear hw4
      go_wp2
      go_end0
      exact ⟨rfl, HW4.out⟩
end Go.Proofs.YtgdiodhaihmnbaaDoor.Own
namespace Go.Proofs.YtgdiodhaihmnbaaDoor.Own
open Go.RowKit Go.Proofs.YtgdiodhaihmnbaaDoorW.PrintWords Go.Proofs.YtgdiodhaihmnbaaDoorW.PrintLast Go.Proofs.YtgdiodhaihmnbaaDoorW.PrintMore Go.Proofs.YtgdiodhaihmnbaaDoor.PPrinterMatchesReference
theorem z24_K (w : World) : k24.K w z24 [.int .i64 0, .string ⟨#[]⟩, .int .i64 0, .slice none 0 0, .int .i64 0] :=
  k24_mk w z24 (A3 := none) (c3 := 0) (Nat.le_refl _) ⟨rfl, by simp [z24], fun h => absurd h (by simp [z24])⟩
theorem blk_two (w : World) (o o' : Obj) : ((w.alloc o).alloc o').heap[w.heap.size + 1]? = some o' := by simpa using blk_new (w.alloc o) o'
def KidP (w0 : World) (y : S24) (w : World) (e : Ending) (w' : World) : Prop := ∃ cs, e = .returned (.agg cs.toArray) ∧ k24.K w0 y cs ∧ Below w.heap.size w w'
set_option maxHeartbeats 1000000 in
set_option maxRecDepth 100000 in
theorem kid_all (x : S24) (i : Nat) (hi : i ≤ 1) (w0 : World) (cs : List Value) (hx : k24.K w0 x cs) :
    ∃ cs0, k24.K w0 (x.f3.getD i z24) cs0 ∧ ∀ w, Below w0.heap.size w0 w → Calls Tryd.prog 60 #[.agg cs.toArray, .int .i64 i] w fun e w' => e = .returned (.agg cs0.toArray) ∧ Below w.heap.size w w' := by
  obtain ⟨A, c, rfl, hlc, hA⟩ := k24_open hx
  have hu24 := Tryd.underlying24
  have HA := Aside0.mk hA
  have hlen := row_len hA
  by_cases hlt : i < x.f3.length
  · obtain ⟨ad, A3, c3, e1, g0, g1, g2, g3, g4, gl, gi⟩ := at_T24 hA i (by omega) (by omega)
    cases e1
    simp only [Int.toNat_natCast] at g0 g1 g2 g3 g4
    refine ⟨[.int .i64 (rd_T24 x.f3 i).f0, .string (rd_T24 x.f3 i).f1, .int .i64 (rd_T24 x.f3 i).f2, .slice A3 (rd_T24 x.f3 i).f3.length c3, .int .i64 (rd_T24 x.f3 i).f4], k24_mk w0 _ gl gi, fun w hb => ?_⟩
    replace g0 := fun o o' => cell_new (cell_new (pw_cell_below hb g0) o) o'
    replace g1 := fun o o' => cell_new (cell_new (pw_cell_below hb g1) o) o'
    replace g2 := fun o o' => cell_new (cell_new (pw_cell_below hb g2) o) o'
    replace g3 := fun o o' => cell_new (cell_new (pw_cell_below hb g3) o) o'
    replace g4 := fun o o' => cell_new (cell_new (pw_cell_below hb g4) o) o'
    clear gl gi hx hb hA hlc
    go_enter Tryd.func60, Tryd.ntmps60
    go_wp2_with fail
    refine bodyPost_ret (results_cell_row rfl _ _ (w.heap.size + 1) 24 #[.int .i64 (rd_T24 x.f3 i).f0, .string (rd_T24 x.f3 i).f1, .int .i64 (rd_T24 x.f3 i).f2, .slice A3 (rd_T24 x.f3 i).f3.length c3, .int .i64 (rd_T24 x.f3 i).f4] (0, 0) _ rfl (blk_two _ _ _) Tryd.underlying24 rfl (by kernel_rfl)) rfl ?_
    exact ⟨rfl, by repeat (first | exact Below.refl _ _ | apply below_alloc)⟩
  · have hz : x.f3.getD i z24 = z24 := by rw [List.getD_eq_getElem?_getD, List.getElem?_eq_none (by omega)]; rfl
    rw [hz]
    clear hz hx hA hlc
    refine ⟨_, z24_K w0, fun w hb => ?_⟩
    clear hb
    go_enter Tryd.func60, Tryd.ntmps60
    go_wp2_with fail
    refine bodyPost_ret (results_cell_row rfl _ _ (w.heap.size + 1) 24 #[.int .i64 0, .string ⟨#[]⟩, .int .i64 0, .slice none 0 0, .int .i64 0] (0, 0) _ rfl (blk_two _ _ _) Tryd.underlying24 rfl (by kernel_rfl)) rfl ?_
    exact ⟨rfl, by repeat (first | exact Below.refl _ _ | apply below_alloc)⟩
theorem kid_walk (x : S24) (i : Nat) (hi : i ≤ 1) (w0 w : World) (cs : List Value) (hx : k24.K w0 x cs) (hb : Below w0.heap.size w0 w) :
    Calls Tryd.prog 60 #[.agg cs.toArray, .int .i64 i] w (KidP w0 (x.f3.getD i z24) w) := by
  obtain ⟨cs0, h0, h1⟩ := kid_all x i hi w0 cs hx
  exact (h1 w hb).mono fun e w' ⟨he, hw⟩ => ⟨cs0, he, h0, hw⟩
end Go.Proofs.YtgdiodhaihmnbaaDoor.Own
namespace Go.Proofs.YtgdiodhaihmnbaaDoor.Own
open Go.RowKit Go.Proofs.YtgdiodhaihmnbaaDoorW.PrintWords Go.Proofs.YtgdiodhaihmnbaaDoorW.PrintLast Go.Proofs.YtgdiodhaihmnbaaDoorW.PrintMore Go.Proofs.YtgdiodhaihmnbaaDoor.PPrinterMatchesReference
set_option maxHeartbeats 2000000 in
set_option maxRecDepth 100000 in
theorem arg_walk (x : S24) (hO : OprC x) (w0 : World) (B b m2 m1 : Nat) (bs : List UInt8) (w : World) (cs : List Value) (hx : k24.K w0 x cs) (hb0 : Below w0.heap.size w0 w) (hB0 : w0.heap.size ≤ B) (ht : Tab w0) (hP : IsP B b m2 m1 bs w)
    (hlen : bs.length + (opr x 8 true).length ≤ most) : Calls Tryd.prog 65 #[.pointer (some ⟨b, 0, none⟩), .agg cs.toArray] w fun e w' => e = .returned (.tuple #[]) ∧ Wrote B b m2 m1 (bs ++ opr x 8 true) w w' := by
  obtain ⟨A, c, rfl, hlc, hA⟩ := k24_open hx
  have HO := Aside0.mk hO
  have HX := Aside0.mk hx
  have HP := Aside0.mk hP
  have HT := Aside0.mk ht
  have HB0 := Aside0.mk hb0
  have hlt := hP.lt
  have hlow := hP.low
  have hu24 := Tryd.underlying24
  clear hO hx hP ht hb0 hA hlc
  go_enter Tryd.func65, Tryd.ntmps65
  go_wp2_with fail
  refine (HO.out w0 B b m2 m1 bs _ _ 8 true HX.out ?s1 hB0 HT.out ?s2 hlen).mono ?_
  case s1 => exact below_step HB0.out (below_alloc (Below.refl _ _) _)
  case s2 => exact HP.out.below (below_alloc (Below.refl _ _) _)
  rintro e w2 ⟨rfl, hw⟩
  have HW := Aside0.mk (Wrote.after (below_alloc (Below.refl _ _) _) (by omega) hw)
  clear hw
  go_wp2
  go_end0
  exact ⟨rfl, HW.out⟩
set_option maxHeartbeats 2000000 in
set_option maxRecDepth 100000 in
theorem bound_walk (x : S24) (hO : OprC (x.f3.getD 0 z24)) (hN : NodeC (x.f3.getD 1 z24)) (w0 : World) (B b m2 m1 : Nat) (bs : List UInt8) (w : World) (cs : List Value) (hx : k24.K w0 x cs) (hb0 : Below w0.heap.size w0 w) (hB0 : w0.heap.size ≤ B) (ht : Tab w0) (hP : IsP B b m2 m1 bs w)
    (hlen : bs.length + (bnd x).length ≤ most) : Calls Tryd.prog 63 #[.pointer (some ⟨b, 0, none⟩), .agg cs.toArray] w fun e w' => e = .returned (.tuple #[]) ∧ Wrote B b m2 m1 (bs ++ bnd x) w w' := by
  obtain ⟨A, c, rfl, hlc, hA⟩ := k24_open hx
  have HO := Aside0.mk hO
  have HN := Aside0.mk hN
  have HX := Aside0.mk hx
  have HP := Aside0.mk hP
  have HT := Aside0.mk ht
  have HB0 := Aside0.mk hb0
  have hlt := hP.lt
  have hlow := hP.low
  have hu24 := Tryd.underlying24
  have hbnd : bnd x = x.f1.data.toList ++ [58, 32] ++ opr (x.f3.getD 0 z24) 8 true ++ [32, 124, 32] ++ txt (x.f3.getD 1 z24) true := by rw [bnd, opd_rd _ _ _ _ (by omega), nod_rd]
  rw [hbnd] at hlen ⊢
  have hl2 : bs.length + (x.f1.size + 2 + (opr (x.f3.getD 0 z24) 8 true).length + 3 + (txt (x.f3.getD 1 z24) true).length) ≤ most := by
    simp only [List.length_append, data_length, List.length_cons, List.length_nil] at hlen; omega
  have HL := Aside0.mk hl2
  have hsz : ¬ 9223372036854775807 < x.f1.size + 2 := by unfold most at hl2; omega
  have hass : bs ++ (x.f1.data.toList ++ [58, 32] ++ opr (x.f3.getD 0 z24) 8 true ++ [32, 124, 32] ++ txt (x.f3.getD 1 z24) true) = (((bs ++ (x.f1 ++ ⟨#[58, 32]⟩).data.toList) ++ opr (x.f3.getD 0 z24) 8 true) ++ [32, 124, 32]) ++ txt (x.f3.getD 1 z24) true := by simp [ByteArray.data_append]
  rw [hass]
  have HS2 := Aside0.mk (show (x.f1 ++ (⟨#[58, 32]⟩ : ByteArray)).size = x.f1.size + 2 by rw [ByteArray.size_append]; rfl)
  clear hO hx hP ht hb0 hA hlc hlen hbnd hN hl2 hass
  go_enter Tryd.func63, Tryd.ntmps63
  go_wp2_with fail
  obtain ⟨C, hCe⟩ : ∃ C : World → Prop, C = fun W => Below (w.alloc (.cells #[.int .i64 x.f0, .string x.f1, .int .i64 x.f2, .slice A x.f3.length c, .int .i64 x.f4] 24)).heap.size (w.alloc (.cells #[.int .i64 x.f0, .string x.f1, .int .i64 x.f2, .slice A x.f3.length c, .int .i64 x.f4] 24)) W := ⟨_, rfl⟩
  have HC := Aside0.mk hCe
  clear hCe
  have q1 : ∀ W, C W → W.cell? ⟨w.heap.size, 1, none⟩ = some (.string x.f1) := fun W hW => by
    rw [HC.out] at hW
    exact blk_cell (blk_below (blk_new w _) hW) 1
  refine wp_quiet_tail C 6 (by kernel_rfl) (by kernel_rfl) (by rw [HC.out]; exact below_drew1 (Below.refl _ _)) ?_
  simp only [List.take_succ_cons, List.take_zero, List.drop_succ_cons, List.drop_zero]
  iterate 6
    refine q_ex rfl ?_
    apply Exists.intro
    refine ⟨fun W hW => ?_, ?_⟩
    · have p1 := q1 W hW
      go_simp
      try rfl
    simp only [Act.put, List.setIfInBounds_toArray, List.set_cons_zero, List.set_cons_succ]
  intro W hW
  go_wp2_with fail
  have HW := Aside0.mk (show Below w.heap.size w W from below_step (below_alloc (Below.refl _ _) _) (by rw [HC.out] at hW; exact hW))
  have hbk : W.heap[w.heap.size]? = some (.cells #[.int .i64 x.f0, .string x.f1, .int .i64 x.f2, .slice A x.f3.length c, .int .i64 x.f4] 24 (0, 0)) := by rw [HC.out] at hW; exact blk_below (blk_new w _) hW
  clear q1 hW HC
  refine (writeString_walk B b m2 m1 bs _ _ (HP.out.below HW.out) ?l1 ?l2).mono ?_
  case l1 => have := HL.out; have := HS2.out; unfold most at *; omega
  case l2 => have := HW.out.size; omega
  rintro e w1 ⟨rfl, hw1⟩
  have hbk1 := hw1.blk hbk (by omega) (by decide)
  have HW1 := Aside0.mk (Wrote.after HW.out (by omega) hw1)
  clear hw1 hbk
  have k0 := blk_cell hbk1 0
  have k1 := blk_cell hbk1 1
  have k2 := blk_cell hbk1 2
  have k3 := blk_cell hbk1 3
  have k4 := blk_cell hbk1 4
  go_wp2_with fail
  refine (kid_walk x 0 (by omega) w0 w1 _ HX.out ?s1).mono ?_
  case s1 => exact HW1.out.from_ HB0.out hB0
  rintro e w2 ⟨cs0, rfl, hk0, hb2⟩
  have HK0 := Aside0.mk hk0
  have hbk2 := blk_below hbk1 hb2
  have HW2 := Aside0.mk (HW1.out.before hb2 (by have := HW1.out.size; omega))
  clear hb2 hk0 hbk1 k0 k1 k2 k3 k4
  go_wp2_with fail
  refine (HO.out w0 B b m2 m1 _ w2 _ 8 true HK0.out ?s1 hB0 HT.out HW2.out.1 ?s2).mono ?_
  case s1 => exact HW2.out.from_ HB0.out hB0
  case s2 => have := HL.out; have := HS2.out; rw [List.length_append, data_length]; omega
  rintro e w3 ⟨rfl, hw3⟩
  have hbk3 := hw3.blk hbk2 (by omega) (by decide)
  have HW3 := Aside0.mk (HW2.out.trans hw3)
  clear hw3 hbk2
  go_wp2_with fail
  refine (writeString_walk B b m2 m1 _ _ _ HW3.out.1 ?l1 ?l2).mono ?_
  case l1 => have := HL.out; have := HS2.out; simp only [List.length_append, data_length]; unfold most at *; show _ + 3 ≤ _; omega
  case l2 => have := HW3.out.size; omega
  rintro e w4 ⟨rfl, hw4⟩
  have hbk4 := hw4.blk hbk3 (by omega) (by decide)
  have HW4 := Aside0.mk (HW3.out.trans hw4)
  clear hw4 hbk3
  have k0 := blk_cell hbk4 0
  have k1 := blk_cell hbk4 1
  have k2 := blk_cell hbk4 2
  have k3 := blk_cell hbk4 3
  have k4 := blk_cell hbk4 4
  clear hbk4
  go_wp2_with fail
  refine (kid_walk x 1 (by omega) w0 w4 _ HX.out ?s1).mono ?_
  case s1 => exact HW4.out.from_ HB0.out hB0
  rintro e w5 ⟨cs1, rfl, hk1, hb5⟩
  have HK1 := Aside0.mk hk1
  have HW5 := Aside0.mk (HW4.out.before hb5 (by have := HW4.out.size; omega))
  clear hb5 hk1 k0 k1 k2 k3 k4
  go_wp2_with fail
  refine (HN.out w0 B b m2 m1 _ w5 _ true HK1.out ?s1 hB0 HT.out HW5.out.1 ?s2).mono ?_
  case s1 => exact HW5.out.from_ HB0.out hB0
  case s2 => have := HL.out; have := HS2.out; simp only [List.length_append, data_length]; show _ + 3 + _ ≤ _; omega
  rintro e w6 ⟨rfl, hw6⟩
  have HW6 := Aside0.mk (HW5.out.trans hw6)
  clear hw6
  go_wp2
  go_end0
  exact ⟨rfl, HW6.out⟩
end Go.Proofs.YtgdiodhaihmnbaaDoor.Own
namespace Go.Proofs.YtgdiodhaihmnbaaDoor.Own
open Go.RowKit Go.Proofs.YtgdiodhaihmnbaaDoorW.PrintWords Go.Proofs.YtgdiodhaihmnbaaDoorW.PrintLast Go.Proofs.YtgdiodhaihmnbaaDoorW.PrintMore Go.Proofs.YtgdiodhaihmnbaaDoor.PPrinterMatchesReference
theorem toL_data (s : List UInt8) : (⟨s.toArray⟩ : ByteArray).data.toList = s := by simp
theorem toL_size (s : List UInt8) : (⟨s.toArray⟩ : ByteArray).size = s.length := by simp [ByteArray.size]
/-- WriteString of a text that is given as a list. -/
theorem writeL_walk (B b m2 m1 : Nat) (bs s : List UInt8) (w : World) (h : IsP B b m2 m1 bs w) (hlen : bs.length + s.length ≤ most) (hBw : B ≤ w.heap.size) :
    Calls Tryd.prog 47 #[.pointer (some ⟨b, 0, none⟩), .string ⟨s.toArray⟩] w fun e w' => e = .returned (.tuple #[.int .i64 s.length, .nilIface]) ∧ Wrote B b m2 m1 (bs ++ s) w w' := by
  have := writeString_walk B b m2 m1 bs ⟨s.toArray⟩ w h (by rw [toL_size]; exact hlen) hBw
  rw [toL_size, toL_data] at this
  exact this
/-- The text of the arguments up to k is pre, the rest is still to come. -/
def ArgsAt (xs : List S24) (k : Nat) (pre : List UInt8) : Prop := argl xs true = pre ++ argl (xs.drop k) (decide (k = 0))
theorem ArgsAt.step {xs : List S24} {k : Nat} {pre : List UInt8} (h : ArgsAt xs k pre) (hk : k < xs.length) : ArgsAt xs (k + 1) ((pre ++ (if k = 0 then [] else [44, 32])) ++ opr (rd_T24 xs k) 8 true) ∧
    argl xs true = (pre ++ (if k = 0 then [] else [44, 32])) ++ opr (rd_T24 xs k) 8 true ++ argl (xs.drop (k + 1)) false := by
  unfold ArgsAt at *
  rw [drop_rd xs k hk, argl_cons] at h
  have e : argl xs true = (pre ++ (if k = 0 then [] else [44, 32])) ++ opr (rd_T24 xs k) 8 true ++ argl (xs.drop (k + 1)) false := by
    rw [h]; by_cases hk0 : k = 0 <;> simp [hk0]
  exact ⟨by rw [e]; simp, e⟩
set_option maxHeartbeats 2000000 in
set_option maxRecDepth 100000 in
theorem list_walk (xs : List S24) (hO : ∀ x ∈ xs, OprC x) (w0 : World) (B b m2 m1 : Nat) (bs : List UInt8) (w : World) (A : Option Addr) (c : Nat) (hx : k24.C w0 A xs.length xs) (hb0 : Below w0.heap.size w0 w) (hB0 : w0.heap.size ≤ B) (ht : Tab w0) (hP : IsP B b m2 m1 bs w)
    (hlen : bs.length + (argl xs true).length ≤ most) : Calls Tryd.prog 64 #[.pointer (some ⟨b, 0, none⟩), .slice A xs.length c, .string ⟨#[44, 32]⟩, .func (.func 65) #[.pointer (some ⟨b, 0, none⟩)] #[]] w fun e w' => e = .returned (.tuple #[]) ∧ Wrote B b m2 m1 (bs ++ argl xs true) w w' := by
  have HO := Aside0.mk hO
  have HX := Aside0.mk hx
  have HP := Aside0.mk hP
  have HT := Aside0.mk ht
  have HB0 := Aside0.mk hb0
  have HL := Aside0.mk hlen
  have hlt := hP.lt
  have hlow := hP.low
  have hu24 := Tryd.underlying24
  have hmx := row_len hx
  clear hO hx hP ht hb0 hlen
  go_enter Tryd.func64, Tryd.ntmps64
  go_wp2_with fail
  go_loopw [12] (fun v wr => ∃ k : Nat, k ≤ xs.length ∧ v = .int .i64 k ∧ Aside0 (∃ pre, ArgsAt xs k pre ∧ Wrote B b m2 m1 (bs ++ pre) w wr)) (fun v _ => xs.length - (intOf v).toNat)
  case atStart => exact ⟨0, Nat.zero_le _, rfl, ⟨[], by simp [ArgsAt], by simpa using ⟨HP.out, Below.refl _ _, Lib.OthersKept.refl _ _ _⟩⟩⟩
  case round =>
    obtain ⟨k, hk, rfl, ⟨pre, hpre, hwr⟩⟩ := hrel
    have HPRE := Aside0.mk hpre
    have HWR := Aside0.mk hwr
    clear hpre hwr
    by_cases hlt2 : k < xs.length
    · have hbw := HWR.out.from_ HB0.out hB0
      obtain ⟨ad, A3, c3, e1, g0, g1, g2, g3, g4, gl, gi⟩ := at_T24 HX.out k (by omega) (by omega)
      cases e1
      simp only [Int.toNat_natCast] at g0 g1 g2 g3 g4
      replace g0 := pw_cell_below hbw g0
      replace g1 := pw_cell_below hbw g1
      replace g2 := pw_cell_below hbw g2
      replace g3 := pw_cell_below hbw g3
      replace g4 := pw_cell_below hbw g4
      have KX : Aside0 (k24.K w0 (rd_T24 xs k) [.int .i64 (rd_T24 xs k).f0, .string (rd_T24 xs k).f1, .int .i64 (rd_T24 xs k).f2, .slice A3 (rd_T24 xs k).f3.length c3, .int .i64 (rd_T24 xs k).f4]) := ⟨k24_mk w0 _ gl gi⟩
      have HBW := Aside0.mk hbw
      clear gl gi hbw
      obtain ⟨hs1, hs2⟩ := HPRE.out.step hlt2
      have HM : Aside0 (rd_T24 xs k ∈ xs) := ⟨List.mem_of_mem_drop (by rw [drop_rd xs k hlt2]; exact List.mem_cons_self)⟩
      have hl3 : bs.length + (pre.length + (if k = 0 then ([] : List UInt8) else [44, 32]).length + (opr (rd_T24 xs k) 8 true).length) ≤ most := by
        have := HL.out
        rw [hs2] at this
        simp only [List.length_append] at this ⊢
        omega
      have HS1 := Aside0.mk hs1
      have HL3 := Aside0.mk hl3
      clear hs1 hs2 hl3
      have hbsz : b < wr.heap.size := by have := HWR.out.size; omega
      by_cases hk0 : k = 0
      · have hs : (if k = 0 then ([] : List UInt8) else [44, 32]) = [] := by simp [hk0]
        rw [hs] at HS1 HL3
        have hkb : decide (0 < k) = false := by simp [hk0]
        clear hk0 hs
        go_wp2_with fail
        refine (arg_walk (rd_T24 xs k) (HO.out _ HM.out) w0 B b m2 m1 (bs ++ pre) _ _ KX.out ?s1 hB0 HT.out ?s2 ?s3).mono ?_
        case s1 => exact below_step HBW.out (below_alloc (Below.refl _ _) _)
        case s2 => exact HWR.out.1.below (below_alloc (Below.refl _ _) _)
        case s3 => have := HL3.out; rw [List.length_append]; simp at this; omega
        rintro e w2 ⟨rfl, hw2⟩
        have HW2 := Aside0.mk (HWR.out.trans (Wrote.after (below_alloc (Below.refl _ _) _) (by omega) hw2))
        clear hw2 g0 g1 g2 g3 g4
        go_wp2
        go_roundw
        case rel => exact ⟨k + 1, by omega, by go_num, ⟨⟨_, HS1.out, by simpa using HW2.out⟩⟩⟩
        case measure => simp [intOf]; omega
      · have hs : (if k = 0 then ([] : List UInt8) else [44, 32]) = [44, 32] := by simp [hk0]
        rw [hs] at HS1 HL3
        have hkb : decide (0 < k) = true := by simp; omega
        clear hk0 hs
        go_wp2_with fail
        have hbk := blk_new wr (.cells #[.int .i64 (rd_T24 xs k).f0, .string (rd_T24 xs k).f1, .int .i64 (rd_T24 xs k).f2, .slice A3 (rd_T24 xs k).f3.length c3, .int .i64 (rd_T24 xs k).f4] 24)
        refine (writeString_walk B b m2 m1 (bs ++ pre) _ _ ?u1 ?l1 ?l2).mono ?_
        case u1 => exact HWR.out.1.below (below_alloc (Below.refl _ _) _)
        case l1 => have := HL3.out; rw [List.length_append]; unfold most at this; simp only [List.length_cons, List.length_nil] at this; show _ + 2 ≤ _; omega
        case l2 => simp; omega
        rintro e w1 ⟨rfl, hw1⟩
        have hbk1 := hw1.blk hbk (by omega) (by decide)
        have HW1 := Aside0.mk (HWR.out.trans (Wrote.after (below_alloc (Below.refl _ _) _) (by omega) hw1))
        have HBW1 := Aside0.mk (HW1.out.from_ HB0.out hB0)
        clear hw1 g0 g1 g2 g3 g4 hbk
        have g0 := blk_cell hbk1 0
        have g1 := blk_cell hbk1 1
        have g2 := blk_cell hbk1 2
        have g3 := blk_cell hbk1 3
        have g4 := blk_cell hbk1 4
        clear hbk1
        go_wp2_with fail
        refine (arg_walk (rd_T24 xs k) (HO.out _ HM.out) w0 B b m2 m1 _ _ _ KX.out HBW1.out hB0 HT.out HW1.out.1 ?u3).mono ?_
        case u3 => have := HL3.out; simp only [List.length_append, List.length_cons, List.length_nil] at this ⊢; simp; omega
        rintro e w2 ⟨rfl, hw2⟩
        have HW2 := Aside0.mk (HW1.out.trans hw2)
        clear hw2 g0 g1 g2 g3 g4
        go_wp2
        go_roundw
        case rel => exact ⟨k + 1, by omega, by go_num, ⟨⟨_, HS1.out, by simpa using HW2.out⟩⟩⟩
        case measure => simp [intOf]; omega
    · have hke : k = xs.length := by omega
      have HE : Aside0 (argl xs true = pre) := ⟨by have := HPRE.out; unfold ArgsAt at this; rw [this, List.drop_of_length_le (by omega)]; simp [argl]⟩
      clear hke
      go_wp2
      go_end0
      exact ⟨rfl, by rw [HE.out]; exact HWR.out⟩
end Go.Proofs.YtgdiodhaihmnbaaDoor.Own
namespace Go.Proofs.YtgdiodhaihmnbaaDoor.Own
open Go
section
variable {P : Program} {ops : Array Oper} {md : Region.Mode} {S : World → Prop} {Q : Exit → Act → World → Prop} {a : Act} {w : World} {fuel : Nat} {listed : Array Bool}
theorem at_drop {i : Nat} {o : Oper} {tl : List Oper} (h : ops.toList.drop i = o :: tl) : ops[i]? = some o := by
  have : (ops.toList.drop i)[0]? = some o := by rw [h]; rfl
  simpa using this
theorem h_take (i : Nat) {oi : Oper} {tl : List Oper} (hi0 : ops.toList.drop i = oi :: tl) (hs : Region.noSelect ops = true) (hf : Region.free md ops listed i = true) (hr : (Region.ready md ops listed).contains i = true)
    (hQ : ∀ v c a w, Q (.panic c) (a.put oi.dst v) w → Q (.panic c) a w) (hS : S w) (hg : oi.guard = none)
    (h : ∃ v, (∀ w, S w → (execOp a.eval oi).run P w = .ok (.value v) w) ∧ wpAnyH P md ops Q S fuel (listed.setIfInBounds i true) (a.put oi.dst v) w) : wpAnyH P md ops Q S (fuel + 1) listed a w :=
  let ⟨v, h1, h2⟩ := h
  wpAnyH_take (at_drop hi0) hs hf hr (hQ v) (.inl ⟨by simp [Region.wanted, hg], h1⟩) hS h2
theorem h_one (i : Nat) {o : Oper} {tl : List Oper} (hi0 : ops.toList.drop i = o :: tl) (hr : Region.ready md ops listed = [i]) (hg : o.guard = none)
    (h : o.wp P a w (fun a' w' => S w' ∧ wpAnyH P md ops Q S fuel (listed.setIfInBounds i true) a' w') Q) : wpAnyH P md ops Q S (fuel + 1) listed a w := by
  have hi := at_drop hi0
  refine wpAnyH_all hr (by simp) ?_
  intro j hj
  obtain rfl : j = i := by simpa using hj
  unfold wpOp
  simp only [hi, Region.wanted, hg, if_true]
  exact .inl h
theorem op_val {o : Oper} {K : Act → World → Prop} {v : Value} {w1 : World} (hrun : (execOp a.eval o).run P w = .ok (.value v) w1) (h : K (a.put o.dst v) w1) : o.wp P a w K Q := by
  unfold Oper.wp; rw [hrun]; exact h
theorem op_skip {o : Oper} {K : Act → World → Prop} {w1 : World} (hrun : (execOp a.eval o).run P w = .ok .skip w1) (h : K (a.put o.dst undef) w1) : o.wp P a w K Q := by
  unfold Oper.wp; rw [hrun]; exact h
theorem op_call {o : Oper} {K : Act → World → Prop} {f : FuncId} {args : Array Value} (hrun : (execOp a.eval o).run P w = .ok (.enter f args) w) {v : Value} {R : World → Prop} (hc : Calls P f args w fun e w' => e = .returned v ∧ R w') (h : ∀ w', R w' → K (a.put o.dst v) w') : o.wp P a w K Q := by
  unfold Oper.wp; rw [hrun]; exact hc.mono fun e w' ⟨he, hr⟩ => by subst he; exact h w' hr
end
end Go.Proofs.YtgdiodhaihmnbaaDoor.Own
namespace Go.Proofs
open Go.Shelf
def Tryd.laysM171_ren : Go.Shelf.Ren := ⟨fun | 171 => 61 | 243 => 78 | 246 => 80 | 283 => 81 | 284 => 82 | 285 => 83 | 286 => 84 | 129 => 86 | 317 => 85 | 318 => 87 | 319 => 88 | 320 => 89 | 337 => 90 | 338 => 91 | n => n, fun | 3 => 3 | 9 => 9 | 2 => 2 | 4 => 4 | 171 => 113 | 0 => 0 | 53 => 114 | 37 => 70 | 5 => 5 | 173 => 117 | 212 => 120 | 51 => 121 | 20 => 20 | 213 => 122 | 46 => 124 | 232 => 127 | 233 => 128 | n => n, fun | 17 => 0 | 18 => 1 | 19 => 2 | n => n⟩
theorem Tryd.laysM171 : Go.Proofs.LaysM.n171 Tryd.prog Tryd.laysM171_ren := {
  mixed := by kernel_rfl
  f129 := Tryd.func86.trans (congrArg some (by kernel_rfl))
  f171 := Tryd.func61.trans (congrArg some (by kernel_rfl))
  f243 := Tryd.func78.trans (congrArg some (by kernel_rfl))
  f246 := Tryd.func80.trans (congrArg some (by kernel_rfl))
  f283 := Tryd.func81.trans (congrArg some (by kernel_rfl))
  f284 := Tryd.func82.trans (congrArg some (by kernel_rfl))
  f285 := Tryd.func83.trans (congrArg some (by kernel_rfl))
  f286 := Tryd.func84.trans (congrArg some (by kernel_rfl))
  f317 := Tryd.func85.trans (congrArg some (by kernel_rfl))
  f318 := Tryd.func87.trans (congrArg some (by kernel_rfl))
  f319 := Tryd.func88.trans (congrArg some (by kernel_rfl))
  f320 := Tryd.func89.trans (congrArg some (by kernel_rfl))
  f337 := Tryd.func90.trans (congrArg some (by kernel_rfl))
  f338 := Tryd.func91.trans (congrArg some (by kernel_rfl))
  t0 := Tryd.underlying0
  a0 := Tryd.isAgg0
  z0 := Tryd.sizeOf0
  v0 := Tryd.zeroValue0
  t2 := Tryd.underlying2
  a2 := Tryd.isAgg2
  z2 := Tryd.sizeOf2
  v2 := Tryd.zeroValue2
  t3 := Tryd.underlying3
  a3 := Tryd.isAgg3
  z3 := Tryd.sizeOf3
  v3 := Tryd.zeroValue3
  t4 := Tryd.underlying4
  a4 := Tryd.isAgg4
  z4 := Tryd.sizeOf4
  v4 := Tryd.zeroValue4
  t5 := Tryd.underlying5
  a5 := Tryd.isAgg5
  z5 := Tryd.sizeOf5
  v5 := Tryd.zeroValue5
  t9 := Tryd.underlying9
  a9 := Tryd.isAgg9
  z9 := Tryd.sizeOf9
  v9 := Tryd.zeroValue9
  t20 := Tryd.underlying20
  a20 := Tryd.isAgg20
  z20 := Tryd.sizeOf20
  v20 := Tryd.zeroValue20
  t37 := Tryd.underlying70
  a37 := Tryd.isAgg70
  z37 := Tryd.sizeOf70
  v37 := Tryd.zeroValue70
  t46 := Tryd.underlying124
  a46 := Tryd.isAgg124
  z46 := Tryd.sizeOf124
  v46 := Tryd.zeroValue124
  t51 := Tryd.underlying121
  a51 := Tryd.isAgg121
  z51 := Tryd.sizeOf121
  v51 := Tryd.zeroValue121
  t53 := Tryd.underlying114
  a53 := Tryd.isAgg114
  z53 := Tryd.sizeOf114
  v53 := Tryd.zeroValue114
  t171 := Tryd.underlying113
  a171 := Tryd.isAgg113
  z171 := Tryd.sizeOf113
  v171 := Tryd.zeroValue113
  t173 := Tryd.underlying117
  a173 := Tryd.isAgg117
  z173 := Tryd.sizeOf117
  v173 := Tryd.zeroValue117
  t212 := Tryd.underlying120
  a212 := Tryd.isAgg120
  z212 := Tryd.sizeOf120
  v212 := Tryd.zeroValue120
  t213 := Tryd.underlying122
  a213 := Tryd.isAgg122
  z213 := Tryd.sizeOf122
  t232 := Tryd.underlying127
  a232 := Tryd.isAgg127
  z232 := Tryd.sizeOf127
  v232 := Tryd.zeroValue127
  t233 := Tryd.underlying128
  a233 := Tryd.isAgg128
  z233 := Tryd.sizeOf128
  v233 := Tryd.zeroValue128
  g17 := by kernel_rfl
  g18 := by kernel_rfl
  g19 := by kernel_rfl
  i0 := by kernel_rfl
  i2 := by kernel_rfl
  i3 := by kernel_rfl
  i4 := by kernel_rfl
  i5 := by kernel_rfl
  i9 := by kernel_rfl
  i20 := by kernel_rfl
  i37 := by kernel_rfl
  i46 := by kernel_rfl
  i51 := by kernel_rfl
  i53 := by kernel_rfl
  i171 := by kernel_rfl
  i173 := by kernel_rfl
  i212 := by kernel_rfl
  i232 := by kernel_rfl
  i233 := by kernel_rfl
  m17 := by kernel_rfl
  m18 := by kernel_rfl
  m19 := by kernel_rfl }
open Go.RowKit Go.Sort Go.Lib in
/-- strconv.Itoa: "Itoa is equivalent to FormatInt(int64(i), 10).": i's DECIMAL NUMERAL ('Lib.itoa': a '-' where i is negative, then the digits), FOR EVERY int. The world behind the call: the world before it, new blocks behind the heap (the library's 'var a [24]byte'), draws. (LAID: no walk: one application.) -/
theorem Tryd.strconv_Itoa (n : Int) (h0 : -9223372036854775808 ≤ n) (h1 : n ≤ 9223372036854775807) (w : World) (htab : Lib.TabIs Tryd.prog w "internal/strconv.uint64pow10" .u64 Lib.pow10Tab) :
    Calls Tryd.prog 61 #[.int .i64 n] w fun e w' => e = .returned (.string ⟨(Lib.itoa n).toArray⟩) ∧ ∃ k os, w' = grow (w.drewN k) os := Any.strconv_Itoa Tryd.laysM171 n h0 h1 w htab
end Go.Proofs
