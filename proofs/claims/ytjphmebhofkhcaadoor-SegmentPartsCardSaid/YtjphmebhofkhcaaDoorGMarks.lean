/- Marks, in plain Lean: which are right. Conditions: the sizes that every row has. -/
import Derived.Test.YtjphmebhofkhcaaDoorPSegAllx0
import Derived.Test.YtjphmebhofkhcaaDoorPSegAllx1
import Derived.Test.YtjphmebhofkhcaaDoorPSegAllx2
import Derived.Test.YtjphmebhofkhcaaDoorPSegAllx3
import Derived.Test.YtjphmebhofkhcaaDoorPSegAllx4
import Derived.Test.YtjphmebhofkhcaaDoorPSegAllx5
import Derived.Test.YtjphmebhofkhcaaDoorPSegAllx6
import Derived.Test.YtjphmebhofkhcaaDoorPSegAllx7
import Derived.Test.YtjphmebhofkhcaaDoorPSegAllx8
import Derived.Test.YtjphmebhofkhcaaDoorPSegAllx9
import Derived.Test.YtjphmebhofkhcaaDoorPSegAllx10
import Derived.Test.YtjphmebhofkhcaaDoorPSegAllx11
import Derived.Test.YtjphmebhofkhcaaDoorPSegAllx12
import Derived.Test.YtjphmebhofkhcaaDoorPl
namespace Go.Proofs.YtjphmebhofkhcaaDoor.Pure
open Go.RowKit Go.Proofs.YtjphmebhofkhcaaDoorPl Go.Proofs.YtjphmebhofkhcaaDoor.PSegAll Go.Proofs.YtjphmebhofkhcaaDoorW.PrintWords Go.Proofs.YtjphmebhofkhcaaDoorW.PrintLast Go.Proofs.YtjphmebhofkhcaaDoorW.PrintMore
set_option linter.unusedSimpArgs false
set_option linter.unusedVariables false
theorem rd_span {xs : List S67} {i : Nat} (h : i < xs.length) : rd_T67 xs (i : Int) = xs[i] := by
 unfold rd_T67
 rw [List.getD_eq_getElem?_getD, Int.toNat_natCast, List.getElem?_eq_getElem h]
 rfl
theorem rd_site {xs : List S70} {i : Nat} (h : i < xs.length) : rd_T70 xs (i : Int) = xs[i] := by
 unfold rd_T70
 rw [List.getD_eq_getElem?_getD, Int.toNat_natCast, List.getElem?_eq_getElem h]
 rfl
theorem rd_num {xs : List Int} {i : Nat} (h : i < xs.length) : rd xs (i : Int) = xs[i] := by
 unfold rd
 rw [List.getD_eq_getElem?_getD, Int.toNat_natCast, List.getElem?_eq_getElem h]
 rfl
/-- Is a span right behind another one (if there is one)? -/
def spanOk (n : Int) (p : Option S67) (s : S67) : Bool :=
 decide (0 < s.f0) && decide (0 ≤ s.f1) && decide (s.f1 < s.f2) && decide (s.f2 ≤ n) && (match p with | none => true | some q => decide (q.f2 < s.f1) || (decide (q.f2 = s.f1) && decide (q.f0 ≠ s.f0)))
def spansOk (n : Int) : Option S67 → List S67 → Bool
 | _, [] => true
 | p, s :: r => spanOk n p s && spansOk n (some s) r
def siteOk (n : Int) (p : Option S70) (s : S70) : Bool :=
 decide (0 < s.f0) && decide (0 ≤ s.f1) && decide (s.f1 ≤ n) && (match p with | none => true | some q => decide (q.f1 < s.f1) || (decide (q.f1 = s.f1) && decide (q.f0 < s.f0)))
def sitesOk (n : Int) : Option S70 → List S70 → Bool
 | _, [] => true
 | p, s :: r => siteOk n p s && sitesOk n (some s) r
def rightB (n : Int) (xs : List S67) (ys : List S70) : Bool := spansOk n none xs && sitesOk n none ys
/-- The element ahead of i. -/
def ahead {α : Type} (xs : List α) (i : Nat) : Option α := if i = 0 then none else xs[i - 1]?
/-- A span behind others: longer, or one more. -/
def addL (o : List S67) (s : S67) : List S67 :=
 if s.f2 ≤ s.f1 then o else match o.getLast? with
  | none => o ++ [s]
  | some q => if q.f2 = s.f1 ∧ q.f0 = s.f0 then o.dropLast ++ [⟨q.f0, q.f1, s.f2⟩] else o ++ [s]
theorem addL_nil (s : S67) (h : s.f1 < s.f2) : addL [] s = [s] := by
 unfold addL; rw [if_neg (by omega)]; rfl
theorem addL_none (o : List S67) (s : S67) (h : s.f2 ≤ s.f1) : addL o s = o := by
 unfold addL; rw [if_pos h]
theorem addL_long (o : List S67) (q s : S67) (h : s.f1 < s.f2) (h1 : q.f2 = s.f1) (h2 : q.f0 = s.f0) : addL (o ++ [q]) s = o ++ [⟨q.f0, q.f1, s.f2⟩] := by
 unfold addL; rw [if_neg (by omega)]; simp [h1, h2]
theorem addL_more (o : List S67) (q s : S67) (h : s.f1 < s.f2) (h1 : ¬ (q.f2 = s.f1 ∧ q.f0 = s.f0)) : addL (o ++ [q]) s = o ++ [q, s] := by
 unfold addL; rw [if_neg (by omega)]; simp only [List.getLast?_append, List.getLast?_singleton, Option.some_or]; rw [if_neg h1]; simp
/-- The mark over a place, that of the last span over it; c where there is none. -/
def colr (c : Int) (xs : List S67) (p : Int) : Int := xs.foldl (fun c s => if s.f1 ≤ p ∧ p < s.f2 then s.f0 else c) c
theorem colr_cons (c : Int) (s : S67) (xs : List S67) (p : Int) : colr c (s :: xs) p = colr (if s.f1 ≤ p ∧ p < s.f2 then s.f0 else c) xs p := rfl
theorem colr_append (c : Int) (xs ys : List S67) (p : Int) : colr c (xs ++ ys) p = colr (colr c xs p) ys p := by unfold colr; rw [List.foldl_append]
theorem colr_snoc (c : Int) (xs : List S67) (s : S67) (p : Int) : colr c (xs ++ [s]) p = if s.f1 ≤ p ∧ p < s.f2 then s.f0 else colr c xs p := by rw [colr_append]; rfl
theorem colr_out (c : Int) (xs : List S67) (p : Int) (h : ∀ s ∈ xs, ¬ (s.f1 ≤ p ∧ p < s.f2)) : colr c xs p = c := by
 induction xs generalizing c with
 | nil => rfl
 | cons s r ih => rw [colr_cons, if_neg (h s (by simp))]; exact ih c fun t ht => h t (by simp [ht])
/-- The last span ends at b at most. -/
def LastLe (o : List S67) (b : Int) : Prop := ∀ q, o.getLast? = some q → q.f1 < q.f2 ∧ q.f2 ≤ b
theorem LastLe.mono {o : List S67} {b c : Int} (h : LastLe o b) (hc : b ≤ c) : LastLe o c := fun q hq => ⟨(h q hq).1, by have := (h q hq).2; omega⟩
theorem LastLe.nil (b : Int) : LastLe [] b := fun _ h => by simp at h
theorem snoc_cases {α : Type} (o : List α) : o = [] ∨ ∃ p q, o = p ++ [q] := by
 rcases List.eq_nil_or_concat o with h | ⟨p, q, h⟩
 ·exact .inl h
 ·exact .inr ⟨p, q, by rw [h, List.concat_eq_append]⟩
theorem addL_last {o : List S67} {s : S67} {b : Int} (h : LastLe o b) : LastLe (addL o s) (if s.f1 < s.f2 then s.f2 else b) := by
 by_cases c : s.f1 < s.f2
 ·rw [if_pos c]
  rcases snoc_cases o with rfl | ⟨p, q, rfl⟩
  ·rw [addL_nil s c]; intro q hq; simp at hq; subst hq; exact ⟨c, Int.le_refl _⟩
  ·have hq := h q (by simp)
   by_cases c1 : q.f2 = s.f1 ∧ q.f0 = s.f0
   ·rw [addL_long p q s c c1.1 c1.2]; intro x hx; simp at hx; subst hx; exact ⟨by show q.f1 < s.f2; omega, Int.le_refl _⟩
   ·rw [addL_more p q s c c1]; intro x hx; simp at hx; subst hx; exact ⟨c, Int.le_refl _⟩
 ·rw [if_neg c, addL_none o s (by omega)]; exact h
theorem addL_colr {o : List S67} {s : S67} (h : LastLe o s.f1) (p : Int) : colr 0 (addL o s) p = if s.f1 ≤ p ∧ p < s.f2 then s.f0 else colr 0 o p := by
 by_cases c : s.f1 < s.f2
 ·rcases snoc_cases o with rfl | ⟨r, q, rfl⟩
  ·rw [addL_nil s c]; rfl
  ·have hq := h q (by simp)
   by_cases c1 : q.f2 = s.f1 ∧ q.f0 = s.f0
   ·rw [addL_long r q s c c1.1 c1.2, colr_snoc, colr_snoc]
    show (if q.f1 ≤ p ∧ p < s.f2 then q.f0 else _) = _
    by_cases d1 : s.f1 ≤ p ∧ p < s.f2
    ·rw [if_pos d1, if_pos (by omega)]; exact c1.2
    ·rw [if_neg d1]
     by_cases d2 : q.f1 ≤ p ∧ p < q.f2
     ·rw [if_pos d2, if_pos (by omega)]
     ·rw [if_neg d2, if_neg (by omega)]
   ·rw [addL_more r q s c c1, show r ++ [q, s] = (r ++ [q]) ++ [s] by simp, colr_snoc]
 ·rw [addL_none o s (by omega), if_neg (by omega)]
theorem spansOk_snoc (n : Int) (p : Option S67) (xs : List S67) (s : S67) : spansOk n p (xs ++ [s]) = (spansOk n p xs && spanOk n (xs.getLast?.or p) s) := by
 induction xs generalizing p with
 | nil => simp [spansOk]
 | cons x r ih =>
  rw [List.cons_append, spansOk, spansOk, ih, Bool.and_assoc]
  cases r with
  | nil => simp
  | cons y r => rw [List.getLast?_cons_cons, List.getLast?_cons]; rfl
theorem spanOk_iff (n : Int) (p : Option S67) (s : S67) : spanOk n p s = true ↔ 0 < s.f0 ∧ 0 ≤ s.f1 ∧ s.f1 < s.f2 ∧ s.f2 ≤ n ∧ (∀ q, p = some q → q.f2 < s.f1 ∨ (q.f2 = s.f1 ∧ q.f0 ≠ s.f0)) := by
 unfold spanOk
 cases p with
 | none => simp [and_assoc]
 | some q => simp [and_assoc]
theorem addL_ok {n : Int} {o : List S67} {s : S67} (h : spansOk n none o = true) (hl : LastLe o s.f1) (h0 : 0 < s.f0) (h1 : 0 ≤ s.f1) (h2 : s.f2 ≤ n) : spansOk n none (addL o s) = true := by
 by_cases c : s.f1 < s.f2
 ·rcases snoc_cases o with rfl | ⟨r, q, rfl⟩
  ·rw [addL_nil s c]; simp only [spansOk, Bool.and_true]; rw [spanOk_iff]; exact ⟨h0, h1, c, h2, fun _ e => by cases e⟩
  ·have hq := hl q (by simp)
   have h' := h
   rw [spansOk_snoc, Bool.and_eq_true, spanOk_iff] at h'
   by_cases c1 : q.f2 = s.f1 ∧ q.f0 = s.f0
   ·rw [addL_long r q s c c1.1 c1.2, spansOk_snoc, Bool.and_eq_true, spanOk_iff]
    exact ⟨h'.1, h'.2.1, h'.2.2.1, by show q.f1 < s.f2; omega, h2, h'.2.2.2.2.2⟩
   ·rw [addL_more r q s c c1, show r ++ [q, s] = (r ++ [q]) ++ [s] by simp, spansOk_snoc, Bool.and_eq_true, spanOk_iff]
    refine ⟨h, h0, h1, c, h2, fun x hx => ?_⟩
    simp at hx
    subst hx
    by_cases e : q.f2 = s.f1
    ·exact .inr ⟨e, fun e2 => c1 ⟨e, e2⟩⟩
    ·exact .inl (by omega)
 ·rw [addL_none o s (by omega)]; exact h
/-- In right spans each one ends ahead of the last one's end. -/
theorem ok_lt {n : Int} {xs : List S67} (h : spansOk n none xs = true) {b : Int} (hl : LastLe xs b) : ∀ s ∈ xs, 0 < s.f0 ∧ 0 ≤ s.f1 ∧ s.f1 < s.f2 ∧ s.f2 ≤ b := by
 obtain ⟨k, hk⟩ : ∃ k, xs.length = k := ⟨_, rfl⟩
 induction k generalizing xs b with
 | zero => have : xs = [] := List.eq_nil_of_length_eq_zero hk; subst this; intro s hs; simp at hs
 | succ k ih =>
  rcases snoc_cases xs with rfl | ⟨r, q, rfl⟩
  ·simp at hk
  ·rw [spansOk_snoc, Bool.and_eq_true, spanOk_iff] at h
   have hq := hl q (by simp)
   obtain ⟨h1, h2, h3, h4, h5, h6⟩ := h
   have hl' : LastLe r q.f1 := by
    intro x hx
    have := h6 x (by simp [hx])
    have hx' : 0 < x.f0 ∧ 0 ≤ x.f1 ∧ x.f1 < x.f2 := by
     rcases snoc_cases r with rfl | ⟨r', y, rfl⟩
     ·simp at hx
     ·simp at hx; subst hx; rw [spansOk_snoc, Bool.and_eq_true, spanOk_iff] at h1; exact ⟨h1.2.1, h1.2.2.1, h1.2.2.2.1⟩
    exact ⟨hx'.2.2, by omega⟩
   intro s hs
   simp at hs
   rcases hs with hs | rfl
   ·have := ih h1 hl' (by simpa using hk) s hs; omega
   ·exact ⟨h2, h3, h4, hq.2⟩
theorem ok_last {n : Int} {xs : List S67} (h : spansOk n none xs = true) : LastLe xs n := by
 rcases snoc_cases xs with rfl | ⟨r, q, rfl⟩
 ·exact LastLe.nil _
 ·intro x hx; simp at hx; subst hx; rw [spansOk_snoc, Bool.and_eq_true, spanOk_iff] at h; exact ⟨h.2.2.2.1, h.2.2.2.2.1⟩
/-- The spans of letters, one behind the other. -/
def stepL (o : List S67) (i c : Int) : List S67 := if c = 0 then o else addL o ⟨c, i, i + 1⟩
def spansFrom (o : List S67) (i : Nat) : List Int → List S67
 | [] => o
 | c :: r => spansFrom (stepL o (i : Int) c) (i + 1) r
theorem spansFrom_snoc (o : List S67) (i : Nat) (l : List Int) (c : Int) : spansFrom o i (l ++ [c]) = stepL (spansFrom o i l) ((i + l.length : Nat) : Int) c := by
 induction l generalizing o i with
 | nil => rfl
 | cons x r ih => rw [List.cons_append, spansFrom, ih, spansFrom, List.length_cons]; congr 2; omega
/-- Spans up to a place. -/
def clip (S : List S67) (p : Int) : List S67 := (S.filter fun s => s.f1 < p).map fun s => ⟨s.f0, s.f1, min s.f2 p⟩
theorem clip_snoc (S : List S67) (s : S67) (p : Int) : clip (S ++ [s]) p = clip S p ++ if s.f1 < p then [⟨s.f0, s.f1, min s.f2 p⟩] else [] := by
 unfold clip; rw [List.filter_append, List.map_append]; congr 1
 by_cases c : s.f1 < p <;> simp [c]
theorem clip_all (S : List S67) (p : Int) (h : ∀ s ∈ S, s.f1 < s.f2 ∧ s.f2 ≤ p) : clip S p = S := by
 induction S with
 | nil => rfl
 | cons s r ih =>
  have h1 := h s (by simp)
  unfold clip at *
  rw [List.filter_cons_of_pos (by simp; omega), List.map_cons, ih fun t ht => h t (by simp [ht]), Int.min_eq_left h1.2]
theorem clip_step {n : Int} {S : List S67} (h : spansOk n none S = true) (p : Int) : stepL (clip S p) p (colr 0 S p) = clip S (p + 1) := by
 obtain ⟨k, hk⟩ : ∃ k, S.length = k := ⟨_, rfl⟩
 induction k generalizing S with
 | zero => have : S = [] := List.eq_nil_of_length_eq_zero hk; subst this; rfl
 | succ k ih =>
  rcases snoc_cases S with rfl | ⟨r, q, rfl⟩
  ·simp at hk
  ·have h' := h
   rw [spansOk_snoc, Bool.and_eq_true, spanOk_iff] at h
   obtain ⟨h1, h2, h3, h4, h5, h6⟩ := h
   have hl := ok_lt h' (ok_last h')
   have hr : ∀ s ∈ r, s.f1 < s.f2 ∧ s.f2 ≤ q.f1 := by
    have hlr : LastLe r q.f1 := by
     intro x hx
     have h7 := h6 x (by simp [hx])
     have := hl x (by simp [List.mem_of_getLast? hx])
     exact ⟨this.2.2.1, by omega⟩
    intro s hs
    have := ok_lt h1 hlr s hs
    exact ⟨this.2.2.1, this.2.2.2⟩
   rw [clip_snoc, clip_snoc, colr_snoc]
   by_cases c1 : p < q.f1
   ·rw [if_neg (by omega), if_neg (by omega), if_neg (by omega), List.append_nil, List.append_nil]
    exact ih h1 (by simpa using hk)
   ·have e1 : clip r p = r := clip_all r p fun s hs => by have := hr s hs; omega
    have e2 : clip r (p + 1) = r := clip_all r (p + 1) fun s hs => by have := hr s hs; omega
    rw [e1, e2]
    by_cases c2 : p < q.f2
    ·rw [if_pos (show q.f1 ≤ p ∧ p < q.f2 by omega), if_pos (show q.f1 < p + 1 by omega)]
     unfold stepL
     rw [if_neg (by omega)]
     by_cases c3 : q.f1 < p
     ·rw [if_pos c3, addL_long r ⟨q.f0, q.f1, min q.f2 p⟩ ⟨q.f0, p, p + 1⟩ (by show p < p + 1; omega) (by show min q.f2 p = p; omega) rfl, show min q.f2 (p + 1) = p + 1 by omega]
     ·have e : q.f1 = p := by omega
      rw [if_neg c3, List.append_nil]
      rw [show min q.f2 (p + 1) = p + 1 by omega]
      subst e
      rcases snoc_cases r with rfl | ⟨r', y, rfl⟩
      ·rw [addL_nil _ (by show q.f1 < q.f1 + 1; omega)]; rfl
      ·have := h6 y (by simp)
       rw [addL_more _ _ _ (by show q.f1 < q.f1 + 1; omega) (by show ¬ (y.f2 = q.f1 ∧ y.f0 = q.f0); omega)]
       simp
    ·rw [if_neg (show ¬ (q.f1 ≤ p ∧ p < q.f2) by omega), if_pos (show q.f1 < p by omega), if_pos (show q.f1 < p + 1 by omega)]
     rw [colr_out _ _ _ fun s hs => by have := hr s hs; omega]
     unfold stepL
     rw [if_pos rfl, Int.min_eq_left (by omega), Int.min_eq_left (by omega)]
theorem spans_uniq {n : Nat} {S : List S67} (h : spansOk (n : Int) none S = true) : spansFrom [] 0 ((List.range n).map fun i : Nat => colr 0 S (i : Int)) = S := by
 have key : ∀ k : Nat, spansFrom [] 0 ((List.range k).map fun i : Nat => colr 0 S (i : Int)) = clip S (k : Int) := by
  intro k
  induction k with
  | zero =>
   have hl := ok_lt h (ok_last h)
   unfold clip
   rw [List.filter_eq_nil_iff.2 fun s hs => by have := hl s hs; simp; omega]
   rfl
  | succ k ih =>
   rw [List.range_succ, List.map_append, List.map_cons, List.map_nil, spansFrom_snoc, ih, List.length_map, List.length_range, Nat.zero_add]
   exact clip_step h k
 rw [key]
 exact clip_all S _ fun s hs => by have := ok_lt h (ok_last h) s hs; omega
/-- Pieces of right spans, each laid behind the others by a map that keeps the order: right again; marks come along. -/
theorem pieces_ok {n n' : Int} (φ ψ : Int → Int) (g : ∀ p, 0 ≤ p → p < n' → ∀ x, 0 ≤ x → x ≤ n → (φ x ≤ p ↔ x ≤ ψ p)) (mono : ∀ x y, 0 ≤ x → x ≤ y → y ≤ n → φ x ≤ φ y) (lo : ∀ x, 0 ≤ x → x ≤ n → 0 ≤ φ x) (hi : ∀ x, 0 ≤ x → x ≤ n → φ x ≤ n')
  (S : List S67) (pv : Option S67) (hS : spansOk n pv S = true) (o : List S67) (b : Int) (ho : spansOk n' none o = true) (hl : LastLe o b) (hb : ∀ s, S.head? = some s → b ≤ φ s.f1) :
  spansOk n' none (S.foldl (fun o s => addL o ⟨s.f0, φ s.f1, φ s.f2⟩) o) = true ∧ (∀ b', b ≤ b' → (∀ s ∈ S, φ s.f2 ≤ b') → LastLe (S.foldl (fun o s => addL o ⟨s.f0, φ s.f1, φ s.f2⟩) o) b') ∧
  ∀ p, 0 ≤ p → p < n' → colr 0 (S.foldl (fun o s => addL o ⟨s.f0, φ s.f1, φ s.f2⟩) o) p = colr (colr 0 o p) S (ψ p) := by
 induction S generalizing o b pv with
 | nil => exact ⟨ho, fun b' h _ => hl.mono h, fun p _ _ => rfl⟩
 | cons s r ih =>
  rw [spansOk, Bool.and_eq_true, spanOk_iff] at hS
  obtain ⟨⟨h0, h1, h2, h3, h4⟩, hr⟩ := hS
  have hb' := hb s rfl
  have m1 := mono s.f1 s.f2 h1 (by omega) h3
  have l1 := lo s.f1 h1 (by omega)
  have l2 := hi s.f2 (by omega) h3
  have hl1 : LastLe o (φ s.f1) := hl.mono hb'
  have ok1 := addL_ok (n := n') (s := ⟨s.f0, φ s.f1, φ s.f2⟩) ho hl1 h0 l1 l2
  have la1 : LastLe (addL o ⟨s.f0, φ s.f1, φ s.f2⟩) (φ s.f2) := by
   have := addL_last (s := ⟨s.f0, φ s.f1, φ s.f2⟩) hl1
   refine this.mono ?_
   show (if φ s.f1 < φ s.f2 then φ s.f2 else φ s.f1) ≤ φ s.f2
   split <;> omega
  have hb2 : ∀ t, r.head? = some t → φ s.f2 ≤ φ t.f1 := by
   intro t ht
   cases r with
   | nil => simp at ht
   | cons t' r =>
    simp at ht; subst ht
    rw [spansOk, Bool.and_eq_true, spanOk_iff] at hr
    have := hr.1.2.2.2.2 s rfl
    exact mono _ _ (by omega) (by omega) (by omega)
  obtain ⟨a1, a2, a3⟩ := ih (some s) hr _ (φ s.f2) ok1 la1 hb2
  rw [List.foldl_cons]
  refine ⟨a1, fun b' h h' => a2 b' (h' s (by simp)) fun t ht => h' t (by simp [ht]), fun p hp0 hp => ?_⟩
  rw [a3 p hp0 hp, colr_cons, addL_colr hl1]
  show colr (if φ s.f1 ≤ p ∧ p < φ s.f2 then s.f0 else colr 0 o p) r (ψ p) = _
  have g1 := g p hp0 hp s.f1 h1 (by omega)
  have g2 := g p hp0 hp s.f2 (by omega) h3
  by_cases c : φ s.f1 ≤ p ∧ p < φ s.f2
  ·rw [if_pos c, if_pos ⟨g1.1 c.1, by have := mt g2.2; omega⟩]
  ·rw [if_neg c, if_neg fun c' => c ⟨g1.2 c'.1, by have := mt g2.1; omega⟩]
theorem map_congr_range {N : Nat} {f g : Nat → Int} (h : ∀ i, i < N → f i = g i) : (List.range N).map f = (List.range N).map g :=
 List.map_congr_left fun i hi => h i (List.mem_range.1 hi)
theorem take_range {N a : Nat} (h : a ≤ N) (f : Nat → Int) : ((List.range N).map f).take a = (List.range a).map f := by
 apply List.ext_getElem
 ·simp; omega
 ·intro i h1 h2; simp
theorem drop_range {N a : Nat} (f : Nat → Int) : ((List.range N).map f).drop a = (List.range (N - a)).map fun i => f (a + i) := by
 apply List.ext_getElem
 ·simp
 ·intro i h1 h2; simp
theorem ok_each {n : Int} {xs : List S67} (h : spansOk n none xs = true) : ∀ s ∈ xs, 0 < s.f0 ∧ 0 ≤ s.f1 ∧ s.f1 < s.f2 ∧ s.f2 ≤ n := ok_lt h (ok_last h)
theorem foldl_congr_mem {α σ : Type} {f g : σ → α → σ} (xs : List α) (h : ∀ s, ∀ x ∈ xs, f s x = g s x) (a : σ) : xs.foldl f a = xs.foldl g a := by
 induction xs generalizing a with
 | nil => rfl
 | cons x r ih => rw [List.foldl_cons, List.foldl_cons, h a x (by simp)]; exact ih (fun s y hy => h s y (by simp [hy])) _
theorem addL_same (o : List S67) (s t : S67) (h0 : s.f0 = t.f0) (h : s.f2 ≤ s.f1 ∧ t.f2 ≤ t.f1 ∨ s.f1 = t.f1 ∧ s.f2 = t.f2) : addL o s = addL o t := by
 rcases h with h | h
 ·rw [addL_none o s h.1, addL_none o t h.2]
 ·have : s = t := by cases s; cases t; simp_all
  rw [this]
theorem rd_snoc (r : List S67) (q : S67) : rd_T67 (r ++ [q]) (r.length : Int) = q := by
 have := rd_span (xs := r ++ [q]) (i := r.length) (by simp)
 rw [this]; simp
theorem set_snoc {α : Type} (r : List α) (q v : α) : (r ++ [q]).set ((r.length : Int)).toNat v = r ++ [v] := by simp
theorem addL_length (o : List S67) (s : S67) : (addL o s).length ≤ o.length + 1 := by
 by_cases c : s.f1 < s.f2
 ·rcases snoc_cases o with rfl | ⟨r, q, rfl⟩
  ·rw [addL_nil s c]; simp
  ·by_cases c1 : q.f2 = s.f1 ∧ q.f0 = s.f0
   ·rw [addL_long r q s c c1.1 c1.2]; simp
   ·rw [addL_more r q s c c1]; simp
 ·rw [addL_none o s (by omega)]; omega
theorem marks_add_eq (o : List S67) (m f t : Int) (hl : o.length < 5864062014805) : marks_add.f o m f t = some (addL o ⟨m, f, t⟩) := by
 unfold marks_add.f
 by_cases c : f ≥ t
 ·rw [if_pos c, addL_none _ _ c]
 ·rw [if_neg c]
  have c' : f < t := by omega
  rcases snoc_cases o with rfl | ⟨r, q, rfl⟩
  ·rw [if_neg (by simp), if_pos (by simp), addL_nil ⟨m, f, t⟩ c']; rfl
  ·have hlen : (r ++ [q]).length = r.length + 1 := by simp
   have hw : wrap64 (((r ++ [q]).length : Int) - 1) = (r.length : Int) := by unfold wrap64; omega
   rw [if_pos (by omega), hw, if_pos (by omega), if_pos (by omega), rd_snoc]
   by_cases c1 : q.f2 = f
   ·by_cases c2 : q.f0 = m
    ·rw [if_pos c1, if_pos c2, addL_long r q ⟨m, f, t⟩ c' c1 c2, set_snoc]
    ·rw [if_pos c1, if_neg c2, if_pos hl, addL_more r q ⟨m, f, t⟩ c' (fun h => c2 h.2)]; simp
   ·rw [if_neg c1, if_pos hl, addL_more r q ⟨m, f, t⟩ c' (fun h => c1 h.1)]; simp
theorem foldl_two {α σ τ : Type} (f : σ → α → σ) (g : τ → α → τ) (xs : List α) (a : σ) (b : τ) : xs.foldl (fun (s : σ × τ) x => (f s.1 x, g s.2 x)) (a, b) = (xs.foldl f a, xs.foldl g b) := by
 induction xs generalizing a b with
 | nil => rfl
 | cons x r ih => simp only [List.foldl_cons]; exact ih _ _
/-- What marks.Part tells. -/
def partA (at_ : Int) (xs : List S67) : List S67 := xs.foldl (fun o s => addL o ⟨s.f0, s.f1, mn s.f2 at_⟩) []
def partB (at_ : Int) (xs : List S67) : List S67 := xs.foldl (fun o s => addL o ⟨s.f0, mx (wrap64 (s.f1 - at_)) 0, wrap64 (s.f2 - at_)⟩) []
def sitesA (at_ : Int) (ys : List S70) : List S70 := (ys.filter fun y => decide (y.f1 ≤ at_))
def sitesB (at_ : Int) (ys : List S70) : List S70 := (ys.filter fun y => !decide (y.f1 ≤ at_)).map fun y => ⟨y.f0, wrap64 (y.f1 - at_)⟩
theorem marks_Part_l1 (at_ : Int) (A B : List S67) (ys : List S70) (hn : ys.length ≤ 8796093022208) : Ev (fun k => marks_Part.l1 k at_ ys (ys.length : Int) 0 A [] B []) (A, sitesA at_ ys, B, sitesB at_ ys) := by
 have h := ev_fold ys (fun (s : List S70 × List S70) i k => marks_Part.l1 k at_ ys (ys.length : Int) (i : Int) A s.1 B s.2) (fun s i => s.1.length ≤ i ∧ s.2.length ≤ i)
  (fun s y => (if decide (y.f1 ≤ at_) then s.1 ++ [y] else s.1, if !decide (y.f1 ≤ at_) then s.2 ++ [(⟨y.f0, wrap64 (y.f1 - at_)⟩ : S70)] else s.2)) (fun s i hi hI => by
  have w : wrap64 ((i : Int) + 1) = ((i + 1 : Nat) : Int) := wrap_succ (by omega)
  obtain ⟨hI1, hI2⟩ := hI
  by_cases c : (ys[i]).f1 ≤ at_
  ·have c' : decide ((ys[i]).f1 ≤ at_) = true := by simpa using c
   refine ⟨by simp only [c', if_true, Bool.not_true, Bool.false_eq_true, if_false, List.length_append, List.length_singleton]; omega, fun r hr => ev_next (fun k => ?_) hr⟩
   simp only [marks_Part.l1, c', if_true, Bool.not_true, Bool.false_eq_true, if_false]
   rw [if_pos (by omega), if_pos (by omega), if_pos (by omega), rd_site hi, if_pos c, if_pos (by omega), w]
  ·have c' : decide ((ys[i]).f1 ≤ at_) = false := by simpa using c
   refine ⟨by simp only [c', if_true, Bool.not_false, Bool.false_eq_true, if_false, List.length_append, List.length_singleton]; omega, fun r hr => ev_next (fun k => ?_) hr⟩
   simp only [marks_Part.l1, c', if_true, Bool.not_false, Bool.false_eq_true, if_false]
   rw [if_pos (by omega), if_pos (by omega), if_pos (by omega), rd_site hi, if_neg c, if_pos (by omega), w]) ([], []) 0 (by omega) (by simp)
 refine h.2 _ (ev_next (f := fun _ => some (A, sitesA at_ ys, B, sitesB at_ ys)) (fun k => ?_) (Ev.now _))
 simp only [marks_Part.l1]
 rw [if_neg (by omega), List.drop_zero, foldl_two (fun (s : List S70) (y : S70) => if decide (y.f1 ≤ at_) then s ++ [y] else s) (fun (s : List S70) (y : S70) => if !decide (y.f1 ≤ at_) then s ++ [(⟨y.f0, wrap64 (y.f1 - at_)⟩ : S70)] else s), foldl_filter (fun y : S70 => decide (y.f1 ≤ at_)) (fun y => y), foldl_filter (fun y : S70 => !decide (y.f1 ≤ at_)) (fun y => (⟨y.f0, wrap64 (y.f1 - at_)⟩ : S70))]
 simp only [List.nil_append, List.map_id', sitesA, sitesB]
theorem marks_Part_ev (at_ : Int) (xs : List S67) (ys : List S70) (hx : xs.length ≤ 5000000000000) (hn : ys.length ≤ 8796093022208) : Ev (fun k => marks_Part.f k xs ys at_) (partA at_ xs, sitesA at_ ys, partB at_ xs, sitesB at_ ys) := by
 have h := ev_fold xs (fun (s : List S67 × List S67) i k => marks_Part.l0 k at_ xs (xs.length : Int) (i : Int) xs ys s.1 s.2) (fun s i => s.1.length ≤ i ∧ s.2.length ≤ i)
  (fun s x => (addL s.1 ⟨x.f0, x.f1, mn x.f2 at_⟩, addL s.2 ⟨x.f0, mx (wrap64 (x.f1 - at_)) 0, wrap64 (x.f2 - at_)⟩)) (fun s i hi hI => by
  have w : wrap64 ((i : Int) + 1) = ((i + 1 : Nat) : Int) := wrap_succ (by omega)
  obtain ⟨hI1, hI2⟩ := hI
  refine ⟨⟨Nat.le_trans (addL_length _ _) (by omega), Nat.le_trans (addL_length _ _) (by omega)⟩, fun r hr => ev_next (fun k => ?_) hr⟩
  simp only [marks_Part.l0]
  rw [if_pos (by omega), if_pos (by omega), if_pos (by omega), rd_span hi, marks_add_eq _ _ _ _ (by omega), Option.bind_some, marks_add_eq _ _ _ _ (by omega), Option.bind_some, w]) ([], []) 0 (by omega) (by simp)
 refine h.2 _ (ev_next (fun k => ?_) (marks_Part_l1 at_ (partA at_ xs) (partB at_ xs) ys hn))
 simp only [marks_Part.l0]
 rw [if_neg (by omega), List.drop_zero, foldl_two (fun (s : List S67) (x : S67) => addL s ⟨x.f0, x.f1, mn x.f2 at_⟩) (fun (s : List S67) (x : S67) => addL s ⟨x.f0, mx (wrap64 (x.f1 - at_)) 0, wrap64 (x.f2 - at_)⟩)]
 rfl
def over (c : Int → Int) (a b m : Int) : Int → Int := fun p => if a ≤ p ∧ p < b then m else c p
theorem set_range {N : Nat} (c : Int → Int) (p : Nat) (m : Int) : ((List.range N).map fun i : Nat => c (i : Int)).set p m = (List.range N).map fun i : Nat => over c (p : Int) ((p : Int) + 1) m (i : Int) := by
 apply List.ext_getElem
 ·simp
 ·intro i h1 h2
  simp only [List.getElem_set, List.getElem_map, List.getElem_range, over]
  by_cases e : p = i
  ·rw [if_pos e, if_pos (by omega)]
  ·rw [if_neg e, if_neg (by omega)]
theorem over_over (c : Int → Int) (a b d m : Int) (h1 : a ≤ b) (h2 : b ≤ d) : over (over c a b m) b d m = over c a d m := by
 funext p
 unfold over
 by_cases e : b ≤ p ∧ p < d
 ·rw [if_pos e, if_pos (by omega)]
 ·rw [if_neg e]
  by_cases e2 : a ≤ p ∧ p < b
  ·rw [if_pos e2, if_pos (by omega)]
  ·rw [if_neg e2, if_neg (by omega)]
theorem ref_each_l1 (N : Nat) (hN : N ≤ 35184372088832) (xs : List S67) (ys : List S70) (i : Nat) (hi : i < xs.length) (hx : xs.length ≤ 5000000000000) (h2 : (xs[i]).f2 ≤ (N : Int)) (d : Nat) : ∀ (c : Int → Int) (p : Nat), (xs[i]).f2 - (p : Int) ≤ d → ∀ r,
  Ev (fun k => chancelref04_each.l0 k ((List.range N).map fun j : Nat => over c (p : Int) (xs[i]).f2 (xs[i]).f0 (j : Int)) ((i + 1 : Nat) : Int) xs ys) r →
  Ev (fun k => chancelref04_each.l1 k ((List.range N).map fun j : Nat => c (j : Int)) (i : Int) (p : Int) xs ys) r := by
 have w : wrap64 ((i : Int) + 1) = ((i + 1 : Nat) : Int) := wrap_succ (by omega)
 induction d with
 | zero =>
  intro c p hp r hr
  have e : over c (p : Int) (xs[i]).f2 (xs[i]).f0 = c := by funext q; unfold over; rw [if_neg (by omega)]
  rw [e] at hr
  exact ev_next (fun k => by simp only [chancelref04_each.l1]; rw [if_pos (by omega), if_pos (by omega), rd_span hi, if_neg (by omega), w]) hr
 | succ d ih =>
  intro c p hp r hr
  by_cases hlt : (p : Int) < (xs[i]).f2
  ·have w' : wrap64 ((p : Int) + 1) = ((p + 1 : Nat) : Int) := wrap_succ (by omega)
   have h := ih (over c (p : Int) ((p : Int) + 1) (xs[i]).f0) (p + 1) (by omega) r
   rw [show ((p + 1 : Nat) : Int) = (p : Int) + 1 by omega, over_over _ _ _ _ _ (by omega) (by omega)] at h
   refine ev_next (fun k => ?_) (h hr)
   simp only [chancelref04_each.l1]
   rw [if_pos (by omega), if_pos (by omega), rd_span hi, if_pos hlt, if_pos (by omega), if_pos (by simp; omega), Int.toNat_natCast, set_range, w']
   rfl
  ·have e : over c (p : Int) (xs[i]).f2 (xs[i]).f0 = c := by funext q; unfold over; rw [if_neg (by omega)]
   rw [e] at hr
   exact ev_next (fun k => by simp only [chancelref04_each.l1]; rw [if_pos (by omega), if_pos (by omega), rd_span hi, if_neg (by omega), w]) hr
theorem ref_each_ev (N : Nat) (hN : N ≤ 35184372088832) (xs : List S67) (ys : List S70) (hx : xs.length ≤ 5000000000000) (h : ∀ s ∈ xs, 0 ≤ s.f1 ∧ s.f2 ≤ (N : Int)) : Ev (fun k => chancelref04_each.f k xs ys (N : Int)) ((List.range N).map fun i : Nat => colr 0 xs (i : Int)) := by
 have hf := ev_fold xs (fun (c : Int → Int) i k => chancelref04_each.l0 k ((List.range N).map fun j : Nat => c (j : Int)) (i : Int) xs ys) (fun _ _ => True) (fun c s => over c s.f1 s.f2 s.f0) (fun c i hi hI => by
  refine ⟨trivial, fun r hr => ?_⟩
  have hs := h (xs[i]) (List.getElem_mem hi)
  obtain ⟨p, hp⟩ := Int.eq_ofNat_of_zero_le hs.1
  refine ev_next (fun k => ?_) (ref_each_l1 N hN xs ys i hi hx hs.2 ((xs[i]).f2 - (p : Int)).toNat c p (by omega) r (by rw [hp] at hr; exact hr))
  simp only [chancelref04_each.l0]
  rw [if_pos (by omega), if_pos (by omega), rd_span hi, hp]) (fun _ => 0) 0 (by omega) trivial
 have e : ∀ (l : List S67) (c : Int → Int), l.foldl (fun c s => over c s.f1 s.f2 s.f0) c = fun p => colr (c p) l p := by
  intro l
  induction l with
  | nil => intro c; rfl
  | cons s r ih => intro c; rw [List.foldl_cons, ih]; rfl
 unfold chancelref04_each.f
 have h0 : List.replicate ((N : Int)).toNat (0 : Int) = (List.range N).map fun j : Nat => (0 : Int) := by
  apply List.ext_getElem <;> simp
 refine Ev.congr (f := fun k => chancelref04_each.l0 k ((List.range N).map fun j : Nat => (0 : Int)) ((0 : Nat) : Int) xs ys) (fun k => by rw [if_pos (by omega), if_pos (by simpa using hN), h0]; rfl) (hf.2 _ ?_)
 rw [List.drop_zero, e]
 exact ev_next (f := fun _ => some _) (fun k => by simp only [chancelref04_each.l0]; rw [if_neg (by omega)]) (Ev.now _)
theorem ref_spans_l0 (l : List Int) (hn : l.length ≤ 5864062014804) (d : Nat) : ∀ (i : Nat) (o : List S67), l.length - i = d → i ≤ l.length → o.length ≤ i → Ev (fun k => chancelref04_spans.l0 k l o (i : Int)) (spansFrom o i (l.drop i)) := by
 induction d with
 | zero =>
  intro i o hd hi ho
  rw [List.drop_of_length_le (by omega)]
  exact ev_next (f := fun _ => some o) (fun k => by simp only [chancelref04_spans.l0]; rw [if_neg (by omega)]) (Ev.now _)
 | succ d ih =>
  intro i o hd hi ho
  have hlt : i < l.length := by omega
  have hr := rd_num hlt
  have w : wrap64 ((i : Int) + 1) = ((i + 1 : Nat) : Int) := wrap_succ (by omega)
  have hl := addL_length o ⟨l[i], (i : Int), (i : Int) + 1⟩
  have h := fun o' ho' => ih (i + 1) o' (by omega) (by omega) ho'
  rw [List.drop_eq_getElem_cons hlt, spansFrom]
  generalize hc : l[i] = c at hr hl
  unfold stepL
  by_cases c0 : c = 0
  ·rw [if_pos c0]
   refine ev_next (fun k => ?_) (h o (by omega))
   simp only [chancelref04_spans.l0]
   rw [if_pos (by omega), if_pos (by omega), hr, if_pos c0, w]
  ·rw [if_neg c0]
   refine ev_next (fun k => ?_) (h _ (by omega))
   simp only [chancelref04_spans.l0]
   rw [if_pos (by omega), if_pos (by omega), hr, if_neg c0]
   rcases snoc_cases o with rfl | ⟨r, q, rfl⟩
   ·rw [if_neg (by simp), if_pos (by simp), addL_nil _ (by show (i : Int) < (i : Int) + 1; omega), w]; rfl
   ·have hlen : (r ++ [q]).length = r.length + 1 := by simp
    have hw : wrap64 (((r ++ [q]).length : Int) - 1) = (r.length : Int) := by unfold wrap64; omega
    rw [if_pos (by omega), hw, if_pos (by omega), if_pos (by omega), rd_snoc, w]
    by_cases c1 : q.f2 = (i : Int)
    ·by_cases c2 : q.f0 = c
     ·rw [if_pos c1, if_pos c2, addL_long r q ⟨c, (i : Int), (i : Int) + 1⟩ (by show (i : Int) < (i : Int) + 1; omega) c1 c2, set_snoc]; rfl
     ·rw [if_pos c1, if_neg c2, if_pos (by omega), addL_more r q ⟨c, (i : Int), (i : Int) + 1⟩ (by show (i : Int) < (i : Int) + 1; omega) (fun h => c2 h.2)]; simp
    ·rw [if_neg c1, if_pos (by omega), addL_more r q ⟨c, (i : Int), (i : Int) + 1⟩ (by show (i : Int) < (i : Int) + 1; omega) (fun h => c1 h.1)]; simp
theorem ref_spans_ev (l : List Int) (hn : l.length ≤ 5864062014804) : Ev (fun k => chancelref04_spans.f k l) (spansFrom [] 0 l) := by
 have := ref_spans_l0 l hn l.length 0 [] (by omega) (by omega) (by simp)
 exact this
def siteIs (s y : S70) : Bool := y.f0 == s.f0 && (y.f1 == s.f1)
def siteGt (s y : S70) : Bool := decide (y.f1 > s.f1) || (decide (y.f1 = s.f1) && decide (y.f0 > s.f0))
def insS (s : S70) : List S70 → List S70
 | [] => [s]
 | y :: r => if siteGt s y then s :: y :: r else y :: insS s r
/-- A site in its place, once. -/
def siteL (l : List S70) (s : S70) : List S70 := if l.any (siteIs s) then l else insS s l
theorem insS_length (s : S70) (l : List S70) : (insS s l).length = l.length + 1 := by
 induction l with
 | nil => rfl
 | cons y r ih => rw [insS]; split <;> simp [ih]
theorem siteL_length (l : List S70) (s : S70) : (siteL l s).length ≤ l.length + 1 := by
 unfold siteL; split
 ·omega
 ·rw [insS_length]; omega
theorem ref_site_l0 (l : List S70) (s : S70) (hn : l.length < 8796093022208) (d : Nat) : ∀ (i : Nat) (o : List S70), l.length - i = d → i ≤ l.length →
  (o.length ≤ i → Ev (fun k => chancelref04_site.l0 k l o false (i : Int) s.f0 s.f1) (if (l.drop i).any (siteIs s) then l else o ++ insS s (l.drop i))) ∧
  (o.length ≤ i + 1 → Ev (fun k => chancelref04_site.l0 k l o true (i : Int) s.f0 s.f1) (if (l.drop i).any (siteIs s) then l else o ++ l.drop i)) := by
 induction d with
 | zero =>
  intro i o hd hi
  rw [List.drop_of_length_le (by omega)]
  refine ⟨fun ho => ev_next (f := fun _ => some (o ++ [s])) (fun k => ?_) (Ev.now _), fun ho => ev_next (f := fun _ => some o) (fun k => ?_) (by simpa using Ev.now o)⟩
  ·simp only [chancelref04_site.l0, Bool.false_eq_true, if_false, if_true]; rw [if_neg (by omega), if_pos (by omega)]
  ·simp only [chancelref04_site.l0, Bool.false_eq_true, if_false, if_true]; rw [if_neg (by omega)]
 | succ d ih =>
  intro i o hd hi
  have hlt : i < l.length := by omega
  have hr := rd_site hlt
  have w : wrap64 ((i : Int) + 1) = ((i + 1 : Nat) : Int) := wrap_succ (by omega)
  have h := fun o' => ih (i + 1) o' (by omega) (by omega)
  rw [List.drop_eq_getElem_cons hlt, List.any_cons]
  generalize hy : l[i] = y at hr
  by_cases c0 : siteIs s y = true
  ·rw [c0, Bool.true_or, if_pos rfl]
   have c0' : (y.f0 == s.f0 && (y.f1 == s.f1)) = true := c0
   refine ⟨fun ho => ev_next (f := fun _ => some l) (fun k => ?_) (Ev.now _), fun ho => ev_next (f := fun _ => some l) (fun k => ?_) (Ev.now _)⟩
   ·simp only [chancelref04_site.l0, Bool.false_eq_true, if_false, if_true]; rw [if_pos (by omega), if_pos (by omega), hr, if_pos c0']
   ·simp only [chancelref04_site.l0, Bool.false_eq_true, if_false, if_true]; rw [if_pos (by omega), if_pos (by omega), hr, if_pos c0']
  ·have c0f : siteIs s y = false := by simpa using c0
   have c0' : ¬ (y.f0 == s.f0 && (y.f1 == s.f1)) = true := c0
   rw [c0f, Bool.false_or]
   refine ⟨fun ho => ?_, fun ho => ?_⟩
   ·rw [insS]
    by_cases c1 : y.f1 > s.f1
    ·have g : siteGt s y = true := by simp [siteGt, c1]
     rw [if_pos g]
     have h2 := (h (o ++ [s] ++ [y])).2 (by simp; omega)
     rw [show o ++ [s] ++ [y] ++ l.drop (i + 1) = o ++ s :: y :: l.drop (i + 1) by simp] at h2
     refine ev_next (fun k => ?_) h2
     simp only [chancelref04_site.l0, Bool.false_eq_true, if_false, if_true]; rw [if_pos (by omega), if_pos (by omega), hr, if_neg c0', if_pos c1, if_pos (by omega), Option.bind_some, if_pos (by simp; omega), w]
    ·by_cases c2 : y.f1 = s.f1
     ·by_cases c3 : y.f0 > s.f0
      ·have g : siteGt s y = true := by simp [siteGt, c2, c3]
       rw [if_pos g]
       have h2 := (h (o ++ [s] ++ [y])).2 (by simp; omega)
       rw [show o ++ [s] ++ [y] ++ l.drop (i + 1) = o ++ s :: y :: l.drop (i + 1) by simp] at h2
       refine ev_next (fun k => ?_) h2
       simp only [chancelref04_site.l0, Bool.false_eq_true, if_false, if_true]; rw [if_pos (by omega), if_pos (by omega), hr, if_neg c0', if_neg c1, if_pos c2, if_pos c3, if_pos (by omega), Option.bind_some, if_pos (by simp; omega), w]
      ·have g : siteGt s y = false := by simp [siteGt]; omega
       simp only [g, Bool.false_eq_true, if_false]
       have h2 := (h (o ++ [y])).1 (by simp; omega)
       rw [show o ++ [y] ++ insS s (l.drop (i + 1)) = o ++ y :: insS s (l.drop (i + 1)) by simp] at h2
       refine ev_next (fun k => ?_) h2
       simp only [chancelref04_site.l0, Bool.false_eq_true, if_false, if_true]; rw [if_pos (by omega), if_pos (by omega), hr, if_neg c0', if_neg c1, if_pos c2, if_neg c3, if_pos (by omega), w]
     ·have g : siteGt s y = false := by simp [siteGt]; omega
      simp only [g, Bool.false_eq_true, if_false]
      have h2 := (h (o ++ [y])).1 (by simp; omega)
      rw [show o ++ [y] ++ insS s (l.drop (i + 1)) = o ++ y :: insS s (l.drop (i + 1)) by simp] at h2
      refine ev_next (fun k => ?_) h2
      simp only [chancelref04_site.l0, Bool.false_eq_true, if_false, if_true]; rw [if_pos (by omega), if_pos (by omega), hr, if_neg c0', if_neg c1, if_neg c2, if_pos (by omega), w]
   ·have h2 := (h (o ++ [y])).2 (by simp; omega)
    rw [show o ++ [y] ++ l.drop (i + 1) = o ++ y :: l.drop (i + 1) by simp] at h2
    refine ev_next (fun k => ?_) h2
    simp only [chancelref04_site.l0, Bool.false_eq_true, if_false, if_true]; rw [if_pos (by omega), if_pos (by omega), hr, if_neg c0', if_pos (by omega), w]
theorem ref_site_ev (l : List S70) (s : S70) (hn : l.length < 8796093022208) : Ev (fun k => chancelref04_site.f k l s.f0 s.f1) (siteL l s) := by
 have := (ref_site_l0 l s hn l.length 0 [] (by omega) (by omega)).1 (by simp)
 rw [List.drop_zero, List.nil_append] at this
 exact this
/-- A site behind all others: at the end. -/
def siteLt (x y : S70) : Prop := x.f1 < y.f1 ∨ (x.f1 = y.f1 ∧ x.f0 < y.f0)
theorem siteOk_iff (n : Int) (p : Option S70) (s : S70) : siteOk n p s = true ↔ 0 < s.f0 ∧ 0 ≤ s.f1 ∧ s.f1 ≤ n ∧ (∀ q, p = some q → siteLt q s) := by
 unfold siteOk siteLt
 cases p with
 | none => simp [and_assoc]
 | some q => simp [and_assoc]
theorem siteLt_trans {x y z : S70} (h : siteLt x y) (k : siteLt y z) : siteLt x z := by unfold siteLt at *; omega
/-- Right sites: each one right, each one ahead of those behind it. -/
theorem sitesOk_iff (n : Int) (p : Option S70) (ys : List S70) : sitesOk n p ys = true ↔ (∀ s ∈ ys, 0 < s.f0 ∧ 0 ≤ s.f1 ∧ s.f1 ≤ n) ∧ ys.Pairwise siteLt ∧ (∀ q, p = some q → ∀ s ∈ ys, siteLt q s) := by
 induction ys generalizing p with
 | nil => simp [sitesOk]
 | cons s r ih =>
  rw [sitesOk, Bool.and_eq_true, siteOk_iff, ih]
  constructor
  ·rintro ⟨⟨h1, h2, h3, h4⟩, h5, h6, h7⟩
   refine ⟨fun t ht => ?_, List.pairwise_cons.2 ⟨h7 s rfl, h6⟩, fun q hq t ht => ?_⟩
   ·simp at ht
    rcases ht with rfl | ht
    ·exact ⟨h1, h2, h3⟩
    ·exact h5 t ht
   ·simp at ht
    rcases ht with rfl | ht
    ·exact h4 q hq
    ·exact siteLt_trans (h4 q hq) (h7 s rfl t ht)
  ·rintro ⟨h1, h2, h3⟩
   have h4 := List.pairwise_cons.1 h2
   have h5 := h1 s (by simp)
   exact ⟨⟨h5.1, h5.2.1, h5.2.2, fun q hq => h3 q hq s (by simp)⟩, fun t ht => h1 t (by simp [ht]), h4.2, fun q hq t ht => by injection hq with hq; subst hq; exact h4.1 t ht⟩
/-- Part's spans: right, and of the marks that stand there. -/
theorem partA_ok {n a : Int} {xs : List S67} (h : spansOk n none xs = true) (h0 : 0 ≤ a) (h1 : a ≤ n) :
  spansOk a none (partA a xs) = true ∧ ∀ p, 0 ≤ p → p < a → colr 0 (partA a xs) p = colr 0 xs p := by
 have k := pieces_ok (n := n) (n' := a) (fun x => min x a) (fun p => p) (fun p _ hp x _ _ => by show min x a ≤ p ↔ x ≤ p; omega) (fun x y _ hxy _ => by show min x a ≤ min y a; omega) (fun x hx _ => by show 0 ≤ min x a; omega) (fun x _ _ => by show min x a ≤ a; omega)
  xs none h [] 0 rfl (LastLe.nil _) (fun s hs => by have := ok_each h s (List.mem_of_head? hs); show 0 ≤ min s.f1 a; omega)
 have e : partA a xs = xs.foldl (fun o s => addL o ⟨s.f0, min s.f1 a, min s.f2 a⟩) [] := by
  unfold partA
  refine foldl_congr_mem (g := fun o s => addL o ⟨s.f0, min s.f1 a, min s.f2 a⟩) xs (fun o s hs => addL_same o ⟨s.f0, s.f1, mn s.f2 a⟩ ⟨s.f0, min s.f1 a, min s.f2 a⟩ rfl ?_) _
  have hm : mn s.f2 a = min s.f2 a := by unfold mn; split <;> omega
  show mn s.f2 a ≤ s.f1 ∧ min s.f2 a ≤ min s.f1 a ∨ s.f1 = min s.f1 a ∧ mn s.f2 a = min s.f2 a
  rw [hm]
  have := ok_each h s hs
  omega
 rw [e]
 exact ⟨k.1, k.2.2⟩
theorem partB_ok {n a : Int} {xs : List S67} (h : spansOk n none xs = true) (h0 : 0 ≤ a) (h1 : a ≤ n) (hn : n ≤ 2000) :
  spansOk (n - a) none (partB a xs) = true ∧ ∀ p, 0 ≤ p → p < n - a → colr 0 (partB a xs) p = colr 0 xs (a + p) := by
 have k := pieces_ok (n := n) (n' := n - a) (fun x => max (x - a) 0) (fun p => a + p) (fun p _ hp x _ _ => by show max (x - a) 0 ≤ p ↔ x ≤ a + p; omega) (fun x y _ hxy _ => by show max (x - a) 0 ≤ max (y - a) 0; omega) (fun x hx _ => by show 0 ≤ max (x - a) 0; omega) (fun x _ _ => by show max (x - a) 0 ≤ n - a; omega)
  xs none h [] 0 rfl (LastLe.nil _) (fun s hs => by show 0 ≤ max (s.f1 - a) 0; omega)
 have e : partB a xs = xs.foldl (fun o s => addL o ⟨s.f0, max (s.f1 - a) 0, max (s.f2 - a) 0⟩) [] := by
  unfold partB
  refine foldl_congr_mem (g := fun o s => addL o ⟨s.f0, max (s.f1 - a) 0, max (s.f2 - a) 0⟩) xs (fun o s hs => addL_same o ⟨s.f0, mx (wrap64 (s.f1 - a)) 0, wrap64 (s.f2 - a)⟩ ⟨s.f0, max (s.f1 - a) 0, max (s.f2 - a) 0⟩ rfl ?_) _
  have := ok_each h s hs
  have hm : mx (wrap64 (s.f1 - a)) 0 = max (s.f1 - a) 0 := by rw [wrap_id (by omega) (by omega)]; unfold mx; split <;> omega
  have hw : wrap64 (s.f2 - a) = s.f2 - a := wrap_id (by omega) (by omega)
  show wrap64 (s.f2 - a) ≤ mx (wrap64 (s.f1 - a)) 0 ∧ max (s.f2 - a) 0 ≤ max (s.f1 - a) 0 ∨ mx (wrap64 (s.f1 - a)) 0 = max (s.f1 - a) 0 ∧ wrap64 (s.f2 - a) = max (s.f2 - a) 0
  rw [hm, hw]
  omega
 rw [e]
 exact ⟨k.1, k.2.2⟩
def mrCmp (a b : Int) : Int := if a < b then -1 else if a > b then 1 else 0
theorem mr_compare1 (a b : Int) : cmp_Compare_int.f a b = some (mrCmp a b) := by
 unfold cmp_Compare_int.f cmp_isNaN_int.f mrCmp
 simp only [Option.bind_some, bne_self_eq_false, Bool.false_eq_true, if_false]
 split
 ·rfl
 ·split <;> rfl
theorem mr_or (p q : Int) : Ev (fun k => cmp_Or_int.f k [p, q]) (if p = 0 then q else p) := by
 refine Ev.of (cmp_Or_int.mono _) (k := 4) ?_
 unfold cmp_Or_int.f
 have w1 : wrap64 (0 + 1) = 1 := by decide +kernel
 have w2 : wrap64 (1 + 1) = 2 := by decide +kernel
 have r0 : rd [p, q] 0 = p := rfl
 have r1 : rd [p, q] 1 = q := rfl
 have l0 : (([p, q] : List Int).length : Int) = 2 := rfl
 simp only [cmp_Or_int.l0, l0]
 rw [if_pos (by decide), if_pos (by decide), if_pos (by decide), r0, w1]
 by_cases hp : p = 0
 ·rw [if_pos hp, if_pos hp, if_pos (by decide), if_pos (by decide), if_pos (by decide), r1, w2]
  by_cases hq : q = 0
  ·rw [if_pos hq, if_neg (by decide), hq]
  ·rw [if_neg hq]
 ·rw [if_neg hp, if_neg hp]
/-- compare, as it is. -/
theorem mr_compare (m a m' a' : Int) : Ev (fun k => marks_compare.f k m a m' a') (if mrCmp a a' = 0 then mrCmp m m' else mrCmp a a') := by
 unfold marks_compare.f
 simp only [mr_compare1, Option.bind_some]
 exact Ev.bind (mr_or _ _) (Ev.now _)
theorem mr_compare_sign (m a m' a' : Int) : (if mrCmp a a' = 0 then mrCmp m m' else mrCmp a a') ≥ 0 ↔ ¬ (a < a' ∨ a = a' ∧ m < m') := by
 unfold mrCmp
 repeat' split
 all_goals omega

end Go.Proofs.YtjphmebhofkhcaaDoor.Pure
