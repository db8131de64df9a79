/- Marks, in plain Lean: which are right. Conditions: the sizes that every row has. -/
import Derived.Test.YtlcfhmnjdkhkoaaDoorPViewRunsx0
import Derived.Test.YtlcfhmnjdkhkoaaDoorPViewRunsx1
import Derived.Test.YtlcfhmnjdkhkoaaDoorPViewRunsx2
import Derived.Test.YtlcfhmnjdkhkoaaDoorPViewRunsx3
import Derived.Test.YtlcfhmnjdkhkoaaDoorPViewRunsx4
import Derived.Test.YtlcfhmnjdkhkoaaDoorPViewRunsx5
import Derived.Test.YtlcfhmnjdkhkoaaDoorPViewRunsx6
import Derived.Test.YtlcfhmnjdkhkoaaDoorPViewRunsx7
import Derived.Test.YtlcfhmnjdkhkoaaDoorPl
import Derived.Test.YtlcfhmnjdkhkoaaDoorGB
import Derived.BigQuiet
import Derived.Deep.DeepCutAuto
namespace Go.Proofs.YtlcfhmnjdkhkoaaDoor.Pure
open Go.RowKit Go.Proofs.YtlcfhmnjdkhkoaaDoorPl Go.Proofs.YtlcfhmnjdkhkoaaDoor.PViewRuns Go.Proofs.YtlcfhmnjdkhkoaaDoorW.PrintWords Go.Proofs.YtlcfhmnjdkhkoaaDoorW.PrintLast Go.Proofs.YtlcfhmnjdkhkoaaDoorW.PrintMore
set_option linter.unusedSimpArgs false
set_option linter.unusedVariables false
theorem rd_span {xs : List S78} {i : Nat} (h : i < xs.length) : rd_T78 xs (i : Int) = xs[i] := by
  unfold rd_T78
  rw [List.getD_eq_getElem?_getD, Int.toNat_natCast, List.getElem?_eq_getElem h]
  rfl
theorem rd_site {xs : List S81} {i : Nat} (h : i < xs.length) : rd_T81 xs (i : Int) = xs[i] := by
  unfold rd_T81
  rw [List.getD_eq_getElem?_getD, Int.toNat_natCast, List.getElem?_eq_getElem h]
  rfl
theorem rd_num {xs : List Int} {i : Nat} (h : i < xs.length) : rd xs (i : Int) = xs[i] := by
  unfold rd
  rw [List.getD_eq_getElem?_getD, Int.toNat_natCast, List.getElem?_eq_getElem h]
  rfl
/-- What Of tells. -/
def ofSpans (xs : List S78) (m : Int) : List S78 := xs.filter fun x => x.f0 == m
def ofSites (ys : List S81) (m : Int) : List Int := (ys.filter fun x => x.f0 == m).map fun x => x.f1
def dropSpans (xs : List S78) (m : Int) : List S78 := xs.filter fun x => !(x.f0 == m)
def dropSites (ys : List S81) (m : Int) : List S81 := ys.filter fun x => !(x.f0 == m)
/-- Is a span right behind another one (if there is one)? -/
def spanOk (n : Int) (p : Option S78) (s : S78) : Bool :=
  decide (0 < s.f0) && decide (0 ≤ s.f1) && decide (s.f1 < s.f2) && decide (s.f2 ≤ n) && (match p with | none => true | some q => decide (q.f2 < s.f1) || (decide (q.f2 = s.f1) && decide (q.f0 ≠ s.f0)))
def spansOk (n : Int) : Option S78 → List S78 → Bool
  | _, [] => true
  | p, s :: r => spanOk n p s && spansOk n (some s) r
def siteOk (n : Int) (p : Option S81) (s : S81) : Bool :=
  decide (0 < s.f0) && decide (0 ≤ s.f1) && decide (s.f1 ≤ n) && (match p with | none => true | some q => decide (q.f1 < s.f1) || (decide (q.f1 = s.f1) && decide (q.f0 < s.f0)))
def sitesOk (n : Int) : Option S81 → List S81 → Bool
  | _, [] => true
  | p, s :: r => siteOk n p s && sitesOk n (some s) r
def rightB (n : Int) (xs : List S78) (ys : List S81) : Bool := spansOk n none xs && sitesOk n none ys
/-- The element ahead of i. -/
def ahead {α : Type} (xs : List α) (i : Nat) : Option α := if i = 0 then none else xs[i - 1]?
theorem ahead_succ {α : Type} {xs : List α} {i : Nat} (h : i < xs.length) : ahead xs (i + 1) = some xs[i] := by simp [ahead, List.getElem?_eq_getElem h]
theorem ahead_pos {α : Type} {xs : List α} {i : Nat} (h0 : 0 < i) (h : i < xs.length) : ahead xs i = some (xs[i - 1]'(by omega)) := by
  unfold ahead
  rw [if_neg (by omega), List.getElem?_eq_getElem (by omega)]
theorem wrap_pred {i : Nat} (h0 : 0 < i) (h : i < 9223372036854775807) : wrap64 ((i : Int) - 1) = ((i - 1 : Nat) : Int) := by unfold wrap64; omega
theorem ref_Right_l1 (n : Int) (xs : List S78) (ys : List S81) (hn : ys.length ≤ 140737488351232) (d : Nat) : ∀ i : Nat, ys.length - i = d → i ≤ ys.length →
    Ev (fun k => chancelref04_Right.l1 k n (i : Int) xs ys) (sitesOk n (ahead ys i) (ys.drop i)) := by
  induction d with
  | zero =>
    intro i hd hi
    rw [List.drop_of_length_le (by omega)]
    exact ev_next (f := fun _ => some true) (fun k => by simp only [chancelref04_Right.l1]; rw [if_neg (by omega)]) (Ev.now _)
  | succ d ih =>
    intro i hd hi
    have hlt : i < ys.length := by omega
    have hr := rd_site hlt
    have w : wrap64 ((i : Int) + 1) = ((i + 1 : Nat) : Int) := wrap_succ (by omega)
    have h := ih (i + 1) (by omega) (by omega)
    rw [ahead_succ hlt] at h
    rw [List.drop_eq_getElem_cons hlt]
    generalize hs : ys[i] = s at hr h
    have key : ∀ b : Bool, Ev (fun k => chancelref04_Right.j3 k n (i : Int) b xs ys s.f0 s.f1) (!b && (match ahead ys i with | none => true | some q => decide (q.f1 < s.f1) || (decide (q.f1 = s.f1) && decide (q.f0 < s.f0))) && sitesOk n (some s) (ys.drop (i + 1))) := by
      intro b
      cases b with
      | true => exact ev_next (f := fun _ => some false) (fun k => by simp only [chancelref04_Right.j3, if_true]) (Ev.now _)
      | false =>
        by_cases h0 : i = 0
        · subst h0
          have e : ahead ys 0 = none := rfl
          rw [e]
          simp only [Bool.not_false, Bool.true_and]
          exact ev_next (fun k => by simp only [chancelref04_Right.j3, Bool.false_eq_true, if_false]; rw [if_neg (by omega), w]) h
        · have w' := wrap_pred (i := i) (by omega) (by omega)
          have hq := rd_site (xs := ys) (i := i - 1) (by omega)
          rw [ahead_pos (by omega) hlt]
          generalize ys[i - 1] = q at hq
          simp only [Bool.not_false, Bool.true_and]
          by_cases c1 : s.f1 < q.f1
          · have e : (decide (q.f1 < s.f1) || (decide (q.f1 = s.f1) && decide (q.f0 < s.f0))) = false := by simp; omega
            rw [e]
            exact ev_next (f := fun _ => some false) (fun k => by simp only [chancelref04_Right.j3, Bool.false_eq_true, if_false]; rw [if_pos (by omega), w', if_pos (by omega), if_pos (by omega), hq, if_pos c1]) (Ev.now _)
          · by_cases c2 : s.f1 = q.f1
            · by_cases c3 : s.f0 ≤ q.f0
              · have e : (decide (q.f1 < s.f1) || (decide (q.f1 = s.f1) && decide (q.f0 < s.f0))) = false := by simp; omega
                rw [e]
                exact ev_next (f := fun _ => some false) (fun k => by simp only [chancelref04_Right.j3, Bool.false_eq_true, if_false]; rw [if_pos (by omega), w', if_pos (by omega), if_pos (by omega), hq, if_neg c1, if_pos c2, if_pos c3]) (Ev.now _)
              · have e : (decide (q.f1 < s.f1) || (decide (q.f1 = s.f1) && decide (q.f0 < s.f0))) = true := by simp; omega
                rw [e, Bool.true_and]
                exact ev_next (fun k => by simp only [chancelref04_Right.j3, Bool.false_eq_true, if_false]; rw [if_pos (by omega), w', if_pos (by omega), if_pos (by omega), hq, if_neg c1, if_pos c2, if_neg c3, w]) h
            · have e : (decide (q.f1 < s.f1) || (decide (q.f1 = s.f1) && decide (q.f0 < s.f0))) = true := by simp; omega
              rw [e, Bool.true_and]
              exact ev_next (fun k => by simp only [chancelref04_Right.j3, Bool.false_eq_true, if_false]; rw [if_pos (by omega), w', if_pos (by omega), if_pos (by omega), hq, if_neg c1, if_neg c2, w]) h
    have go : ∀ (b : Bool) (e : sitesOk n (ahead ys i) (s :: ys.drop (i + 1)) = (!b && (match ahead ys i with | none => true | some q => decide (q.f1 < s.f1) || (decide (q.f1 = s.f1) && decide (q.f0 < s.f0))) && sitesOk n (some s) (ys.drop (i + 1)))) (st : ∀ k, chancelref04_Right.l1 (k + 1) n (i : Int) xs ys = chancelref04_Right.j3 k n (i : Int) b xs ys s.f0 s.f1),
        Ev (fun k => chancelref04_Right.l1 k n (i : Int) xs ys) (sitesOk n (ahead ys i) (s :: ys.drop (i + 1))) := fun b e st => by
      rw [e]
      exact ev_next st (key b)
    by_cases c1 : s.f0 ≤ 0
    · exact go true (by simp only [sitesOk, siteOk]; rw [decide_eq_false (by omega)]; simp) (fun k => by simp only [chancelref04_Right.l1]; rw [if_pos (by omega), if_pos (by omega), hr, if_pos c1])
    · by_cases c2 : s.f1 < 0
      · exact go true (by simp only [sitesOk, siteOk]; rw [decide_eq_false (p := 0 ≤ s.f1) (by omega)]; simp) (fun k => by simp only [chancelref04_Right.l1]; rw [if_pos (by omega), if_pos (by omega), hr, if_neg c1, if_pos c2])
      · have e3 : decide (s.f1 ≤ n) = !decide (s.f1 > n) := by
          by_cases h : s.f1 > n
          · rw [decide_eq_true h, decide_eq_false (by omega)]; rfl
          · rw [decide_eq_false h, decide_eq_true (by omega)]; rfl
        refine go (decide (s.f1 > n)) (by simp only [sitesOk, siteOk]; rw [decide_eq_true (p := 0 < s.f0) (by omega), decide_eq_true (p := 0 ≤ s.f1) (by omega), e3]; simp only [Bool.true_and]) (fun k => by simp only [chancelref04_Right.l1]; rw [if_pos (by omega), if_pos (by omega), hr, if_neg c1, if_neg c2])
theorem ref_Right_l0 (n : Int) (xs : List S78) (ys : List S81) (hm : xs.length ≤ 140737488351232) (hn : ys.length ≤ 140737488351232) (d : Nat) : ∀ i : Nat, xs.length - i = d → i ≤ xs.length →
    Ev (fun k => chancelref04_Right.l0 k n (i : Int) xs ys) (spansOk n (ahead xs i) (xs.drop i) && sitesOk n none ys) := by
  induction d with
  | zero =>
    intro i hd hi
    rw [List.drop_of_length_le (by omega)]
    have h := ref_Right_l1 n xs ys hn ys.length 0 (by omega) (by omega)
    exact ev_next (fun k => by simp only [chancelref04_Right.l0]; rw [if_neg (by omega)]; rfl) h
  | succ d ih =>
    intro i hd hi
    have hlt : i < xs.length := by omega
    have hr := rd_span hlt
    have w : wrap64 ((i : Int) + 1) = ((i + 1 : Nat) : Int) := wrap_succ (by omega)
    have h := ih (i + 1) (by omega) (by omega)
    rw [ahead_succ hlt] at h
    rw [List.drop_eq_getElem_cons hlt]
    generalize hs : xs[i] = s at hr h
    generalize hT : sitesOk n none ys = T at h ⊢
    have key : ∀ b : Bool, Ev (fun k => chancelref04_Right.j1 k n (i : Int) b xs ys s.f0 s.f1 s.f2) (!b && (match ahead xs i with | none => true | some q => decide (q.f2 < s.f1) || (decide (q.f2 = s.f1) && decide (q.f0 ≠ s.f0))) && (spansOk n (some s) (xs.drop (i + 1)) && T)) := by
      intro b
      cases b with
      | true => exact ev_next (f := fun _ => some false) (fun k => by simp only [chancelref04_Right.j1, if_true]) (Ev.now _)
      | false =>
        by_cases h0 : i = 0
        · subst h0
          have e : ahead xs 0 = none := rfl
          rw [e]
          simp only [Bool.not_false, Bool.true_and]
          exact ev_next (fun k => by simp only [chancelref04_Right.j1, Bool.false_eq_true, if_false]; rw [if_neg (by omega), w]) h
        · have w' := wrap_pred (i := i) (by omega) (by omega)
          have hq := rd_span (xs := xs) (i := i - 1) (by omega)
          rw [ahead_pos (by omega) hlt]
          generalize xs[i - 1] = q at hq
          simp only [Bool.not_false, Bool.true_and]
          by_cases c1 : s.f1 < q.f2
          · have e : (decide (q.f2 < s.f1) || (decide (q.f2 = s.f1) && decide (q.f0 ≠ s.f0))) = false := by simp; omega
            rw [e]
            exact ev_next (f := fun _ => some false) (fun k => by simp only [chancelref04_Right.j1, Bool.false_eq_true, if_false]; rw [if_pos (by omega), w', if_pos (by omega), if_pos (by omega), hq, if_pos c1]) (Ev.now _)
          · by_cases c2 : s.f1 = q.f2
            · by_cases c3 : s.f0 = q.f0
              · have e : (decide (q.f2 < s.f1) || (decide (q.f2 = s.f1) && decide (q.f0 ≠ s.f0))) = false := by simp; omega
                rw [e]
                exact ev_next (f := fun _ => some false) (fun k => by simp only [chancelref04_Right.j1, Bool.false_eq_true, if_false]; rw [if_pos (by omega), w', if_pos (by omega), if_pos (by omega), hq, if_neg c1, if_pos c2, if_pos c3]) (Ev.now _)
              · have e : (decide (q.f2 < s.f1) || (decide (q.f2 = s.f1) && decide (q.f0 ≠ s.f0))) = true := by simp; omega
                rw [e, Bool.true_and]
                exact ev_next (fun k => by simp only [chancelref04_Right.j1, Bool.false_eq_true, if_false]; rw [if_pos (by omega), w', if_pos (by omega), if_pos (by omega), hq, if_neg c1, if_pos c2, if_neg c3, w]) h
            · have e : (decide (q.f2 < s.f1) || (decide (q.f2 = s.f1) && decide (q.f0 ≠ s.f0))) = true := by simp; omega
              rw [e, Bool.true_and]
              exact ev_next (fun k => by simp only [chancelref04_Right.j1, Bool.false_eq_true, if_false]; rw [if_pos (by omega), w', if_pos (by omega), if_pos (by omega), hq, if_neg c1, if_neg c2, w]) h
    have go : ∀ (b : Bool) (e : (decide (0 < s.f0) && decide (0 ≤ s.f1) && decide (s.f1 < s.f2) && decide (s.f2 ≤ n)) = !b) (st : ∀ k, chancelref04_Right.l0 (k + 1) n (i : Int) xs ys = chancelref04_Right.j1 k n (i : Int) b xs ys s.f0 s.f1 s.f2),
        Ev (fun k => chancelref04_Right.l0 k n (i : Int) xs ys) (spansOk n (ahead xs i) (s :: xs.drop (i + 1)) && T) := fun b e st => by
      have := key b
      rw [← e] at this
      simp only [spansOk, spanOk]
      rw [Bool.and_assoc _ (spansOk _ _ _) T]
      exact ev_next st this
    by_cases c1 : s.f0 ≤ 0
    · exact go true (by rw [decide_eq_false (by omega)]; simp) (fun k => by simp only [chancelref04_Right.l0]; rw [if_pos (by omega), if_pos (by omega), hr, if_pos c1])
    · by_cases c2 : s.f1 < 0
      · exact go true (by rw [decide_eq_false (p := 0 ≤ s.f1) (by omega)]; simp) (fun k => by simp only [chancelref04_Right.l0]; rw [if_pos (by omega), if_pos (by omega), hr, if_neg c1, if_pos c2])
      · by_cases c3 : s.f2 ≤ s.f1
        · exact go true (by rw [decide_eq_false (p := s.f1 < s.f2) (by omega)]; simp) (fun k => by simp only [chancelref04_Right.l0]; rw [if_pos (by omega), if_pos (by omega), hr, if_neg c1, if_neg c2, if_pos c3])
        · have e3 : decide (s.f2 ≤ n) = !decide (s.f2 > n) := by
            by_cases h : s.f2 > n
            · rw [decide_eq_true h, decide_eq_false (by omega)]; rfl
            · rw [decide_eq_false h, decide_eq_true (by omega)]; rfl
          refine go (decide (s.f2 > n)) (by rw [decide_eq_true (p := 0 < s.f0) (by omega), decide_eq_true (p := 0 ≤ s.f1) (by omega), decide_eq_true (p := s.f1 < s.f2) (by omega), e3]; simp only [Bool.true_and]) (fun k => by simp only [chancelref04_Right.l0]; rw [if_pos (by omega), if_pos (by omega), hr, if_neg c1, if_neg c2, if_neg c3])
theorem ref_Right_ev (n : Int) (xs : List S78) (ys : List S81) (hm : xs.length ≤ 140737488351232) (hn : ys.length ≤ 140737488351232) : Ev (fun k => chancelref04_Right.f k xs ys n) (rightB n xs ys) :=
  ref_Right_l0 n xs ys hm hn xs.length 0 (by omega) (by omega)
/-- A span behind others: longer, or one more. -/
def addL (o : List S78) (s : S78) : List S78 :=
  if s.f2 ≤ s.f1 then o else match o.getLast? with
    | none => o ++ [s]
    | some q => if q.f2 = s.f1 ∧ q.f0 = s.f0 then o.dropLast ++ [⟨q.f0, q.f1, s.f2⟩] else o ++ [s]
theorem addL_nil (s : S78) (h : s.f1 < s.f2) : addL [] s = [s] := by
  unfold addL; rw [if_neg (by omega)]; rfl
theorem addL_none (o : List S78) (s : S78) (h : s.f2 ≤ s.f1) : addL o s = o := by
  unfold addL; rw [if_pos h]
theorem addL_long (o : List S78) (q s : S78) (h : s.f1 < s.f2) (h1 : q.f2 = s.f1) (h2 : q.f0 = s.f0) : addL (o ++ [q]) s = o ++ [⟨q.f0, q.f1, s.f2⟩] := by
  unfold addL; rw [if_neg (by omega)]; simp [h1, h2]
theorem addL_more (o : List S78) (q s : S78) (h : s.f1 < s.f2) (h1 : ¬ (q.f2 = s.f1 ∧ q.f0 = s.f0)) : addL (o ++ [q]) s = o ++ [q, s] := by
  unfold addL; rw [if_neg (by omega)]; simp only [List.getLast?_append, List.getLast?_singleton, Option.some_or]; rw [if_neg h1]; simp
/-- The mark over a place, that of the last span over it; c where there is none. -/
def colr (c : Int) (xs : List S78) (p : Int) : Int := xs.foldl (fun c s => if s.f1 ≤ p ∧ p < s.f2 then s.f0 else c) c
theorem colr_nil (c p : Int) : colr c [] p = c := rfl
theorem colr_cons (c : Int) (s : S78) (xs : List S78) (p : Int) : colr c (s :: xs) p = colr (if s.f1 ≤ p ∧ p < s.f2 then s.f0 else c) xs p := rfl
theorem colr_append (c : Int) (xs ys : List S78) (p : Int) : colr c (xs ++ ys) p = colr (colr c xs p) ys p := by unfold colr; rw [List.foldl_append]
theorem colr_snoc (c : Int) (xs : List S78) (s : S78) (p : Int) : colr c (xs ++ [s]) p = if s.f1 ≤ p ∧ p < s.f2 then s.f0 else colr c xs p := by rw [colr_append]; rfl
theorem colr_out (c : Int) (xs : List S78) (p : Int) (h : ∀ s ∈ xs, ¬ (s.f1 ≤ p ∧ p < s.f2)) : colr c xs p = c := by
  induction xs generalizing c with
  | nil => rfl
  | cons s r ih => rw [colr_cons, if_neg (h s (by simp))]; exact ih c fun t ht => h t (by simp [ht])
/-- The last span ends at b at most. -/
def LastLe (o : List S78) (b : Int) : Prop := ∀ q, o.getLast? = some q → q.f1 < q.f2 ∧ q.f2 ≤ b
theorem LastLe.mono {o : List S78} {b c : Int} (h : LastLe o b) (hc : b ≤ c) : LastLe o c := fun q hq => ⟨(h q hq).1, by have := (h q hq).2; omega⟩
theorem LastLe.nil (b : Int) : LastLe [] b := fun _ h => by simp at h
theorem snoc_cases {α : Type} (o : List α) : o = [] ∨ ∃ p q, o = p ++ [q] := by
  rcases List.eq_nil_or_concat o with h | ⟨p, q, h⟩
  · exact .inl h
  · exact .inr ⟨p, q, by rw [h, List.concat_eq_append]⟩
theorem addL_last {o : List S78} {s : S78} {b : Int} (h : LastLe o b) : LastLe (addL o s) (if s.f1 < s.f2 then s.f2 else b) := by
  by_cases c : s.f1 < s.f2
  · rw [if_pos c]
    rcases snoc_cases o with rfl | ⟨p, q, rfl⟩
    · rw [addL_nil s c]; intro q hq; simp at hq; subst hq; exact ⟨c, Int.le_refl _⟩
    · have hq := h q (by simp)
      by_cases c1 : q.f2 = s.f1 ∧ q.f0 = s.f0
      · rw [addL_long p q s c c1.1 c1.2]; intro x hx; simp at hx; subst hx; exact ⟨by show q.f1 < s.f2; omega, Int.le_refl _⟩
      · rw [addL_more p q s c c1]; intro x hx; simp at hx; subst hx; exact ⟨c, Int.le_refl _⟩
  · rw [if_neg c, addL_none o s (by omega)]; exact h
theorem addL_colr {o : List S78} {s : S78} (h : LastLe o s.f1) (p : Int) : colr 0 (addL o s) p = if s.f1 ≤ p ∧ p < s.f2 then s.f0 else colr 0 o p := by
  by_cases c : s.f1 < s.f2
  · rcases snoc_cases o with rfl | ⟨r, q, rfl⟩
    · rw [addL_nil s c]; rfl
    · have hq := h q (by simp)
      by_cases c1 : q.f2 = s.f1 ∧ q.f0 = s.f0
      · rw [addL_long r q s c c1.1 c1.2, colr_snoc, colr_snoc]
        show (if q.f1 ≤ p ∧ p < s.f2 then q.f0 else _) = _
        by_cases d1 : s.f1 ≤ p ∧ p < s.f2
        · rw [if_pos d1, if_pos (by omega)]; exact c1.2
        · rw [if_neg d1]
          by_cases d2 : q.f1 ≤ p ∧ p < q.f2
          · rw [if_pos d2, if_pos (by omega)]
          · rw [if_neg d2, if_neg (by omega)]
      · rw [addL_more r q s c c1, show r ++ [q, s] = (r ++ [q]) ++ [s] by simp, colr_snoc]
  · rw [addL_none o s (by omega), if_neg (by omega)]
theorem spansOk_snoc (n : Int) (p : Option S78) (xs : List S78) (s : S78) : spansOk n p (xs ++ [s]) = (spansOk n p xs && spanOk n (xs.getLast?.or p) s) := by
  induction xs generalizing p with
  | nil => simp [spansOk]
  | cons x r ih =>
    rw [List.cons_append, spansOk, spansOk, ih, Bool.and_assoc]
    cases r with
    | nil => simp
    | cons y r => rw [List.getLast?_cons_cons, List.getLast?_cons]; rfl
theorem spanOk_iff (n : Int) (p : Option S78) (s : S78) : spanOk n p s = true ↔ 0 < s.f0 ∧ 0 ≤ s.f1 ∧ s.f1 < s.f2 ∧ s.f2 ≤ n ∧ (∀ q, p = some q → q.f2 < s.f1 ∨ (q.f2 = s.f1 ∧ q.f0 ≠ s.f0)) := by
  unfold spanOk
  cases p with
  | none => simp [and_assoc]
  | some q => simp [and_assoc]
theorem addL_ok {n : Int} {o : List S78} {s : S78} (h : spansOk n none o = true) (hl : LastLe o s.f1) (h0 : 0 < s.f0) (h1 : 0 ≤ s.f1) (h2 : s.f2 ≤ n) : spansOk n none (addL o s) = true := by
  by_cases c : s.f1 < s.f2
  · rcases snoc_cases o with rfl | ⟨r, q, rfl⟩
    · rw [addL_nil s c]; simp only [spansOk, Bool.and_true]; rw [spanOk_iff]; exact ⟨h0, h1, c, h2, fun _ e => by cases e⟩
    · have hq := hl q (by simp)
      have h' := h
      rw [spansOk_snoc, Bool.and_eq_true, spanOk_iff] at h'
      by_cases c1 : q.f2 = s.f1 ∧ q.f0 = s.f0
      · rw [addL_long r q s c c1.1 c1.2, spansOk_snoc, Bool.and_eq_true, spanOk_iff]
        exact ⟨h'.1, h'.2.1, h'.2.2.1, by show q.f1 < s.f2; omega, h2, h'.2.2.2.2.2⟩
      · rw [addL_more r q s c c1, show r ++ [q, s] = (r ++ [q]) ++ [s] by simp, spansOk_snoc, Bool.and_eq_true, spanOk_iff]
        refine ⟨h, h0, h1, c, h2, fun x hx => ?_⟩
        simp at hx
        subst hx
        by_cases e : q.f2 = s.f1
        · exact .inr ⟨e, fun e2 => c1 ⟨e, e2⟩⟩
        · exact .inl (by omega)
  · rw [addL_none o s (by omega)]; exact h
/-- In right spans each one ends ahead of the last one's end. -/
theorem ok_lt {n : Int} {xs : List S78} (h : spansOk n none xs = true) {b : Int} (hl : LastLe xs b) : ∀ s ∈ xs, 0 < s.f0 ∧ 0 ≤ s.f1 ∧ s.f1 < s.f2 ∧ s.f2 ≤ b := by
  obtain ⟨k, hk⟩ : ∃ k, xs.length = k := ⟨_, rfl⟩
  induction k generalizing xs b with
  | zero => have : xs = [] := List.eq_nil_of_length_eq_zero hk; subst this; intro s hs; simp at hs
  | succ k ih =>
    rcases snoc_cases xs with rfl | ⟨r, q, rfl⟩
    · simp at hk
    · rw [spansOk_snoc, Bool.and_eq_true, spanOk_iff] at h
      have hq := hl q (by simp)
      obtain ⟨h1, h2, h3, h4, h5, h6⟩ := h
      have hl' : LastLe r q.f1 := by
        intro x hx
        have := h6 x (by simp [hx])
        have hx' : 0 < x.f0 ∧ 0 ≤ x.f1 ∧ x.f1 < x.f2 := by
          rcases snoc_cases r with rfl | ⟨r', y, rfl⟩
          · simp at hx
          · simp at hx; subst hx; rw [spansOk_snoc, Bool.and_eq_true, spanOk_iff] at h1; exact ⟨h1.2.1, h1.2.2.1, h1.2.2.2.1⟩
        exact ⟨hx'.2.2, by omega⟩
      intro s hs
      simp at hs
      rcases hs with hs | rfl
      · have := ih h1 hl' (by simpa using hk) s hs; omega
      · exact ⟨h2, h3, h4, hq.2⟩
theorem ok_last {n : Int} {xs : List S78} (h : spansOk n none xs = true) : LastLe xs n := by
  rcases snoc_cases xs with rfl | ⟨r, q, rfl⟩
  · exact LastLe.nil _
  · intro x hx; simp at hx; subst hx; rw [spansOk_snoc, Bool.and_eq_true, spanOk_iff] at h; exact ⟨h.2.2.2.1, h.2.2.2.2.1⟩
/-- The spans of letters, one behind the other. -/
def stepL (o : List S78) (i c : Int) : List S78 := if c = 0 then o else addL o ⟨c, i, i + 1⟩
def spansFrom (o : List S78) (i : Nat) : List Int → List S78
  | [] => o
  | c :: r => spansFrom (stepL o (i : Int) c) (i + 1) r
theorem spansFrom_snoc (o : List S78) (i : Nat) (l : List Int) (c : Int) : spansFrom o i (l ++ [c]) = stepL (spansFrom o i l) ((i + l.length : Nat) : Int) c := by
  induction l generalizing o i with
  | nil => rfl
  | cons x r ih => rw [List.cons_append, spansFrom, ih, spansFrom, List.length_cons]; congr 2; omega
/-- Spans up to a place. -/
def clip (S : List S78) (p : Int) : List S78 := (S.filter fun s => s.f1 < p).map fun s => ⟨s.f0, s.f1, min s.f2 p⟩
theorem clip_snoc (S : List S78) (s : S78) (p : Int) : clip (S ++ [s]) p = clip S p ++ if s.f1 < p then [⟨s.f0, s.f1, min s.f2 p⟩] else [] := by
  unfold clip; rw [List.filter_append, List.map_append]; congr 1
  by_cases c : s.f1 < p <;> simp [c]
theorem clip_all (S : List S78) (p : Int) (h : ∀ s ∈ S, s.f1 < s.f2 ∧ s.f2 ≤ p) : clip S p = S := by
  induction S with
  | nil => rfl
  | cons s r ih =>
    have h1 := h s (by simp)
    unfold clip at *
    rw [List.filter_cons_of_pos (by simp; omega), List.map_cons, ih fun t ht => h t (by simp [ht]), Int.min_eq_left h1.2]
theorem clip_step {n : Int} {S : List S78} (h : spansOk n none S = true) (p : Int) : stepL (clip S p) p (colr 0 S p) = clip S (p + 1) := by
  obtain ⟨k, hk⟩ : ∃ k, S.length = k := ⟨_, rfl⟩
  induction k generalizing S with
  | zero => have : S = [] := List.eq_nil_of_length_eq_zero hk; subst this; rfl
  | succ k ih =>
    rcases snoc_cases S with rfl | ⟨r, q, rfl⟩
    · simp at hk
    · have h' := h
      rw [spansOk_snoc, Bool.and_eq_true, spanOk_iff] at h
      obtain ⟨h1, h2, h3, h4, h5, h6⟩ := h
      have hl := ok_lt h' (ok_last h')
      have hr : ∀ s ∈ r, s.f1 < s.f2 ∧ s.f2 ≤ q.f1 := by
        have hlr : LastLe r q.f1 := by
          intro x hx
          have h7 := h6 x (by simp [hx])
          have := hl x (by simp [List.mem_of_getLast? hx])
          exact ⟨this.2.2.1, by omega⟩
        intro s hs
        have := ok_lt h1 hlr s hs
        exact ⟨this.2.2.1, this.2.2.2⟩
      rw [clip_snoc, clip_snoc, colr_snoc]
      by_cases c1 : p < q.f1
      · rw [if_neg (by omega), if_neg (by omega), if_neg (by omega), List.append_nil, List.append_nil]
        exact ih h1 (by simpa using hk)
      · have e1 : clip r p = r := clip_all r p fun s hs => by have := hr s hs; omega
        have e2 : clip r (p + 1) = r := clip_all r (p + 1) fun s hs => by have := hr s hs; omega
        rw [e1, e2]
        by_cases c2 : p < q.f2
        · rw [if_pos (show q.f1 ≤ p ∧ p < q.f2 by omega), if_pos (show q.f1 < p + 1 by omega)]
          unfold stepL
          rw [if_neg (by omega)]
          by_cases c3 : q.f1 < p
          · rw [if_pos c3, addL_long r ⟨q.f0, q.f1, min q.f2 p⟩ ⟨q.f0, p, p + 1⟩ (by show p < p + 1; omega) (by show min q.f2 p = p; omega) rfl, show min q.f2 (p + 1) = p + 1 by omega]
          · have e : q.f1 = p := by omega
            rw [if_neg c3, List.append_nil]
            rw [show min q.f2 (p + 1) = p + 1 by omega]
            subst e
            rcases snoc_cases r with rfl | ⟨r', y, rfl⟩
            · rw [addL_nil _ (by show q.f1 < q.f1 + 1; omega)]; rfl
            · have := h6 y (by simp)
              rw [addL_more _ _ _ (by show q.f1 < q.f1 + 1; omega) (by show ¬ (y.f2 = q.f1 ∧ y.f0 = q.f0); omega)]
              simp
        · rw [if_neg (show ¬ (q.f1 ≤ p ∧ p < q.f2) by omega), if_pos (show q.f1 < p by omega), if_pos (show q.f1 < p + 1 by omega)]
          rw [colr_out _ _ _ fun s hs => by have := hr s hs; omega]
          unfold stepL
          rw [if_pos rfl, Int.min_eq_left (by omega), Int.min_eq_left (by omega)]
theorem spans_uniq {n : Nat} {S : List S78} (h : spansOk (n : Int) none S = true) : spansFrom [] 0 ((List.range n).map fun i : Nat => colr 0 S (i : Int)) = S := by
  have key : ∀ k : Nat, spansFrom [] 0 ((List.range k).map fun i : Nat => colr 0 S (i : Int)) = clip S (k : Int) := by
    intro k
    induction k with
    | zero =>
      have hl := ok_lt h (ok_last h)
      unfold clip
      rw [List.filter_eq_nil_iff.2 fun s hs => by have := hl s hs; simp; omega]
      rfl
    | succ k ih =>
      rw [List.range_succ, List.map_append, List.map_cons, List.map_nil, spansFrom_snoc, ih, List.length_map, List.length_range, Nat.zero_add]
      exact clip_step h k
  rw [key]
  exact clip_all S _ fun s hs => by have := ok_lt h (ok_last h) s hs; omega
/-- Pieces of right spans, each laid behind the others by a map that keeps the order: right again; marks come along. -/
theorem pieces_ok {n n' : Int} (φ ψ : Int → Int) (g : ∀ p, 0 ≤ p → p < n' → ∀ x, 0 ≤ x → x ≤ n → (φ x ≤ p ↔ x ≤ ψ p)) (mono : ∀ x y, 0 ≤ x → x ≤ y → y ≤ n → φ x ≤ φ y) (lo : ∀ x, 0 ≤ x → x ≤ n → 0 ≤ φ x) (hi : ∀ x, 0 ≤ x → x ≤ n → φ x ≤ n')
    (S : List S78) (pv : Option S78) (hS : spansOk n pv S = true) (o : List S78) (b : Int) (ho : spansOk n' none o = true) (hl : LastLe o b) (hb : ∀ s, S.head? = some s → b ≤ φ s.f1) :
    spansOk n' none (S.foldl (fun o s => addL o ⟨s.f0, φ s.f1, φ s.f2⟩) o) = true ∧ (∀ b', b ≤ b' → (∀ s ∈ S, φ s.f2 ≤ b') → LastLe (S.foldl (fun o s => addL o ⟨s.f0, φ s.f1, φ s.f2⟩) o) b') ∧
    ∀ p, 0 ≤ p → p < n' → colr 0 (S.foldl (fun o s => addL o ⟨s.f0, φ s.f1, φ s.f2⟩) o) p = colr (colr 0 o p) S (ψ p) := by
  induction S generalizing o b pv with
  | nil => exact ⟨ho, fun b' h _ => hl.mono h, fun p _ _ => rfl⟩
  | cons s r ih =>
    rw [spansOk, Bool.and_eq_true, spanOk_iff] at hS
    obtain ⟨⟨h0, h1, h2, h3, h4⟩, hr⟩ := hS
    have hb' := hb s rfl
    have m1 := mono s.f1 s.f2 h1 (by omega) h3
    have l1 := lo s.f1 h1 (by omega)
    have l2 := hi s.f2 (by omega) h3
    have hl1 : LastLe o (φ s.f1) := hl.mono hb'
    have ok1 := addL_ok (n := n') (s := ⟨s.f0, φ s.f1, φ s.f2⟩) ho hl1 h0 l1 l2
    have la1 : LastLe (addL o ⟨s.f0, φ s.f1, φ s.f2⟩) (φ s.f2) := by
      have := addL_last (s := ⟨s.f0, φ s.f1, φ s.f2⟩) hl1
      refine this.mono ?_
      show (if φ s.f1 < φ s.f2 then φ s.f2 else φ s.f1) ≤ φ s.f2
      split <;> omega
    have hb2 : ∀ t, r.head? = some t → φ s.f2 ≤ φ t.f1 := by
      intro t ht
      cases r with
      | nil => simp at ht
      | cons t' r =>
        simp at ht; subst ht
        rw [spansOk, Bool.and_eq_true, spanOk_iff] at hr
        have := hr.1.2.2.2.2 s rfl
        exact mono _ _ (by omega) (by omega) (by omega)
    obtain ⟨a1, a2, a3⟩ := ih (some s) hr _ (φ s.f2) ok1 la1 hb2
    rw [List.foldl_cons]
    refine ⟨a1, fun b' h h' => a2 b' (h' s (by simp)) fun t ht => h' t (by simp [ht]), fun p hp0 hp => ?_⟩
    rw [a3 p hp0 hp, colr_cons, addL_colr hl1]
    show colr (if φ s.f1 ≤ p ∧ p < φ s.f2 then s.f0 else colr 0 o p) r (ψ p) = _
    have g1 := g p hp0 hp s.f1 h1 (by omega)
    have g2 := g p hp0 hp s.f2 (by omega) h3
    by_cases c : φ s.f1 ≤ p ∧ p < φ s.f2
    · rw [if_pos c, if_pos ⟨g1.1 c.1, by have := mt g2.2; omega⟩]
    · rw [if_neg c, if_neg fun c' => c ⟨g1.2 c'.1, by have := mt g2.1; omega⟩]
theorem map_congr_range {N : Nat} {f g : Nat → Int} (h : ∀ i, i < N → f i = g i) : (List.range N).map f = (List.range N).map g :=
  List.map_congr_left fun i hi => h i (List.mem_range.1 hi)
theorem take_range {N a : Nat} (h : a ≤ N) (f : Nat → Int) : ((List.range N).map f).take a = (List.range a).map f := by
  apply List.ext_getElem
  · simp; omega
  · intro i h1 h2; simp
theorem drop_range {N a : Nat} (f : Nat → Int) : ((List.range N).map f).drop a = (List.range (N - a)).map fun i => f (a + i) := by
  apply List.ext_getElem
  · simp
  · intro i h1 h2; simp
theorem ok_each {n : Int} {xs : List S78} (h : spansOk n none xs = true) : ∀ s ∈ xs, 0 < s.f0 ∧ 0 ≤ s.f1 ∧ s.f1 < s.f2 ∧ s.f2 ≤ n := ok_lt h (ok_last h)
theorem foldl_congr_mem {α σ : Type} {f g : σ → α → σ} (xs : List α) (h : ∀ s, ∀ x ∈ xs, f s x = g s x) (a : σ) : xs.foldl f a = xs.foldl g a := by
  induction xs generalizing a with
  | nil => rfl
  | cons x r ih => rw [List.foldl_cons, List.foldl_cons, h a x (by simp)]; exact ih (fun s y hy => h s y (by simp [hy])) _
theorem addL_same (o : List S78) (s t : S78) (h0 : s.f0 = t.f0) (h : s.f2 ≤ s.f1 ∧ t.f2 ≤ t.f1 ∨ s.f1 = t.f1 ∧ s.f2 = t.f2) : addL o s = addL o t := by
  rcases h with h | h
  · rw [addL_none o s h.1, addL_none o t h.2]
  · have : s = t := by cases s; cases t; simp_all
    rw [this]
theorem mr_wrap {i : Int} {n : Nat} (h0 : 0 ≤ i) (h : i < (n : Int)) (hn : n ≤ 140737488351232) : wrap64 (i + 1) = i + 1 := by
  unfold wrap64
  omega
theorem mr_wrap' {i : Int} {n : Nat} (h0 : 0 < i) (h : i < (n : Int)) (hn : n ≤ 140737488351232) : wrap64 (i - 1) = i - 1 := by
  unfold wrap64
  omega

def mrCmp (a b : Int) : Int := if a < b then -1 else if a > b then 1 else 0
theorem mr_compare1 (a b : Int) : cmp_Compare_int.f a b = some (mrCmp a b) := by
  unfold cmp_Compare_int.f cmp_isNaN_int.f mrCmp
  simp only [Option.bind_some, bne_self_eq_false, Bool.false_eq_true, if_false]
  split
  · rfl
  · split <;> rfl
theorem mr_or (p q : Int) : Ev (fun k => cmp_Or_int.f k [p, q]) (if p = 0 then q else p) := by
  refine Ev.of (cmp_Or_int.mono _) (k := 4) ?_
  unfold cmp_Or_int.f
  have w1 : wrap64 (0 + 1) = 1 := by decide +kernel
  have w2 : wrap64 (1 + 1) = 2 := by decide +kernel
  have r0 : rd [p, q] 0 = p := rfl
  have r1 : rd [p, q] 1 = q := rfl
  have l0 : (([p, q] : List Int).length : Int) = 2 := rfl
  simp only [cmp_Or_int.l0, l0]
  rw [if_pos (by decide), if_pos (by decide), if_pos (by decide), r0, w1]
  by_cases hp : p = 0
  · rw [if_pos hp, if_pos hp, if_pos (by decide), if_pos (by decide), if_pos (by decide), r1, w2]
    by_cases hq : q = 0
    · rw [if_pos hq, if_neg (by decide), hq]
    · rw [if_neg hq]
  · rw [if_neg hp, if_neg hp]
/-- compare, as it is. -/
theorem mr_compare (m a m' a' : Int) : Ev (fun k => marks_compare.f k m a m' a') (if mrCmp a a' = 0 then mrCmp m m' else mrCmp a a') := by
  unfold marks_compare.f
  simp only [mr_compare1, Option.bind_some]
  exact Ev.bind (mr_or _ _) (Ev.now _)
theorem mr_compare_sign (m a m' a' : Int) : (if mrCmp a a' = 0 then mrCmp m m' else mrCmp a a') ≥ 0 ↔ ¬ (a < a' ∨ a = a' ∧ m < m') := by
  unfold mrCmp
  repeat' split
  all_goals omega

theorem mr_l1 (n : Int) (xs : List S78) (ys : List S81) (hn : ys.length ≤ 140737488351232) (d : Nat) : ∀ i : Int, 0 ≤ i → (ys.length : Int) - i ≤ d →
    ∃ r, Ev (fun k => marks_Right.l1 k n ys (ys.length : Int) i xs ys) r ∧ Ev (fun k => chancelref04_Right.l1 k n i xs ys) r := by
  induction d with
  | zero =>
    intro i h0 hd
    refine ⟨true, Ev.step (f := fun _ => some true) (fun k => ?_) (Ev.now _), Ev.step (f := fun _ => some true) (fun k => ?_) (Ev.now _)⟩
    · simp only [marks_Right.l1]; rw [if_neg (by omega)]
    · simp only [chancelref04_Right.l1]; rw [if_neg (by omega)]
  | succ d ih =>
    intro i h0 hd
    by_cases h1 : i < (ys.length : Int)
    · obtain ⟨r, e1, e2⟩ := ih (i + 1) (by omega) (by omega)
      have w := mr_wrap h0 h1 hn
      by_cases c : (rd_T81 ys i).f0 ≤ 0 ∨ (rd_T81 ys i).f1 < 0 ∨ (rd_T81 ys i).f1 > n
      · refine ⟨false, Ev.step (f := fun _ => some false) (fun k => ?_) (Ev.now _), Ev.step (f := fun k => chancelref04_Right.j3 k n i true xs ys ((rd_T81 ys i).f0) ((rd_T81 ys i).f1)) (fun k => ?_) (Ev.step (f := fun _ => some false) (fun k => ?_) (Ev.now _))⟩
        · simp only [marks_Right.l1]; rw [if_pos h1, if_pos h0, if_pos h1]
          rcases c with c | c | c
          · rw [if_pos c]
          · rw [if_pos c]; split <;> rfl
          · rw [if_pos c]; split
            · rfl
            · split <;> rfl
        · simp only [chancelref04_Right.l1]; rw [if_pos h1, if_pos h0]
          rcases c with c | c | c
          · rw [if_pos c]
          · rw [if_pos c]; split <;> rfl
          · rw [decide_eq_true c]; split
            · rfl
            · split <;> rfl
        · simp only [chancelref04_Right.j3, if_true]
      · have c1 : ¬ (rd_T81 ys i).f0 ≤ 0 := fun h => c (.inl h)
        have c2 : ¬ (rd_T81 ys i).f1 < 0 := fun h => c (.inr (.inl h))
        have c3 : ¬ (rd_T81 ys i).f1 > n := fun h => c (.inr (.inr h))
        have href : ∀ {r}, Ev (fun k => chancelref04_Right.j3 k n i false xs ys ((rd_T81 ys i).f0) ((rd_T81 ys i).f1)) r → Ev (fun k => chancelref04_Right.l1 k n i xs ys) r := by
          intro r h
          refine Ev.step (fun k => ?_) h
          simp only [chancelref04_Right.l1]; rw [if_pos h1, if_pos h0, if_neg c1, if_neg c2, decide_eq_false c3]
        by_cases hp : i > 0
        · have w' := mr_wrap' hp h1 hn
          have hc := mr_compare (rd_T81 ys (i - 1)).f0 (rd_T81 ys (i - 1)).f1 (rd_T81 ys i).f0 (rd_T81 ys i).f1
          have hs := mr_compare_sign (rd_T81 ys (i - 1)).f0 (rd_T81 ys (i - 1)).f1 (rd_T81 ys i).f0 (rd_T81 ys i).f1
          generalize (if mrCmp (rd_T81 ys (i - 1)).f1 (rd_T81 ys i).f1 = 0 then mrCmp (rd_T81 ys (i - 1)).f0 (rd_T81 ys i).f0 else mrCmp (rd_T81 ys (i - 1)).f1 (rd_T81 ys i).f1) = cv at hc hs
          have hprog : ∀ {r}, Ev (fun k => (if cv ≥ 0 then some false else marks_Right.l1 k n ys (ys.length : Int) (i + 1) xs ys)) r → Ev (fun k => marks_Right.l1 k n ys (ys.length : Int) i xs ys) r := by
            intro r h
            refine Ev.step (fun k => ?_) (Ev.bind (f := fun k a => if a ≥ 0 then some false else marks_Right.l1 k n ys (ys.length : Int) (i + 1) xs ys) hc h)
            simp only [marks_Right.l1]; rw [if_pos h1, if_pos h0, if_pos h1, if_neg c1, if_neg c2, if_neg c3, if_pos hp, w', if_pos (by omega), if_pos (by omega), w]
          by_cases hlt : (rd_T81 ys (i - 1)).f1 < (rd_T81 ys i).f1 ∨ (rd_T81 ys (i - 1)).f1 = (rd_T81 ys i).f1 ∧ (rd_T81 ys (i - 1)).f0 < (rd_T81 ys i).f0
          · refine ⟨r, hprog ?_, href (Ev.step (f := fun k => chancelref04_Right.l1 k n (i + 1) xs ys) (fun k => ?_) e2)⟩
            · rw [show (fun k => (if cv ≥ 0 then some false else marks_Right.l1 k n ys (ys.length : Int) (i + 1) xs ys)) = fun k => marks_Right.l1 k n ys (ys.length : Int) (i + 1) xs ys from funext fun k => if_neg (fun h => hs.1 h hlt)]
              exact e1
            · simp only [chancelref04_Right.j3, Bool.false_eq_true, if_false]
              rw [if_pos hp, w', if_pos (by omega), if_pos (by omega), w]
              rcases hlt with h | ⟨h, h'⟩
              · rw [if_neg (by omega), if_neg (by omega)]
              · rw [if_neg (by omega), if_pos (by omega), if_neg (by omega)]
          · refine ⟨false, hprog ?_, href (Ev.step (f := fun k => some false) (fun k => ?_) (Ev.now _))⟩
            · rw [show (fun k => (if cv ≥ 0 then some false else marks_Right.l1 k n ys (ys.length : Int) (i + 1) xs ys)) = fun k => some false from funext fun k => if_pos (hs.2 hlt)]
              exact Ev.now _
            · simp only [chancelref04_Right.j3, Bool.false_eq_true, if_false]
              rw [if_pos hp, w', if_pos (by omega), if_pos (by omega)]
              by_cases h : (rd_T81 ys i).f1 < (rd_T81 ys (i - 1)).f1
              · rw [if_pos h]
              · rw [if_neg h, if_pos (by omega), if_pos (by omega)]
        · refine ⟨r, Ev.step (f := fun k => marks_Right.l1 k n ys (ys.length : Int) (i + 1) xs ys) (fun k => ?_) e1, href (Ev.step (f := fun k => chancelref04_Right.l1 k n (i + 1) xs ys) (fun k => ?_) e2)⟩
          · simp only [marks_Right.l1]; rw [if_pos h1, if_pos h0, if_pos h1, if_neg c1, if_neg c2, if_neg c3, if_neg hp, w]
          · simp only [chancelref04_Right.j3, Bool.false_eq_true, if_false]; rw [if_neg hp, w]
    · refine ⟨true, Ev.step (f := fun _ => some true) (fun k => ?_) (Ev.now _), Ev.step (f := fun _ => some true) (fun k => ?_) (Ev.now _)⟩
      · simp only [marks_Right.l1]; rw [if_neg h1]
      · simp only [chancelref04_Right.l1]; rw [if_neg h1]

theorem mr_l0 (n : Int) (xs : List S78) (ys : List S81) (hm : xs.length ≤ 140737488351232) (hn : ys.length ≤ 140737488351232) (d : Nat) : ∀ i : Int, 0 ≤ i → (xs.length : Int) - i ≤ d →
    ∃ r, Ev (fun k => marks_Right.l0 k n xs (xs.length : Int) i xs ys) r ∧ Ev (fun k => chancelref04_Right.l0 k n i xs ys) r := by
  have fin : ∀ i : Int, ¬ i < (xs.length : Int) → ∃ r, Ev (fun k => marks_Right.l0 k n xs (xs.length : Int) i xs ys) r ∧ Ev (fun k => chancelref04_Right.l0 k n i xs ys) r := by
    intro i h1
    obtain ⟨r, e1, e2⟩ := mr_l1 n xs ys hn ys.length 0 (by omega) (by omega)
    refine ⟨r, Ev.step (fun k => ?_) e1, Ev.step (fun k => ?_) e2⟩
    · simp only [marks_Right.l0]; rw [if_neg h1]
    · simp only [chancelref04_Right.l0]; rw [if_neg h1]
  induction d with
  | zero => intro i h0 hd; exact fin i (by omega)
  | succ d ih =>
    intro i h0 hd
    by_cases h1 : i < (xs.length : Int)
    · obtain ⟨r, e1, e2⟩ := ih (i + 1) (by omega) (by omega)
      have w := mr_wrap h0 h1 hm
      have key : ∀ b : Bool, ∃ r, Ev (fun k => marks_Right.j1 k n i xs (xs.length : Int) i b xs ys ((rd_T78 xs i).f0) ((rd_T78 xs i).f1) ((rd_T78 xs i).f2)) r ∧ Ev (fun k => chancelref04_Right.j1 k n i b xs ys ((rd_T78 xs i).f0) ((rd_T78 xs i).f1) ((rd_T78 xs i).f2)) r := by
        intro b
        cases b with
        | true =>
          refine ⟨false, Ev.step (f := fun _ => some false) (fun k => ?_) (Ev.now _), Ev.step (f := fun _ => some false) (fun k => ?_) (Ev.now _)⟩
          · simp only [marks_Right.j1, if_true]
          · simp only [chancelref04_Right.j1, if_true]
        | false =>
          by_cases hp : i > 0
          · have w' := mr_wrap' hp h1 hm
            by_cases c1 : (rd_T78 xs (i - 1)).f2 > (rd_T78 xs i).f1
            · refine ⟨false, Ev.step (f := fun _ => some false) (fun k => ?_) (Ev.now _), Ev.step (f := fun _ => some false) (fun k => ?_) (Ev.now _)⟩
              · simp only [marks_Right.j1, Bool.false_eq_true, if_false]; rw [if_pos hp, w', if_pos (by omega), if_pos (by omega), if_pos c1]
              · simp only [chancelref04_Right.j1, Bool.false_eq_true, if_false]; rw [if_pos hp, w', if_pos (by omega), if_pos (by omega), if_pos (by omega)]
            · by_cases c2 : (rd_T78 xs (i - 1)).f2 = (rd_T78 xs i).f1 ∧ (rd_T78 xs (i - 1)).f0 = (rd_T78 xs i).f0
              · refine ⟨false, Ev.step (f := fun _ => some false) (fun k => ?_) (Ev.now _), Ev.step (f := fun _ => some false) (fun k => ?_) (Ev.now _)⟩
                · simp only [marks_Right.j1, Bool.false_eq_true, if_false]; rw [if_pos hp, w', if_pos (by omega), if_pos (by omega), if_neg c1, if_pos c2.1, if_pos c2.2]
                · simp only [chancelref04_Right.j1, Bool.false_eq_true, if_false]; rw [if_pos hp, w', if_pos (by omega), if_pos (by omega), if_neg (by omega), if_pos c2.1.symm, if_pos c2.2.symm]
              · refine ⟨r, Ev.step (f := fun k => marks_Right.l0 k n xs (xs.length : Int) (i + 1) xs ys) (fun k => ?_) e1, Ev.step (f := fun k => chancelref04_Right.l0 k n (i + 1) xs ys) (fun k => ?_) e2⟩
                · simp only [marks_Right.j1, Bool.false_eq_true, if_false]; rw [if_pos hp, w', if_pos (by omega), if_pos (by omega), if_neg c1, w]
                  split
                  · rw [if_neg (by omega)]
                  · rfl
                · simp only [chancelref04_Right.j1, Bool.false_eq_true, if_false]; rw [if_pos hp, w', if_pos (by omega), if_pos (by omega), if_neg (by omega), w]
                  split
                  · rw [if_neg (by omega)]
                  · rfl
          · refine ⟨r, Ev.step (f := fun k => marks_Right.l0 k n xs (xs.length : Int) (i + 1) xs ys) (fun k => ?_) e1, Ev.step (f := fun k => chancelref04_Right.l0 k n (i + 1) xs ys) (fun k => ?_) e2⟩
            · simp only [marks_Right.j1, Bool.false_eq_true, if_false]; rw [if_neg hp, w]
            · simp only [chancelref04_Right.j1, Bool.false_eq_true, if_false]; rw [if_neg hp, w]
      by_cases c1 : (rd_T78 xs i).f0 ≤ 0
      · obtain ⟨r, e1, e2⟩ := key true
        refine ⟨r, Ev.step (fun k => ?_) e1, Ev.step (fun k => ?_) e2⟩
        · simp only [marks_Right.l0]; rw [if_pos h1, if_pos h0, if_pos h1, if_pos c1]
        · simp only [chancelref04_Right.l0]; rw [if_pos h1, if_pos h0, if_pos c1]
      · by_cases c2 : (rd_T78 xs i).f1 < 0
        · obtain ⟨r, e1, e2⟩ := key true
          refine ⟨r, Ev.step (fun k => ?_) e1, Ev.step (fun k => ?_) e2⟩
          · simp only [marks_Right.l0]; rw [if_pos h1, if_pos h0, if_pos h1, if_neg c1, if_pos c2]
          · simp only [chancelref04_Right.l0]; rw [if_pos h1, if_pos h0, if_neg c1, if_pos c2]
        · by_cases c3 : (rd_T78 xs i).f1 ≥ (rd_T78 xs i).f2
          · obtain ⟨r, e1, e2⟩ := key true
            refine ⟨r, Ev.step (fun k => ?_) e1, Ev.step (fun k => ?_) e2⟩
            · simp only [marks_Right.l0]; rw [if_pos h1, if_pos h0, if_pos h1, if_neg c1, if_neg c2, if_pos c3]
            · simp only [chancelref04_Right.l0]; rw [if_pos h1, if_pos h0, if_neg c1, if_neg c2, if_pos (by omega)]
          · obtain ⟨r, e1, e2⟩ := key (decide ((rd_T78 xs i).f2 > n))
            refine ⟨r, Ev.step (fun k => ?_) e1, Ev.step (fun k => ?_) e2⟩
            · simp only [marks_Right.l0]; rw [if_pos h1, if_pos h0, if_pos h1, if_neg c1, if_neg c2, if_neg c3]
            · simp only [chancelref04_Right.l0]; rw [if_pos h1, if_pos h0, if_neg c1, if_neg c2, if_neg (by omega)]
    · exact fin i h1

/-- Both judges say one thing. -/
theorem mr_both (n : Int) (xs : List S78) (ys : List S81) (hm : xs.length ≤ 140737488351232) (hn : ys.length ≤ 140737488351232) :
    ∃ r, Ev (fun k => marks_Right.f k xs ys n) r ∧ Ev (fun k => chancelref04_Right.f k xs ys n) r := mr_l0 n xs ys hm hn xs.length 0 (by omega) (by omega)

theorem ev_uniq {α : Type} {g : Nat → Option α} {r s : α} (h : Ev g r) (k : Ev g s) : r = s := by
  obtain ⟨K, h⟩ := h
  obtain ⟨L, k⟩ := k
  have h1 := h (max K L) (by omega)
  rw [k (max K L) (by omega)] at h1
  injection h1 with h1
  exact h1.symm
theorem marks_Right_ev (n : Int) (xs : List S78) (ys : List S81) (hm : xs.length ≤ 140737488351232) (hn : ys.length ≤ 140737488351232) : Ev (fun k => marks_Right.f k xs ys n) (rightB n xs ys) := by
  obtain ⟨r, h1, h2⟩ := mr_both n xs ys hm hn
  rw [ev_uniq (ref_Right_ev n xs ys hm hn) h2]
  exact h1

end Go.Proofs.YtlcfhmnjdkhkoaaDoor.Pure
/- Segments: which plain values are right (the reference's Right, marks), and what a segment's value is. Conditions: the sizes that every row has. -/
namespace Go.Proofs.YtlcfhmnjdkhkoaaDoor.Seg
open Go.RowKit Go.Proofs.YtlcfhmnjdkhkoaaDoorW.PrintWords Go.Proofs.YtlcfhmnjdkhkoaaDoorW.PrintLast Go.Proofs.YtlcfhmnjdkhkoaaDoorW.PrintMore Go.Proofs.YtlcfhmnjdkhkoaaDoor.Rope Go.Proofs.YtlcfhmnjdkhkoaaDoor.PViewRuns Go.Proofs.YtlcfhmnjdkhkoaaDoor.Pure
set_option linter.unusedVariables false
set_option linter.unusedSimpArgs false
abbrev G := S33
abbrev kG := k33
abbrev kS := k78
abbrev kY := k81
theorem blk_newS {w : World} {o : Obj} {g : Nat} (h : g = w.heap.size) : (w.alloc o).heap[g]? = some o := by rw [h]; exact blk_new w o
/-- The plain value's cells. -/
abbrev gC (x : G) (A : Option Addr) (c : Nat) (B : Option Addr) (d : Nat) : Array Value := #[.int .i64 x.f0, .int .i64 x.f1, .string x.f2, .slice A x.f3.length c, .slice B x.f4.length d]
/-- A plain value's rows. -/
structure GR (w : World) (x : G) (A : Option Addr) (c : Nat) (B : Option Addr) (d : Nat) : Prop where
  c3 : x.f3.length ≤ c
  c4 : x.f4.length ≤ d
  r3 : Kd.C kS w A x.f3.length x.f3
  r4 : Kd.C kY w B x.f4.length x.f4
theorem GR.below {w w1 : World} {x : G} {A : Option Addr} {c : Nat} {B : Option Addr} {d : Nat} (h : GR w x A c B d) (hb : Below w.heap.size w w1) : GR w1 x A c B d := ⟨h.c3, h.c4, Kd.C_below h.r3 hb, Kd.C_below h.r4 hb⟩
set_option maxRecDepth 100000 in
set_option maxHeartbeats 800000 in
theorem marks5_calls (x : G) (A : Option Addr) (c : Nat) (B : Option Addr) (d : Nat) (w : World) :
    Calls Tryd.prog 47 #[.agg (gC x A c B d)] w fun e w' => e = .returned (.agg #[.slice A x.f3.length c, .slice B x.f4.length d]) ∧ Below w.heap.size w w' := by
  go_enter Tryd.func47, Tryd.ntmps47
  go_wp2
  refine bodyPost_ret (results_cell_row rfl _ _ (w.heap.size + 1) 90 #[.slice A x.f3.length c, .slice B x.f4.length d] (0, 0) _ rfl (blk_newS (by simp)) Tryd.underlying90 rfl (by kernel_rfl)) rfl ?_
  refine ⟨rfl, ?_⟩
  repeat (first | exact Below.refl _ _ | apply below_alloc | (refine below_set ?_ (by simp; try omega)))
abbrev Q (w0 : World) (g : Nat) (x : G) (A : Option Addr) (c : Nat) (B : Option Addr) (d : Nat) (w' : World) : Prop :=
  w'.cell? ⟨g, 0, none⟩ = some (.int .i64 x.f0) ∧ w'.cell? ⟨g, 1, none⟩ = some (.int .i64 x.f1) ∧ w'.cell? ⟨g, 2, none⟩ = some (.string x.f2) ∧ w'.cell? ⟨g, 3, none⟩ = some (.slice A x.f3.length c) ∧ w'.cell? ⟨g, 4, none⟩ = some (.slice B x.f4.length d) ∧ Below w0.heap.size w0 w'
theorem Q.b {w0 W : World} {g : Nat} {x : G} {A : Option Addr} {c : Nat} {B : Option Addr} {d : Nat} (h : Q w0 g x A c B d W) : Below w0.heap.size w0 W := h.2.2.2.2.2
theorem Q.next {w0 W W' : World} {g : Nat} {x : G} {A : Option Addr} {c : Nat} {B : Option Addr} {d : Nat} (h : Q w0 g x A c B d W) (hb : Below W.heap.size W W') : Q w0 g x A c B d W' :=
  ⟨pw_cell_below hb h.1, pw_cell_below hb h.2.1, pw_cell_below hb h.2.2.1, pw_cell_below hb h.2.2.2.1, pw_cell_below hb h.2.2.2.2.1, below_step h.2.2.2.2.2 hb⟩
theorem Q.of {w0 W : World} {g : Nat} {x : G} {A : Option Addr} {c : Nat} {B : Option Addr} {d : Nat} (h : w0.heap[g]? = some (.cells (gC x A c B d) 33 (0, 0))) (hb : Below w0.heap.size w0 W) : Q w0 g x A c B d W :=
  have h' := blk_below h hb
  ⟨blk_cell h' 0, blk_cell h' 1, blk_cell h' 2, blk_cell h' 3, blk_cell h' 4, hb⟩
/-- How many letters a right text has. -/
noncomputable def cnt (s : ByteArray) : Int := open Classical in if h : ∃ cs, Letts cs ∧ s.data.toList = cs.flatten then ((Classical.choose h).length : Int) else 0
theorem Ev.same {α : Type} {g : Nat → Option α} {r q : α} (h1 : Ev g r) (h2 : Ev g q) : r = q := by
  obtain ⟨K1, h1⟩ := h1
  obtain ⟨K2, h2⟩ := h2
  have e1 := h1 (max K1 K2) (Nat.le_max_left _ _)
  rw [h2 (max K1 K2) (Nat.le_max_right _ _)] at e1
  exact (Option.some.inj e1).symm
theorem cnt_eq {s : ByteArray} {cs : List (List UInt8)} (hl : Letts cs) (h : s.data.toList = cs.flatten) (hs : s.size ≤ 1099511627776) : cnt s = (cs.length : Int) := by
  have hx : ∃ cs, Letts cs ∧ s.data.toList = cs.flatten := ⟨cs, hl, h⟩
  unfold cnt
  rw [dif_pos hx]
  have h2 := Classical.choose_spec hx
  exact Ev.same (Count_ev h2.1 h2.2 hs) (Count_ev hl h hs)
theorem cnt_ev {s : ByteArray} (hv : Lib.validD s.data.toList = true) (hs : s.size ≤ 1099511627776) : Ev (fun k => chancelref01_Count.f k s) (cnt s) := by
  obtain ⟨cs, hl, h⟩ := (validD_iff _).1 hv
  rw [cnt_eq hl h hs]
  exact Count_ev hl h hs
theorem len_rp {w : World} {p : Option Addr} {s : ByteArray} (h : Rp w p s) (hs : s.size ≤ 1099511627776) : Calls Tryd.prog 33 #[.pointer p] w fun e w' => e = .returned (.int .i64 (cnt s)) ∧ w = w' := by
  obtain ⟨t, cs, hi, h⟩ := h
  have e : cnt s = ((runesO t : Nat) : Int) := by rw [hi.g.runes]; exact cnt_eq hi.g.letts h hs
  rw [e]
  exact len_calls t _ w hi.r
/-- The parts of which the reference's Right is made. -/
structure RG (k1 k2 k3 : Nat) (x : G) (b1 : Bool) (n : Int) (b2 : Bool) : Prop where
  k1 : chancelref01_Right.f k1 x.f2 = some b1
  k2 : b1 = true → chancelref01_Count.f k2 x.f2 = some n
  k3 : b1 = true → chancelref04_Right.f k3 x.f3 x.f4 n = some b2
/-- May it be loaded? -/
noncomputable def okB (x : G) : Bool := Lib.validD x.f2.data.toList && rightB (cnt x.f2) x.f3 x.f4
/-- No more than there may be. -/
structure Sz (x : G) : Prop where
  s2 : x.f2.size ≤ 1099511627776
  s3 : x.f3.length ≤ 1099511627776
  s4 : x.f4.length ≤ 1099511627776
theorem RG.ex (x : G) (h : Sz x) : ∃ k1 k2 k3, RG k1 k2 k3 x (Lib.validD x.f2.data.toList) (cnt x.f2) (rightB (cnt x.f2) x.f3 x.f4) := by
  obtain ⟨k1, h1⟩ := Go.Proofs.YtlcfhmnjdkhkoaaDoorW.PrintWords.Ev.rounds (Right_ev x.f2 (by have := h.s2; omega))
  obtain ⟨k3, h3⟩ := Go.Proofs.YtlcfhmnjdkhkoaaDoorW.PrintWords.Ev.rounds (ref_Right_ev (cnt x.f2) x.f3 x.f4 (by have := h.s3; omega) (by have := h.s4; omega))
  by_cases hv : Lib.validD x.f2.data.toList = true
  · obtain ⟨k2, h2⟩ := Go.Proofs.YtlcfhmnjdkhkoaaDoorW.PrintWords.Ev.rounds (cnt_ev hv h.s2)
    exact ⟨k1, k2, k3, h1, fun _ => h2, fun _ => h3⟩
  · exact ⟨k1, 0, k3, h1, fun e => absurd e hv, fun _ => h3⟩
theorem quiet_D {P : Program} {f : FuncId} {args : Array Value} {w : World} {n : Nat} {v : Value} (h : Calls P f args (w.drewN n) fun e w' => e = .returned v ∧ Drawn0 (w.drewN n) w') : Calls P f args (w.drewN n) fun e w'' => e = .returned v ∧ ∃ m, w'' = w.drewN m :=
  h.mono fun _ _ ⟨he, hm⟩ => ⟨he, by obtain ⟨m, rfl⟩ := hm.out; exact ⟨n + m, by rw [World.drewN_drewN]⟩⟩
set_option maxRecDepth 1000000 in
set_option maxHeartbeats 4000000 in
theorem right5_walk (x : G) (A : Option Addr) (c : Nat) (B : Option Addr) (d : Nat) (k1 k2 k3 : Nat) (b1 : Bool) (n : Int) (b2 : Bool) (w : World) (hr : GR w x A c B d) (h : RG k1 k2 k3 x b1 n b2) :
    Calls Tryd.prog 29 #[.agg (gC x A c B d)] w fun e w' => e = .returned (.bool (b1 && b2)) ∧ Below w.heap.size w w' := by
  have HR := Lib.hid hr
  have K1 := Lib.hid h.k1
  have K2 := Lib.hid h.k2
  have K3 := Lib.hid h.k3
  clear hr h
  go_enter Tryd.func29, Tryd.ntmps29
  go_upto_region 1 with (first | ((with_reducible refine gate_dst (N := 1) rfl ?_); refine box_event ?hg (N := 1) ?hd (cs := gC x A c B d) (t := 33) ?hr ?_; (case hd => rfl); (case hg => rfl); (case hr => first | (go_simp; done) | (go_simp; rfl)); intro gX hgX wX hxX hbX; have BX := Lib.hid hbX; have XX := Lib.hid hxX; clear hgX hxX hbX))
  have QS := Lib.hid (Q.of XX.out (Below.refl _ _))
  have a2 := QS.out.2.2.1
  cases b1 with
  | false =>
    go_quiet ((go_at_call 19; exact quiet_D (chancelref01_Right.calls k1 x.f2 false _ K1.out)))
    go_wp2
    go_ret
    refine ⟨rfl, below_step BX.out ?_⟩
    repeat (first | exact Below.refl _ _ | apply pw_below_drewN | apply Below.drew)
  | true =>
    have K22 := Lib.hid (K2.out rfl)
    have K33 := Lib.hid (K3.out rfl)
    clear K2 K3
    go_region_held3 (fun w' => Q wX gX x A c B d w')
      (first | (with_reducible assumption) | (with_reducible exact HS1.out) | (with_reducible exact HS2.out) | (with_reducible exact HS3.out) | (with_reducible exact HS4.out) | exact QS.out.next (by (with_reducible repeat (first | exact Below.refl _ _ | apply pw_below_drewN | apply Below.drew | apply below_alloc))))
      (first
        | (go_at_call 19; (refine (chancelref01_Right.calls k1 x.f2 true _ K1.out).mono ?_); rintro e w5 ⟨rfl, hb5⟩; have HS1 := Lib.hid (Q.next (w0 := wX) (g := gX) (x := x) (A := A) (c := c) (B := B) (d := d) (by assumption) (below_drawn hb5)); clear hb5)
        | (go_at_call 47; (refine (marks5_calls x A c B d _).mono ?_); rintro e w6 ⟨rfl, hb6⟩; have HS2 := Lib.hid (Q.next (w0 := wX) (g := gX) (x := x) (A := A) (c := c) (B := B) (d := d) (by assumption) hb6); clear hb6)
        | (go_at_call 34; go_must (refine (chancelref01_Count.calls k2 x.f2 n _ K22.out).mono ?_); rintro e w7 ⟨rfl, hb7⟩; have HS3 := Lib.hid (Q.next (w0 := wX) (g := gX) (x := x) (A := A) (c := c) (B := B) (d := d) (by assumption) hb7); clear hb7)
        | (go_at_call 46; (refine (chancelref04_Right.calls k3 A c x.f3 B d x.f4 n b2 _ ?r3 HR.out.c3 ?r4 HR.out.c4 K33.out).mono ?_); (case r3 => exact Kd.C_below HR.out.r3 (below_step BX.out (Q.b (w0 := wX) (g := gX) (x := x) (A := A) (c := c) (B := B) (d := d) (by assumption)))); (case r4 => exact Kd.C_below HR.out.r4 (below_step BX.out (Q.b (w0 := wX) (g := gX) (x := x) (A := A) (c := c) (B := B) (d := d) (by assumption)))); rintro e w8 ⟨rfl, hb8⟩; have HS4 := Lib.hid (Q.next (w0 := wX) (g := gX) (x := x) (A := A) (c := c) (B := B) (d := d) (by assumption) hb8); clear hb8))
    all_goals
      go_wp2
      go_ret
      exact ⟨rfl, below_step BX.out HS4.out.b⟩
/-- The reference's Right. -/
theorem right5_calls (x : G) (A : Option Addr) (c : Nat) (B : Option Addr) (d : Nat) (w : World) (hr : GR w x A c B d) (h : Sz x) :
    Calls Tryd.prog 29 #[.agg (gC x A c B d)] w fun e w' => e = .returned (.bool (okB x)) ∧ Below w.heap.size w w' := by
  obtain ⟨k1, k2, k3, hk⟩ := RG.ex x h
  exact right5_walk x A c B d k1 k2 k3 _ _ _ w hr hk
end Go.Proofs.YtlcfhmnjdkhkoaaDoor.Seg
/- The walks of slices.Clone at spans and at sites. -/
namespace Go.Proofs.YtlcfhmnjdkhkoaaDoor.Seg
open Go.RowKit Go.Proofs.YtlcfhmnjdkhkoaaDoorW.PrintWords Go.Proofs.YtlcfhmnjdkhkoaaDoorW.PrintLast Go.Proofs.YtlcfhmnjdkhkoaaDoorW.PrintMore Go.Proofs.YtlcfhmnjdkhkoaaDoor.Rope Go.Proofs.YtlcfhmnjdkhkoaaDoor.PViewRuns Go.Proofs.YtlcfhmnjdkhkoaaDoor.Pure
set_option linter.unusedVariables false
set_option linter.unusedSimpArgs false
theorem infoC78 : (Tryd.prog.info? 78).map (fun i => (i.zero, i.size, i.bytes)) = some (some (.agg #[.int .i64 0, .int .i64 0, .int .i64 0]), 3, 24) := by kernel_rfl
theorem infoC81 : (Tryd.prog.info? 81).map (fun i => (i.zero, i.size, i.bytes)) = some (some (.agg #[.int .i64 0, .int .i64 0]), 2, 16) := by kernel_rfl
theorem k78_M_of_K {w : World} {base : Nat} {ok : Nat → Prop} (x : S78) (cs : List Value) (h : k78.K w x cs) : k78.M w base ok x cs := by
  obtain rfl := k78_open h
  exact k78_mkM _ _ _ _
set_option maxHeartbeats 800000 in
set_option maxRecDepth 100000 in
theorem clone78 (A : Option Addr) (c : Nat) (xs : List S78) (w : World) (hr : Kd.C k78 w A xs.length xs) (hc : xs.length ≤ c) (hl : xs.length * 24 ≤ 140737488355328) :
    Calls Tryd.prog 39 #[.slice A xs.length c] w fun e w' => ∃ v, e = .returned v ∧ Kd.R k78 78 w' w.heap.size (fun _ => True) v xs ∧ Below w.heap.size w w' := by
  have qn : ∀ (w : World) (a : Option Addr) (n c : Nat), (binOp .eql 30 (.slice a n c) (.slice none 0 0)).run Tryd.prog w = .ok (.bool a.isNone) w := fun w a n c => Lib.run_eql_slice_nil w _ _ a n c 0 0 Tryd.underlying30
  have HR := Lib.hid hr
  have HC := Lib.hid hc
  have HL := Lib.hid hl
  cases A with
  | none =>
    have hx : xs = [] := by
      rcases Nat.eq_zero_or_pos xs.length with h0 | h0
      · exact List.length_eq_zero_iff.1 h0
      · obtain ⟨_, e, _⟩ := hr.2.2 h0
        cases e
    clear hr hc hl
    go_enter Tryd.func39, Tryd.ntmps39
    go_wp2
    go_ret
    subst hx
    exact ⟨_, rfl, Kd.R_nil _ _ _ _ _, Below.refl _ _⟩
  | some ad =>
    clear hr hc hl
    go_enter Tryd.func39, Tryd.ntmps39
    go_wp2_with (first
      | ((with_reducible refine gate_dst (N := 5) rfl ?_)
         refine Kd.R_lit k78 _ 78 ?hg (N := 5) ?hd (xs := ([] : List S78)) (inner := []) (ok := fun _ => True) (okp := fun _ => True) ?hr ?hp (fun _ hk => hk) trivial (Below.refl _ _) (Nat.le_refl _) (by simp) ?_
         (case hd => rfl); (case hg => rfl); (case hr => first | (go_simp; done) | (go_simp; rfl)); (case hp => exact Reps.none _ _)
         intro v1 w1 HO HB hg hat; have HO1 := Lib.hid HO; have HB1 := Lib.hid HB; clear HO HB hg hat)
      | ((with_reducible refine gate_dst (N := 7) rfl ?_)
         refine Kd.R_append_rows k78 _ ?hg (.tmp 5) (.tmp 6) 30 78 (.agg #[.int .i64 0, .int .i64 0, .int .i64 0]) 24 rfl Tryd.underlying30 infoC78 rfl (by decide) (by decide) _ [] xs (some ad) xs.length c (fun _ => True) (fun k => some k ≠ v1.ownBlock) rfl rfl HO1.out (Kd.C_below HR.out HB1.out) (fun x cs h => k78_M_of_K x cs h) (fun _ h => ⟨trivial, h⟩) (fun _ _ => trivial) HB1.out (HB1.out.size) (by have := HL.out; simpa using this) ?_
         (case hg => rfl)
         intro v2 w2 HO HB hg hat; have HO2 := Lib.hid HO; have HB2 := Lib.hid HB; clear HO HB hg hat))
    go_ret
    exact ⟨_, rfl, HO2.out, HB2.out⟩
theorem k81_M_of_K {w : World} {base : Nat} {ok : Nat → Prop} (x : S81) (cs : List Value) (h : k81.K w x cs) : k81.M w base ok x cs := by
  obtain rfl := k81_open h
  exact k81_mkM _ _ _ _
set_option maxHeartbeats 800000 in
set_option maxRecDepth 100000 in
theorem clone81 (A : Option Addr) (c : Nat) (xs : List S81) (w : World) (hr : Kd.C k81 w A xs.length xs) (hc : xs.length ≤ c) (hl : xs.length * 16 ≤ 140737488355328) :
    Calls Tryd.prog 40 #[.slice A xs.length c] w fun e w' => ∃ v, e = .returned v ∧ Kd.R k81 81 w' w.heap.size (fun _ => True) v xs ∧ Below w.heap.size w w' := by
  have qn : ∀ (w : World) (a : Option Addr) (n c : Nat), (binOp .eql 31 (.slice a n c) (.slice none 0 0)).run Tryd.prog w = .ok (.bool a.isNone) w := fun w a n c => Lib.run_eql_slice_nil w _ _ a n c 0 0 Tryd.underlying31
  have HR := Lib.hid hr
  have HC := Lib.hid hc
  have HL := Lib.hid hl
  cases A with
  | none =>
    have hx : xs = [] := by
      rcases Nat.eq_zero_or_pos xs.length with h0 | h0
      · exact List.length_eq_zero_iff.1 h0
      · obtain ⟨_, e, _⟩ := hr.2.2 h0
        cases e
    clear hr hc hl
    go_enter Tryd.func40, Tryd.ntmps40
    go_wp2
    go_ret
    subst hx
    exact ⟨_, rfl, Kd.R_nil _ _ _ _ _, Below.refl _ _⟩
  | some ad =>
    clear hr hc hl
    go_enter Tryd.func40, Tryd.ntmps40
    go_wp2_with (first
      | ((with_reducible refine gate_dst (N := 5) rfl ?_)
         refine Kd.R_lit k81 _ 81 ?hg (N := 5) ?hd (xs := ([] : List S81)) (inner := []) (ok := fun _ => True) (okp := fun _ => True) ?hr ?hp (fun _ hk => hk) trivial (Below.refl _ _) (Nat.le_refl _) (by simp) ?_
         (case hd => rfl); (case hg => rfl); (case hr => first | (go_simp; done) | (go_simp; rfl)); (case hp => exact Reps.none _ _)
         intro v1 w1 HO HB hg hat; have HO1 := Lib.hid HO; have HB1 := Lib.hid HB; clear HO HB hg hat)
      | ((with_reducible refine gate_dst (N := 7) rfl ?_)
         refine Kd.R_append_rows k81 _ ?hg (.tmp 5) (.tmp 6) 31 81 (.agg #[.int .i64 0, .int .i64 0]) 16 rfl Tryd.underlying31 infoC81 rfl (by decide) (by decide) _ [] xs (some ad) xs.length c (fun _ => True) (fun k => some k ≠ v1.ownBlock) rfl rfl HO1.out (Kd.C_below HR.out HB1.out) (fun x cs h => k81_M_of_K x cs h) (fun _ h => ⟨trivial, h⟩) (fun _ _ => trivial) HB1.out (HB1.out.size) (by have := HL.out; simpa using this) ?_
         (case hg => rfl)
         intro v2 w2 HO HB hg hat; have HO2 := Lib.hid HO; have HB2 := Lib.hid HB; clear HO HB hg hat))
    go_ret
    exact ⟨_, rfl, HO2.out, HB2.out⟩
end Go.Proofs.YtlcfhmnjdkhkoaaDoor.Seg
/- Segments: what a segment's value is; the walk of segment.Load. Conditions: at most 2^40 bytes, spans, sites; Go's two tables of utf8 as they are laid. -/
namespace Go.Proofs.YtlcfhmnjdkhkoaaDoor.Seg
open Go.RowKit Go.Proofs.YtlcfhmnjdkhkoaaDoorW.PrintWords Go.Proofs.YtlcfhmnjdkhkoaaDoorW.PrintLast Go.Proofs.YtlcfhmnjdkhkoaaDoorW.PrintMore Go.Proofs.YtlcfhmnjdkhkoaaDoor.Rope Go.Proofs.YtlcfhmnjdkhkoaaDoor.PViewRuns Go.Proofs.YtlcfhmnjdkhkoaaDoor.Pure
set_option linter.unusedVariables false
set_option linter.unusedSimpArgs false
theorem addS_blk (a : Addr) (i : Nat) : (a.add i).block = a.block := by unfold Addr.add; split <;> rfl
theorem cellS_blk {w w1 : World} {a : Addr} (h : w1.heap[a.block]? = w.heap[a.block]?) : w1.cell? a = w.cell? a := by simp [World.cell?, h]
theorem C_moveK {α : Type} {d : Kd α} {w w1 : World} {A : Option Addr} {n : Nat} {xs : List α} (hK : ∀ x cs, d.K w x cs → d.K w1 x cs) (h : Kd.C d w A n xs) (hm : ∀ ad, A = some ad → w1.heap[ad.block]? = w.heap[ad.block]?) : Kd.C d w1 A n xs := by
  refine ⟨h.1, h.2.1, fun hn => ?_⟩
  obtain ⟨ad, e, hc⟩ := h.2.2 hn
  refine ⟨ad, e, fun j p hj => ?_⟩
  obtain ⟨c, h1, h2, h3⟩ := hc j p hj
  refine ⟨c, h1, hK _ _ h2, fun i u hu => ?_⟩
  rw [cellS_blk (w := w) (by rw [addS_blk]; exact hm ad e)]
  exact h3 i u hu
theorem kS_any {w w1 : World} {x : S78} {cs : List Value} (h : kS.K w x cs) : kS.K w1 x cs := by rw [k78_open h]; exact k78_mk w1 x
theorem kY_any {w w1 : World} {x : S81} {cs : List Value} (h : kY.K w x cs) : kY.K w1 x cs := by rw [k81_open h]; exact k81_mk w1 x
/-- Rows of types that are known. -/
structure TR (w : World) (x : G) (A : Option Addr) (c : Nat) (B : Option Addr) (d : Nat) : Prop extends GR w x A c B d where
  t3 : ∀ ad, A = some ad → ∃ cs, w.heap[ad.block]? = some (.cells cs 78 (0, 0))
  t4 : ∀ ad, B = some ad → ∃ cs, w.heap[ad.block]? = some (.cells cs 81 (0, 0))
theorem TR.below {w w1 : World} {x : G} {A : Option Addr} {c : Nat} {B : Option Addr} {d : Nat} (h : TR w x A c B d) (hb : Below w.heap.size w w1) : TR w1 x A c B d :=
  ⟨h.toGR.below hb, fun ad e => by obtain ⟨cs, hc⟩ := h.t3 ad e; exact ⟨cs, blk_below hc hb⟩, fun ad e => by obtain ⟨cs, hc⟩ := h.t4 ad e; exact ⟨cs, blk_below hc hb⟩⟩
theorem TR.move {w w1 : World} {x : G} {A : Option Addr} {c : Nat} {B : Option Addr} {d : Nat} (h : TR w x A c B d) (m3 : ∀ (g : Nat) (cs : Array Value), w.heap[g]? = some (.cells cs 78 (0, 0)) → w1.heap[g]? = w.heap[g]?) (m4 : ∀ (g : Nat) (cs : Array Value), w.heap[g]? = some (.cells cs 81 (0, 0)) → w1.heap[g]? = w.heap[g]?) : TR w1 x A c B d :=
  ⟨⟨h.c3, h.c4, C_moveK (fun _ _ => kS_any) h.r3 (fun ad e => by obtain ⟨cs, hc⟩ := h.t3 ad e; exact m3 _ cs hc), C_moveK (fun _ _ => kY_any) h.r4 (fun ad e => by obtain ⟨cs, hc⟩ := h.t4 ad e; exact m4 _ cs hc)⟩,
    fun ad e => by obtain ⟨cs, hc⟩ := h.t3 ad e; exact ⟨cs, (m3 _ cs hc).trans hc⟩, fun ad e => by obtain ⟨cs, hc⟩ := h.t4 ad e; exact ⟨cs, (m4 _ cs hc).trans hc⟩⟩
theorem TR.of {w : World} {x : G} {base base' : Nat} {ok ok' : Nat → Prop} {A : Option Addr} {c : Nat} {B : Option Addr} {d : Nat} (h3 : Kd.R kS 78 w base ok (.slice A x.f3.length c) x.f3) (h4 : Kd.R kY 81 w base' ok' (.slice B x.f4.length d) x.f4) : TR w x A c B d := by
  obtain ⟨_, c3, r3⟩ := Kd.R_reads' h3
  obtain ⟨_, c4, r4⟩ := Kd.R_reads' h4
  obtain ⟨i3, o3⟩ := Kd.R_own h3
  obtain ⟨i4, o4⟩ := Kd.R_own h4
  exact ⟨⟨c3, c4, r3, r4⟩, fun ad e => by subst e; exact own_typed o3 ad.block rfl, fun ad e => by subst e; exact own_typed o4 ad.block rfl⟩
/-- A segment's cells. -/
abbrev sgC (x : G) (p A : Option Addr) (c : Nat) (B : Option Addr) (d : Nat) : Array Value := #[.int .i64 x.f0, .int .i64 x.f1, .pointer p, .slice A x.f3.length c, .slice B x.f4.length d]
abbrev zC : Array Value := #[.int .i64 0, .int .i64 0, .pointer none, .slice none 0 0, .slice none 0 0]
/-- What they lead to. -/
structure SP (w : World) (x : G) (p A : Option Addr) (c : Nat) (B : Option Addr) (d : Nat) : Prop extends TR w x A c B d where
  rp : Rp w p x.f2
theorem SP.below {w w1 : World} {x : G} {p A : Option Addr} {c : Nat} {B : Option Addr} {d : Nat} (h : SP w x p A c B d) (hb : Below w.heap.size w w1) : SP w1 x p A c B d := ⟨h.toTR.below hb, h.rp.below hb⟩
theorem SP.move {w w1 : World} {x : G} {p A : Option Addr} {c : Nat} {B : Option Addr} {d : Nat} (h : SP w x p A c B d) (m3 : ∀ (g : Nat) (cs : Array Value), w.heap[g]? = some (.cells cs 78 (0, 0)) → w1.heap[g]? = w.heap[g]?) (m4 : ∀ (g : Nat) (cs : Array Value), w.heap[g]? = some (.cells cs 81 (0, 0)) → w1.heap[g]? = w.heap[g]?) (m : ∀ (g : Nat) (cs : Array Value), w.heap[g]? = some (.cells cs 93 (0, 0)) → w1.heap[g]? = w.heap[g]?) : SP w1 x p A c B d := ⟨h.toTR.move m3 m4, h.rp.move m⟩
theorem rp_none (w : World) : Rp w none ⟨#[]⟩ := ⟨none, [], ⟨rfl, rfl, Nat.zero_le _⟩, rfl⟩
/-- What holds behind New. -/
structure Le (w : World) (gX gR : Nat) (x : G) (A : Option Addr) (c : Nat) (B : Option Addr) (d : Nat) (p : Option Addr) (s : ByteArray) (W : World) : Prop where
  b : Below w.heap.size w W
  hX : W.heap[gX]? = some (.cells (gC x A c B d) 33 (0, 0))
  hR : W.heap[gR]? = some (.cells zC 57 (0, 0))
  rp : Rp W p s
theorem Le.next {w W W' : World} {gX gR : Nat} {x : G} {A : Option Addr} {c : Nat} {B : Option Addr} {d : Nat} {p : Option Addr} {s : ByteArray} (h : Le w gX gR x A c B d p s W) (hb : Below W.heap.size W W') : Le w gX gR x A c B d p s W' := ⟨below_step h.b hb, blk_below h.hX hb, blk_below h.hR hb, h.rp.below hb⟩
/-- .. and behind the marks. -/
structure Lm (w : World) (gX gR : Nat) (x : G) (A : Option Addr) (c : Nat) (B : Option Addr) (d : Nat) (p : Option Addr) (s : ByteArray) (gM : Nat) (A5 : Option Addr) (c5 : Nat) (A6 : Option Addr) (c6 : Nat) (W : World) : Prop extends Le w gX gR x A c B d p s W where
  hM : W.heap[gM]? = some (.cells #[.slice A5 x.f3.length c5, .slice A6 x.f4.length c6] 55 (0, 0))
  tr : TR W x A5 c5 A6 c6
theorem Lm.next {w W W' : World} {gX gR : Nat} {x : G} {A : Option Addr} {c : Nat} {B : Option Addr} {d : Nat} {p : Option Addr} {s : ByteArray} {gM : Nat} {A5 : Option Addr} {c5 : Nat} {A6 : Option Addr} {c6 : Nat} (h : Lm w gX gR x A c B d p s gM A5 c5 A6 c6 W) (hb : Below W.heap.size W W') : Lm w gX gR x A c B d p s gM A5 c5 A6 c6 W' := ⟨h.toLe.next hb, blk_below h.hM hb, h.tr.below hb⟩
theorem set_typeS {W : World} {k : Nat} {cs0 : Array Value} {t0 : TypeId} (hk : W.heap[k]? = some (.cells cs0 t0 (0, 0))) {t : TypeId} (ht : t ≠ t0) (j : Nat) (u : Value) : ∀ (g : Nat) (cs : Array Value), W.heap[g]? = some (.cells cs t (0, 0)) → (W.setCell ⟨k, j, none⟩ u).heap[g]? = W.heap[g]? := by
  intro g cs hc
  exact Below.heap_setCell W ⟨k, j, none⟩ u g (blk_ne hc hk ht)
theorem tr_set2 {w : World} {x : G} {A : Option Addr} {c : Nat} {B : Option Addr} {d : Nat} (h : TR w x A c B d) {g : Nat} {cs0 : Array Value} (hM : w.heap[g]? = some (.cells cs0 55 (0, 0))) (u0 u1 : Value) : TR ((w.setCell ⟨g, 0, none⟩ u0).setCell ⟨g, 1, none⟩ u1) x A c B d :=
  (h.move (set_typeS hM (by decide) _ _) (set_typeS hM (by decide) _ _)).move (set_typeS (blk_set hM 0 u0) (by decide) _ _) (set_typeS (blk_set hM 0 u0) (by decide) _ _)
theorem gen2 {φ P : World → Prop} {w : World} (h : P w) (k : ∀ W, P W → φ W) : φ w := k w h
theorem genM {Γ : Prop} {W W' : World} {g : Nat} (h : W.heap[g]? = some (.cells #[.slice none 0 0, .slice none 0 0] 55 (0, 0))) (hb : Below W.heap.size W W') (k : Hid (W'.heap[g]? = some (.cells #[.slice none 0 0, .slice none 0 0] 55 (0, 0))) → Γ) : Γ := k (Lib.hid (blk_below h hb))
abbrev Q2 (V : World) (gX : Nat) (x : G) (A : Option Addr) (c : Nat) (B : Option Addr) (d : Nat) (w' : World) : Prop :=
  w'.cell? ⟨gX, 3, none⟩ = some (.slice A x.f3.length c) ∧ w'.cell? ⟨gX, 4, none⟩ = some (.slice B x.f4.length d) ∧ Below V.heap.size V w'
theorem Q2.b {V W : World} {gX : Nat} {x : G} {A : Option Addr} {c : Nat} {B : Option Addr} {d : Nat} (h : Q2 V gX x A c B d W) : Below V.heap.size V W := h.2.2
theorem Q2.next {V W W' : World} {gX : Nat} {x : G} {A : Option Addr} {c : Nat} {B : Option Addr} {d : Nat} (h : Q2 V gX x A c B d W) (hb : Below W.heap.size W W') : Q2 V gX x A c B d W' :=
  ⟨pw_cell_below hb h.1, pw_cell_below hb h.2.1, below_step h.2.2 hb⟩
theorem Q2.of {V W : World} {gX : Nat} {x : G} {A : Option Addr} {c : Nat} {B : Option Addr} {d : Nat} (h : V.heap[gX]? = some (.cells (gC x A c B d) 33 (0, 0))) (hb : Below V.heap.size V W) : Q2 V gX x A c B d W :=
  have h' := blk_below h hb
  ⟨blk_cell h' 3, blk_cell h' 4, hb⟩
set_option maxRecDepth 1000000 in
set_option maxHeartbeats 4000000 in
theorem load_bad0 (x : G) (A : Option Addr) (c : Nat) (B : Option Addr) (d : Nat) (w : World) (hT : Tabs w) (hr : GR w x A c B d) (h : Sz x) (hv : Lib.validD x.f2.data.toList = false) :
    Calls Tryd.prog 22 #[.agg (gC x A c B d)] w fun e w' => e = .returned (.tuple #[.agg zC, .bool false]) ∧ Below w.heap.size w w' := by
  have HT := Lib.hid hT
  have HR := Lib.hid hr
  have HZ := Lib.hid h
  have HV := Lib.hid hv
  clear hT hr h hv
  go_enter Tryd.func22, Tryd.ntmps22
  go_upto_region 1 with (first | ((with_reducible refine gate_dst (N := 1) rfl ?_); refine box_event ?hg (N := 1) ?hd (cs := gC x A c B d) (t := 33) ?hr ?_; (case hd => rfl); (case hg => rfl); (case hr => first | (go_simp; done) | (go_simp; rfl)); intro gX hgX wX hxX hbX; have BX := Lib.hid hbX; have XX := Lib.hid hxX; clear hgX hxX hbX) | ((with_reducible refine gate_dst (N := 2) rfl ?_); refine box_event ?hg (N := 2) ?hd (cs := zC) (t := 57) ?hr ?_; (case hd => rfl); (case hg => rfl); (case hr => first | (go_simp; done) | (go_simp; rfl)); intro gR hgR wR hxR hbR; have BR := Lib.hid (below_step BX.out hbR); have GR_ := Lib.hid (show w.heap.size ≤ gR by rw [hgR]; exact BX.out.size); have XR := Lib.hid hxR; have X1 := Lib.hid (blk_below XX.out hbR); clear hgR hxR hbR))
  have a2 := blk_cell X1.out 2
  go_upto_region 2 with (first | (go_at_call 38; refine (new_wrong x.f2 _ HZ.out.s2 (HT.out.below BR.out) HV.out).mono ?_; rintro e w1 ⟨v1, rfl, hi, hb⟩; have e1 : v1 = .pointer none := hi; subst e1; have P1 := Lib.hid (show Le w gX gR x A c B d none ⟨#[]⟩ w1 from ⟨below_step BR.out hb, blk_below X1.out hb, blk_below XR.out hb, rp_none _⟩); clear hi hb))
  clear a2
  have QS := Lib.hid (Q2.of P1.out.hX (Below.refl _ _))
  go_region_held3 (fun w' => Q2 w1 gX x A c B d w')
    (first | (with_reducible assumption) | (with_reducible exact HS5.out) | (with_reducible exact HS6.out) | (with_reducible exact Q2.of P1.out.hX (below_set (Q2.b HS6.out) (Nat.le_refl _))) | (with_reducible exact Q2.of P1.out.hX (below_set (below_set (Q2.b HS6.out) (Nat.le_refl _)) (Nat.le_refl _))) | (with_reducible exact Q2.of P1.out.hX (below_set (Q2.b HS6.out) (Q2.b HS5.out).size)) | (with_reducible exact Q2.of P1.out.hX (below_set (below_set (Q2.b HS6.out) (Q2.b HS5.out).size) (Q2.b HS5.out).size)) | (with_reducible exact Q2.next HS5.out (below_alloc (Below.refl _ _) _)) | (with_reducible exact Q2.next HS6.out (below_alloc (Below.refl _ _) _)) | exact QS.out.next (by (with_reducible repeat (first | exact Below.refl _ _ | apply pw_below_drewN | apply Below.drew | apply below_alloc))))
    (first
    | (go_at_call 39; (refine (clone78 A c x.f3 _ ?ca HR.out.c3 ?cl).mono ?_); (case ca => exact Kd.C_below HR.out.r3 (below_step P1.out.b (Q2.b (V := w1) (gX := gX) (x := x) (A := A) (c := c) (B := B) (d := d) (by assumption)))); (case cl => have := HZ.out.s3; omega); rintro e w5 ⟨v5, rfl, hr5, hb5⟩; obtain ⟨A5, c5, e5⟩ := Kd.R_slice hr5; subst e5; have HS5 := Lib.hid (Q2.next (V := w1) (gX := gX) (x := x) (A := A) (c := c) (B := B) (d := d) (by assumption) hb5); have R5 := Lib.hid hr5; (first | (refine genM (g := w1.heap.size) ?hq1 hb5 (fun M5 => ?_); (case hq1 => first | exact blk_newS rfl | exact blk_drew (blk_newS rfl))) | skip); clear hr5 hb5)
    | (go_at_call 40; (refine (clone81 B d x.f4 _ ?cb HR.out.c4 ?cm).mono ?_); (case cb => exact Kd.C_below HR.out.r4 (below_step P1.out.b (Q2.b (V := w1) (gX := gX) (x := x) (A := A) (c := c) (B := B) (d := d) (by assumption)))); (case cm => have := HZ.out.s4; omega); rintro e w6 ⟨v6, rfl, hr6, hb6⟩; obtain ⟨A6, c6, e6⟩ := Kd.R_slice hr6; subst e6; have HS6 := Lib.hid (Q2.next (V := w1) (gX := gX) (x := x) (A := A) (c := c) (B := B) (d := d) (by assumption) hb6); have R6 := Lib.hid hr6; have R5b := Lib.hid (Kd.R_below R5.out (below_step (by (with_reducible repeat (first | exact Below.refl _ _ | apply pw_below_drewN | apply Below.drew | apply below_alloc))) hb6)); (first | (refine genM (g := w1.heap.size) M5.out hb6 (fun M6 => ?_); have q0 := (blk_cell M6.out 0).trans rfl; have q1 := (blk_cell M6.out 1).trans rfl; have q2 := blk_frozen M6.out 0; have q3 := blk_frozen M6.out 1) | (refine genM (g := w5.heap.size) ?hq2 hb6 (fun M6 => ?_); (case hq2 => first | exact blk_newS rfl | exact blk_drew (blk_newS rfl)); have q0 := (blk_cell M6.out 0).trans rfl; have q1 := (blk_cell M6.out 1).trans rfl; have q2 := blk_frozen M6.out 0; have q3 := blk_frozen M6.out 1) | skip); clear hr6 hb6))
  all_goals
    go_upto_region 3 with (fail)
    first
      | (refine gen2 (φ := fun W => Code.wp _ _ _ _ W) (P := fun W => Lm w gX gR x A c B d none ⟨#[]⟩ w1.heap.size A5 c5 A6 c6 W) ⟨P1.out.next (below_set (below_set (Q2.b HS6.out) (Nat.le_refl _)) (Nat.le_refl _)), by simpa using blk_set (blk_set M6.out 0 (.slice A5 x.f3.length c5)) 1 (.slice A6 x.f4.length c6), tr_set2 (TR.of R5b.out R6.out) M6.out _ _⟩ ?_; clear q0 q1 q2 q3 M6; generalize w1.heap.size = gM)
      | (refine gen2 (φ := fun W => Code.wp _ _ _ _ W) (P := fun W => Lm w gX gR x A c B d none ⟨#[]⟩ w5.heap.size A5 c5 A6 c6 W) ⟨P1.out.next (below_set (below_set (Q2.b HS6.out) (Q2.b HS5.out).size) (Q2.b HS5.out).size), by simpa using blk_set (blk_set M6.out 0 (.slice A5 x.f3.length c5)) 1 (.slice A6 x.f4.length c6), tr_set2 (TR.of R5b.out R6.out) M6.out _ _⟩ ?_; clear q0 q1 q2 q3 M6; generalize w5.heap.size = gM)
      | (refine gen2 (φ := fun W => Code.wp _ _ _ _ W) (P := fun W => Lm w gX gR x A c B d none ⟨#[]⟩ w6.heap.size A5 c5 A6 c6 W) ⟨P1.out.next (below_alloc (Q2.b HS6.out) _), blk_newS rfl, (TR.of R5b.out R6.out).below (below_alloc (Below.refl _ _) _)⟩ ?_; generalize w6.heap.size = gM)
    rintro V hV
    have PV := Lib.hid hV
    have m0 := (blk_cell hV.hM 0).trans rfl
    have m1 := (blk_cell hV.hM 1).trans rfl
    clear hV P1 QS HS5 HS6 R5 R6 R5b
  all_goals
    have r0 := blk_cell PV.out.hR 0
    have r1 := blk_cell PV.out.hR 1
    have r2 := blk_cell PV.out.hR 2
    have r3 := blk_cell PV.out.hR 3
    have r4 := blk_cell PV.out.hR 4
    have f0 := blk_frozen PV.out.hR 0
    have f1 := blk_frozen PV.out.hR 1
    have f2 := blk_frozen PV.out.hR 2
    have f3 := blk_frozen PV.out.hR 3
    have f4 := blk_frozen PV.out.hR 4
    go_quiet (fail)
    go_wp2
    have hD : (V.drewN nq).heap[gR]? = some (.cells zC 57 (0, 0)) := blk_below PV.out.hR (pw_below_drewN (Below.refl _ _) _)
    refine bodyPost_ret (results_ct rfl _ _ gR 57 zC (0, 0) _ rfl (by simpa using blk_set (blk_set (blk_set (blk_set (blk_set hD 0 (.int .i64 0)) 1 (.int .i64 0)) 2 (.pointer none)) 3 (.slice none 0 0)) 4 (.slice none 0 0)) Tryd.underlying57 rfl (by kernel_rfl)) rfl ?_
    exact ⟨rfl, below_set (below_set (below_set (below_set (below_set (pw_below_drewN PV.out.b _) GR_.out) GR_.out) GR_.out) GR_.out) GR_.out⟩
theorem new_rpS (s : ByteArray) (w : World) (hs : s.size ≤ 1099511627776) (hT : Tabs w) (hv : Lib.validD s.data.toList = true) :
    Calls Tryd.prog 38 #[.string s] w fun e w' => ∃ p, e = .returned (.tuple #[.pointer p, .bool true]) ∧ Rp w' p s ∧ Below w.heap.size w w' := by
  obtain ⟨cs, hl, h⟩ := (validD_iff _).1 hv
  refine (new_calls s w hs hT hl h).mono ?_
  rintro e w' ⟨v, rfl, hi, hb⟩
  obtain ⟨b, rfl, hr⟩ := hi.rp h
  exact ⟨b, rfl, hr, hb⟩
theorem len_rpb {w : World} {p : Option Addr} {s : ByteArray} (h : Rp w p s) (hs : s.size ≤ 1099511627776) : Calls Tryd.prog 33 #[.pointer p] w fun e w' => e = .returned (.int .i64 (cnt s)) ∧ Below w.heap.size w w' :=
  (len_rp h hs).mono (by rintro e w' ⟨rfl, rfl⟩; exact ⟨rfl, Below.refl _ _⟩)
theorem sp_set {w : World} {x : G} {p A : Option Addr} {c : Nat} {B : Option Addr} {d : Nat} {g : Nat} {cs0 : Array Value} (h : SP w x p A c B d ∧ w.heap[g]? = some (.cells cs0 57 (0, 0))) (j : Nat) (u : Value) : SP (w.setCell ⟨g, j, none⟩ u) x p A c B d ∧ (w.setCell ⟨g, j, none⟩ u).heap[g]? = some (.cells (cs0.setIfInBounds j u) 57 (0, 0)) :=
  ⟨h.1.move (set_typeS h.2 (by decide) _ _) (set_typeS h.2 (by decide) _ _) (set_typeS h.2 (by decide) _ _), blk_set h.2 j u⟩
abbrev QM (V : World) (gM : Nat) (x : G) (A : Option Addr) (c : Nat) (B : Option Addr) (d : Nat) (w' : World) : Prop :=
  w'.cell? ⟨gM, 0, none⟩ = some (.slice A x.f3.length c) ∧ w'.cell? ⟨gM, 1, none⟩ = some (.slice B x.f4.length d) ∧ Below V.heap.size V w'
theorem QM.b {V W : World} {gX : Nat} {x : G} {A : Option Addr} {c : Nat} {B : Option Addr} {d : Nat} (h : QM V gX x A c B d W) : Below V.heap.size V W := h.2.2
theorem QM.next {V W W' : World} {gX : Nat} {x : G} {A : Option Addr} {c : Nat} {B : Option Addr} {d : Nat} (h : QM V gX x A c B d W) (hb : Below W.heap.size W W') : QM V gX x A c B d W' :=
  ⟨pw_cell_below hb h.1, pw_cell_below hb h.2.1, below_step h.2.2 hb⟩
theorem QM.of {V W : World} {gX : Nat} {x : G} {A : Option Addr} {c : Nat} {B : Option Addr} {d : Nat} (h : V.heap[gX]? = some (.cells #[.slice A x.f3.length c, .slice B x.f4.length d] 55 (0, 0))) (hb : Below V.heap.size V W) : QM V gX x A c B d W :=
  have h' := blk_below h hb
  ⟨blk_cell h' 0, blk_cell h' 1, hb⟩
/-- A segment comes back. -/
def RetSeg (x : G) (w : World) (e : Ending) (w' : World) : Prop := ∃ p A c B d, e = .returned (.tuple #[.agg (sgC x p A c B d), .bool true]) ∧ SP w' x p A c B d ∧ Below w.heap.size w w'
set_option maxRecDepth 1000000 in
set_option maxHeartbeats 4000000 in
theorem load_valid (x : G) (A : Option Addr) (c : Nat) (B : Option Addr) (d : Nat) (w : World) (hT : Tabs w) (hr : GR w x A c B d) (h : Sz x) (hv : Lib.validD x.f2.data.toList = true) :
    Calls Tryd.prog 22 #[.agg (gC x A c B d)] w fun e w' => if rightB (cnt x.f2) x.f3 x.f4 = true then RetSeg x w e w' else e = .returned (.tuple #[.agg zC, .bool false]) ∧ Below w.heap.size w w' := by
  obtain ⟨km, hkm⟩ := Go.Proofs.YtlcfhmnjdkhkoaaDoorW.PrintWords.Ev.rounds (marks_Right_ev (cnt x.f2) x.f3 x.f4 (by have := h.s3; omega) (by have := h.s4; omega))
  have HT := Lib.hid hT
  have HR := Lib.hid hr
  have HZ := Lib.hid h
  have HV := Lib.hid hv
  clear hT hr h hv
  generalize rightB (cnt x.f2) x.f3 x.f4 = r at hkm ⊢
  have KM := Lib.hid hkm
  clear hkm
  go_enter Tryd.func22, Tryd.ntmps22
  go_upto_region 1 with (first | ((with_reducible refine gate_dst (N := 1) rfl ?_); refine box_event ?hg (N := 1) ?hd (cs := gC x A c B d) (t := 33) ?hr ?_; (case hd => rfl); (case hg => rfl); (case hr => first | (go_simp; done) | (go_simp; rfl)); intro gX hgX wX hxX hbX; have BX := Lib.hid hbX; have XX := Lib.hid hxX; clear hgX hxX hbX) | ((with_reducible refine gate_dst (N := 2) rfl ?_); refine box_event ?hg (N := 2) ?hd (cs := zC) (t := 57) ?hr ?_; (case hd => rfl); (case hg => rfl); (case hr => first | (go_simp; done) | (go_simp; rfl)); intro gR hgR wR hxR hbR; have BR := Lib.hid (below_step BX.out hbR); have GR_ := Lib.hid (show w.heap.size ≤ gR by rw [hgR]; exact BX.out.size); have XR := Lib.hid hxR; have X1 := Lib.hid (blk_below XX.out hbR); clear hgR hxR hbR))
  have a2 := blk_cell X1.out 2
  go_upto_region 2 with (first | (go_at_call 38; refine (new_rpS x.f2 _ HZ.out.s2 (HT.out.below BR.out) HV.out).mono ?_; rintro e w1 ⟨p, rfl, hi, hb⟩; have P1 := Lib.hid (show Le w gX gR x A c B d p x.f2 w1 from ⟨below_step BR.out hb, blk_below X1.out hb, blk_below XR.out hb, hi⟩); clear hi hb))
  clear a2
  have QS := Lib.hid (Q2.of P1.out.hX (Below.refl _ _))
  go_region_held3 (fun w' => Q2 w1 gX x A c B d w')
    (first | (with_reducible assumption) | (with_reducible exact HS5.out) | (with_reducible exact HS6.out) | (with_reducible exact Q2.of P1.out.hX (below_set (Q2.b HS6.out) (Nat.le_refl _))) | (with_reducible exact Q2.of P1.out.hX (below_set (below_set (Q2.b HS6.out) (Nat.le_refl _)) (Nat.le_refl _))) | (with_reducible exact Q2.of P1.out.hX (below_set (Q2.b HS6.out) (Q2.b HS5.out).size)) | (with_reducible exact Q2.of P1.out.hX (below_set (below_set (Q2.b HS6.out) (Q2.b HS5.out).size) (Q2.b HS5.out).size)) | (with_reducible exact Q2.next HS5.out (below_alloc (Below.refl _ _) _)) | (with_reducible exact Q2.next HS6.out (below_alloc (Below.refl _ _) _)) | exact QS.out.next (by (with_reducible repeat (first | exact Below.refl _ _ | apply pw_below_drewN | apply Below.drew | apply below_alloc))))
    (first
    | (go_at_call 39; (refine (clone78 A c x.f3 _ ?ca HR.out.c3 ?cl).mono ?_); (case ca => exact Kd.C_below HR.out.r3 (below_step P1.out.b (Q2.b (V := w1) (gX := gX) (x := x) (A := A) (c := c) (B := B) (d := d) (by assumption)))); (case cl => have := HZ.out.s3; omega); rintro e w5 ⟨v5, rfl, hr5, hb5⟩; obtain ⟨A5, c5, e5⟩ := Kd.R_slice hr5; subst e5; have HS5 := Lib.hid (Q2.next (V := w1) (gX := gX) (x := x) (A := A) (c := c) (B := B) (d := d) (by assumption) hb5); have R5 := Lib.hid hr5; (first | (refine genM (g := w1.heap.size) ?hq1 hb5 (fun M5 => ?_); (case hq1 => first | exact blk_newS rfl | exact blk_drew (blk_newS rfl))) | skip); clear hr5 hb5)
    | (go_at_call 40; (refine (clone81 B d x.f4 _ ?cb HR.out.c4 ?cm).mono ?_); (case cb => exact Kd.C_below HR.out.r4 (below_step P1.out.b (Q2.b (V := w1) (gX := gX) (x := x) (A := A) (c := c) (B := B) (d := d) (by assumption)))); (case cm => have := HZ.out.s4; omega); rintro e w6 ⟨v6, rfl, hr6, hb6⟩; obtain ⟨A6, c6, e6⟩ := Kd.R_slice hr6; subst e6; have HS6 := Lib.hid (Q2.next (V := w1) (gX := gX) (x := x) (A := A) (c := c) (B := B) (d := d) (by assumption) hb6); have R6 := Lib.hid hr6; have R5b := Lib.hid (Kd.R_below R5.out (below_step (by (with_reducible repeat (first | exact Below.refl _ _ | apply pw_below_drewN | apply Below.drew | apply below_alloc))) hb6)); (first | (refine genM (g := w1.heap.size) M5.out hb6 (fun M6 => ?_); have q0 := (blk_cell M6.out 0).trans rfl; have q1 := (blk_cell M6.out 1).trans rfl; have q2 := blk_frozen M6.out 0; have q3 := blk_frozen M6.out 1) | (refine genM (g := w5.heap.size) ?hq2 hb6 (fun M6 => ?_); (case hq2 => first | exact blk_newS rfl | exact blk_drew (blk_newS rfl)); have q0 := (blk_cell M6.out 0).trans rfl; have q1 := (blk_cell M6.out 1).trans rfl; have q2 := blk_frozen M6.out 0; have q3 := blk_frozen M6.out 1) | skip); clear hr6 hb6))
  all_goals
    go_upto_region 3 with (fail)
    first
      | (refine gen2 (φ := fun W => Code.wp _ _ _ _ W) (P := fun W => Lm w gX gR x A c B d p x.f2 w1.heap.size A5 c5 A6 c6 W) ⟨P1.out.next (below_set (below_set (Q2.b HS6.out) (Nat.le_refl _)) (Nat.le_refl _)), by simpa using blk_set (blk_set M6.out 0 (.slice A5 x.f3.length c5)) 1 (.slice A6 x.f4.length c6), tr_set2 (TR.of R5b.out R6.out) M6.out _ _⟩ ?_; clear q0 q1 q2 q3 M6; generalize w1.heap.size = gM)
      | (refine gen2 (φ := fun W => Code.wp _ _ _ _ W) (P := fun W => Lm w gX gR x A c B d p x.f2 w5.heap.size A5 c5 A6 c6 W) ⟨P1.out.next (below_set (below_set (Q2.b HS6.out) (Q2.b HS5.out).size) (Q2.b HS5.out).size), by simpa using blk_set (blk_set M6.out 0 (.slice A5 x.f3.length c5)) 1 (.slice A6 x.f4.length c6), tr_set2 (TR.of R5b.out R6.out) M6.out _ _⟩ ?_; clear q0 q1 q2 q3 M6; generalize w5.heap.size = gM)
      | (refine gen2 (φ := fun W => Code.wp _ _ _ _ W) (P := fun W => Lm w gX gR x A c B d p x.f2 w6.heap.size A5 c5 A6 c6 W) ⟨P1.out.next (below_alloc (Q2.b HS6.out) _), blk_newS rfl, (TR.of R5b.out R6.out).below (below_alloc (Below.refl _ _) _)⟩ ?_; generalize w6.heap.size = gM)
    rintro V hV
    have PV := Lib.hid hV
    have m0 := (blk_cell hV.hM 0).trans rfl
    have m1 := (blk_cell hV.hM 1).trans rfl
    clear hV P1 QS HS5 HS6 R5 R6 R5b
  all_goals
    have QN := Lib.hid (QM.of PV.out.hM (Below.refl _ _))
    clear m0 m1
    cases r with
    | false =>
      go_region_held3 (fun w' => QM V gM x A5 c5 A6 c6 w')
        (first | (with_reducible assumption) | (with_reducible exact HS7.out) | (with_reducible exact HS8.out) | exact QN.out.next (by (with_reducible repeat (first | exact Below.refl _ _ | apply pw_below_drewN | apply Below.drew | apply below_alloc))))
        (first
        | (go_at_call 33; (refine (len_rpb (p := p) (s := x.f2) ?ca HZ.out.s2).mono ?_); (case ca => exact PV.out.rp.below (QM.b (V := V) (gX := gM) (x := x) (A := A5) (c := c5) (B := A6) (d := c6) (by assumption))); rintro e w7 ⟨rfl, hb7⟩; have HS7 := Lib.hid (QM.next (V := V) (gX := gM) (x := x) (A := A5) (c := c5) (B := A6) (d := c6) (by assumption) hb7); clear hb7)
        | (go_at_call 41; (refine (marks_Right.calls km A5 c5 x.f3 A6 c6 x.f4 (cnt x.f2) false _ ?r3 PV.out.tr.c3 ?r4 PV.out.tr.c4 KM.out).mono ?_); (case r3 => exact Kd.C_below PV.out.tr.r3 (QM.b (V := V) (gX := gM) (x := x) (A := A5) (c := c5) (B := A6) (d := c6) (by assumption))); (case r4 => exact Kd.C_below PV.out.tr.r4 (QM.b (V := V) (gX := gM) (x := x) (A := A5) (c := c5) (B := A6) (d := c6) (by assumption))); rintro e w8 ⟨rfl, hb8⟩; have HS8 := Lib.hid (QM.next (V := V) (gX := gM) (x := x) (A := A5) (c := c5) (B := A6) (d := c6) (by assumption) hb8); clear hb8))
      all_goals
        have P8 := Lib.hid (PV.out.next (QM.b HS8.out))
        clear QN HS7 HS8
        have r0 := (blk_cell P8.out.hR 0).trans rfl
        have f0 := blk_frozen P8.out.hR 0
        have r1 := (blk_cell P8.out.hR 1).trans rfl
        have f1 := blk_frozen P8.out.hR 1
        have r2 := (blk_cell P8.out.hR 2).trans rfl
        have f2 := blk_frozen P8.out.hR 2
        have r3 := (blk_cell P8.out.hR 3).trans rfl
        have f3 := blk_frozen P8.out.hR 3
        have r4 := (blk_cell P8.out.hR 4).trans rfl
        have f4 := blk_frozen P8.out.hR 4
        go_wp2
        refine bodyPost_ret (results_ct rfl _ _ gR 57 zC (0, 0) _ rfl (by simpa using blk_set (blk_set (blk_set (blk_set (blk_set P8.out.hR 0 (.int .i64 0)) 1 (.int .i64 0)) 2 (.pointer none)) 3 (.slice none 0 0)) 4 (.slice none 0 0)) Tryd.underlying57 rfl (by kernel_rfl)) rfl ?_
        exact ⟨rfl, below_set (below_set (below_set (below_set (below_set P8.out.b GR_.out) GR_.out) GR_.out) GR_.out) GR_.out⟩
    | true =>
      go_region_held3 (fun w' => QM V gM x A5 c5 A6 c6 w')
        (first | (with_reducible assumption) | (with_reducible exact HS7.out) | (with_reducible exact HS8.out) | exact QN.out.next (by (with_reducible repeat (first | exact Below.refl _ _ | apply pw_below_drewN | apply Below.drew | apply below_alloc))))
        (first
        | (go_at_call 33; (refine (len_rpb (p := p) (s := x.f2) ?ca HZ.out.s2).mono ?_); (case ca => exact PV.out.rp.below (QM.b (V := V) (gX := gM) (x := x) (A := A5) (c := c5) (B := A6) (d := c6) (by assumption))); rintro e w7 ⟨rfl, hb7⟩; have HS7 := Lib.hid (QM.next (V := V) (gX := gM) (x := x) (A := A5) (c := c5) (B := A6) (d := c6) (by assumption) hb7); clear hb7)
        | (go_at_call 41; (refine (marks_Right.calls km A5 c5 x.f3 A6 c6 x.f4 (cnt x.f2) true _ ?r3 PV.out.tr.c3 ?r4 PV.out.tr.c4 KM.out).mono ?_); (case r3 => exact Kd.C_below PV.out.tr.r3 (QM.b (V := V) (gX := gM) (x := x) (A := A5) (c := c5) (B := A6) (d := c6) (by assumption))); (case r4 => exact Kd.C_below PV.out.tr.r4 (QM.b (V := V) (gX := gM) (x := x) (A := A5) (c := c5) (B := A6) (d := c6) (by assumption))); rintro e w8 ⟨rfl, hb8⟩; have HS8 := Lib.hid (QM.next (V := V) (gX := gM) (x := x) (A := A5) (c := c5) (B := A6) (d := c6) (by assumption) hb8); clear hb8))
      all_goals
        have P8 := Lib.hid (PV.out.next (QM.b HS8.out))
        clear QN HS7 HS8
        have r0 := (blk_cell P8.out.hR 0).trans rfl
        have f0 := blk_frozen P8.out.hR 0
        have r1 := (blk_cell P8.out.hR 1).trans rfl
        have f1 := blk_frozen P8.out.hR 1
        have r2 := (blk_cell P8.out.hR 2).trans rfl
        have f2 := blk_frozen P8.out.hR 2
        have r3 := (blk_cell P8.out.hR 3).trans rfl
        have f3 := blk_frozen P8.out.hR 3
        have r4 := (blk_cell P8.out.hR 4).trans rfl
        have f4 := blk_frozen P8.out.hR 4
        have x0_ := (blk_cell P8.out.hX 0).trans rfl
        have x1_ := (blk_cell P8.out.hX 1).trans rfl
        have m0 := (blk_cell P8.out.hM 0).trans rfl
        have m1 := (blk_cell P8.out.hM 1).trans rfl
        go_wp2
        have S5 := sp_set (sp_set (sp_set (sp_set (sp_set (show SP w8 x p A5 c5 A6 c6 ∧ w8.heap[gR]? = some (.cells zC 57 (0, 0)) from ⟨⟨P8.out.tr, P8.out.rp⟩, P8.out.hR⟩) 0 (.int .i64 x.f0)) 1 (.int .i64 x.f1)) 2 (.pointer p)) 3 (.slice A5 x.f3.length c5)) 4 (.slice A6 x.f4.length c6)
        refine bodyPost_ret (results_ct rfl _ _ gR 57 (sgC x p A5 c5 A6 c6) (0, 0) _ rfl (by simpa using S5.2) Tryd.underlying57 rfl (by kernel_rfl)) rfl ?_
        exact ⟨p, A5, c5, A6, c6, rfl, S5.1, below_set (below_set (below_set (below_set (below_set P8.out.b GR_.out) GR_.out) GR_.out) GR_.out) GR_.out⟩
/-- segment.Load at values that may be loaded, and at others. -/
theorem okB_true {x : G} (h : okB x = true) : Lib.validD x.f2.data.toList = true ∧ rightB (cnt x.f2) x.f3 x.f4 = true := by
  unfold okB at h
  simpa using h
theorem segLoad_good (x : G) (A : Option Addr) (c : Nat) (B : Option Addr) (d : Nat) (w : World) (hT : Tabs w) (hr : GR w x A c B d) (h : Sz x) (hv : okB x = true) :
    Calls Tryd.prog 22 #[.agg (gC x A c B d)] w (RetSeg x w) :=
  (load_valid x A c B d w hT hr h (okB_true hv).1).mono (by intro e w' h; rw [if_pos (okB_true hv).2] at h; exact h)
theorem segLoad_bad (x : G) (A : Option Addr) (c : Nat) (B : Option Addr) (d : Nat) (w : World) (hT : Tabs w) (hr : GR w x A c B d) (h : Sz x) (hv : okB x = false) :
    Calls Tryd.prog 22 #[.agg (gC x A c B d)] w fun e w' => e = .returned (.tuple #[.agg zC, .bool false]) ∧ Below w.heap.size w w' := by
  unfold okB at hv
  cases h1 : Lib.validD x.f2.data.toList with
  | false => exact load_bad0 x A c B d w hT hr h h1
  | true =>
    rw [h1, Bool.true_and] at hv
    exact (load_valid x A c B d w hT hr h h1).mono (by intro e w' h; rw [if_neg (by rw [hv]; decide)] at h; exact h)
end Go.Proofs.YtlcfhmnjdkhkoaaDoor.Seg
/- Segments: the walks of Plain, Id, Label, Rope. Conditions: at most 2^40 bytes, spans, sites. -/
namespace Go.Proofs.YtlcfhmnjdkhkoaaDoor.Seg
open Go.RowKit Go.Proofs.YtlcfhmnjdkhkoaaDoorW.PrintWords Go.Proofs.YtlcfhmnjdkhkoaaDoorW.PrintLast Go.Proofs.YtlcfhmnjdkhkoaaDoorW.PrintMore Go.Proofs.YtlcfhmnjdkhkoaaDoor.Rope Go.Proofs.YtlcfhmnjdkhkoaaDoor.PViewRuns Go.Proofs.YtlcfhmnjdkhkoaaDoor.Pure
set_option linter.unusedVariables false
set_option linter.unusedSimpArgs false
theorem R_moveT {α : Type} {d : Kd α} {e : Nat} {w w1 : World} {base : Nat} {ok : Nat → Prop} {v : Value} {xs : List α} (hE : d.E = []) (h : d.R e w base ok v xs) (m : ∀ (g : Nat) (cs : Array Value), w.heap[g]? = some (.cells cs e (0, 0)) → w1.heap[g]? = w.heap[g]?) : d.R e w1 base ok v xs :=
  Kd.R_mono (Kd.R_move (Kd.R_bound h) (fun k hk => by obtain ⟨_, _, _, q, hq, cs, hc⟩ := hk; rw [hE] at hq; have := List.mem_singleton.1 hq; subst this; exact m k cs hc)) (fun _ hk => hk.1)
theorem r_set {α : Type} {d : Kd α} {e : Nat} {w : World} {base : Nat} {ok : Nat → Prop} {v : Value} {xs : List α} {g : Nat} {cs0 : Array Value} (he : e ≠ 33) (hE : d.E = []) (h : d.R e w base ok v xs ∧ w.heap[g]? = some (.cells cs0 33 (0, 0))) (j : Nat) (u : Value) : d.R e (w.setCell ⟨g, j, none⟩ u) base ok v xs ∧ (w.setCell ⟨g, j, none⟩ u).heap[g]? = some (.cells (cs0.setIfInBounds j u) 33 (0, 0)) :=
  ⟨R_moveT hE h.1 (set_typeS h.2 he _ _), blk_set h.2 j u⟩
theorem text_rpS {w : World} {p : Option Addr} {s : ByteArray} (h : Rp w p s) : Calls Tryd.prog 28 #[.pointer p] w fun e w' => e = .returned (.string s) ∧ Below w.heap.size w w' := by
  obtain ⟨t, cs, hi, hs⟩ := h
  exact text_is hi s hs
set_option maxRecDepth 100000 in
set_option maxHeartbeats 800000 in
theorem id_calls (x : G) (p A : Option Addr) (c : Nat) (B : Option Addr) (d : Nat) (w : World) :
    Calls Tryd.prog 31 #[.agg (sgC x p A c B d)] w fun e w' => e = .returned (.int .i64 x.f0) ∧ Below w.heap.size w w' := by
  go_enter Tryd.func31, Tryd.ntmps31
  go_wp2
  go_ret
  refine ⟨rfl, ?_⟩
  repeat (first | exact Below.refl _ _ | apply below_alloc | (refine below_set ?_ (by simp; try omega)))
/-- A plain value of rows of the call's own. -/
def RetG (x : G) (w : World) (e : Ending) (w' : World) : Prop := ∃ A c B d, e = .returned (.agg (gC x A c B d)) ∧ Kd.R kS 78 w' w.heap.size (fun _ => True) (.slice A x.f3.length c) x.f3 ∧ Kd.R kY 81 w' w.heap.size (fun _ => True) (.slice B x.f4.length d) x.f4 ∧ Below w.heap.size w w'
abbrev Q5 (V : World) (gX : Nat) (x : G) (p A : Option Addr) (c : Nat) (B : Option Addr) (d : Nat) (w' : World) : Prop :=
  w'.cell? ⟨gX, 0, none⟩ = some (.int .i64 x.f0) ∧ w'.cell? ⟨gX, 1, none⟩ = some (.int .i64 x.f1) ∧ w'.cell? ⟨gX, 2, none⟩ = some (.pointer p) ∧ w'.cell? ⟨gX, 3, none⟩ = some (.slice A x.f3.length c) ∧ w'.cell? ⟨gX, 4, none⟩ = some (.slice B x.f4.length d) ∧ Below V.heap.size V w'
theorem Q5.b {V W : World} {gX : Nat} {x : G} {p A : Option Addr} {c : Nat} {B : Option Addr} {d : Nat} (h : Q5 V gX x p A c B d W) : Below V.heap.size V W := h.2.2.2.2.2
theorem Q5.next {V W W' : World} {gX : Nat} {x : G} {p A : Option Addr} {c : Nat} {B : Option Addr} {d : Nat} (h : Q5 V gX x p A c B d W) (hb : Below W.heap.size W W') : Q5 V gX x p A c B d W' :=
  ⟨pw_cell_below hb h.1, pw_cell_below hb h.2.1, pw_cell_below hb h.2.2.1, pw_cell_below hb h.2.2.2.1, pw_cell_below hb h.2.2.2.2.1, below_step h.2.2.2.2.2 hb⟩
theorem Q5.of {V W : World} {gX : Nat} {x : G} {p A : Option Addr} {c : Nat} {B : Option Addr} {d : Nat} (h : V.heap[gX]? = some (.cells (sgC x p A c B d) 57 (0, 0))) (hb : Below V.heap.size V W) : Q5 V gX x p A c B d W :=
  have h' := blk_below h hb
  ⟨blk_cell h' 0, blk_cell h' 1, blk_cell h' 2, blk_cell h' 3, blk_cell h' 4, hb⟩
end Go.Proofs.YtlcfhmnjdkhkoaaDoor.Seg
