/- Marks, in plain Lean: which are right. Conditions: the sizes that every row has. -/
import Derived.Test.YtjphmebhofkhcaaDoorPSegAllx0
import Derived.Test.YtjphmebhofkhcaaDoorPSegAllx1
import Derived.Test.YtjphmebhofkhcaaDoorPSegAllx2
import Derived.Test.YtjphmebhofkhcaaDoorPSegAllx3
import Derived.Test.YtjphmebhofkhcaaDoorPSegAllx4
import Derived.Test.YtjphmebhofkhcaaDoorPSegAllx5
import Derived.Test.YtjphmebhofkhcaaDoorPSegAllx6
import Derived.Test.YtjphmebhofkhcaaDoorPSegAllx7
import Derived.Test.YtjphmebhofkhcaaDoorPSegAllx8
import Derived.Test.YtjphmebhofkhcaaDoorPSegAllx9
import Derived.Test.YtjphmebhofkhcaaDoorPSegAllx10
import Derived.Test.YtjphmebhofkhcaaDoorPSegAllx11
import Derived.Test.YtjphmebhofkhcaaDoorPSegAllx12
import Derived.Test.YtjphmebhofkhcaaDoorPl
namespace Go.Proofs.YtjphmebhofkhcaaDoor.Pure
open Go.RowKit Go.Proofs.YtjphmebhofkhcaaDoorPl Go.Proofs.YtjphmebhofkhcaaDoor.PSegAll Go.Proofs.YtjphmebhofkhcaaDoorW.PrintWords Go.Proofs.YtjphmebhofkhcaaDoorW.PrintLast Go.Proofs.YtjphmebhofkhcaaDoorW.PrintMore
set_option linter.unusedSimpArgs false
set_option linter.unusedVariables false
theorem rd_span {xs : List S67} {i : Nat} (h : i < xs.length) : rd_T67 xs (i : Int) = xs[i] := by
 unfold rd_T67
 rw [List.getD_eq_getElem?_getD, Int.toNat_natCast, List.getElem?_eq_getElem h]
 rfl
theorem rd_site {xs : List S70} {i : Nat} (h : i < xs.length) : rd_T70 xs (i : Int) = xs[i] := by
 unfold rd_T70
 rw [List.getD_eq_getElem?_getD, Int.toNat_natCast, List.getElem?_eq_getElem h]
 rfl
/-- Equal lists are the same. -/
theorem same_l1 (ys : List S70) (hn : ys.length ≤ 8796093022208) : Ev (fun k => chancelref04_Same.l1 k ys ys 0) true := by
 have h := ev_fold ys (fun (_ : Unit) i k => chancelref04_Same.l1 k ys ys (i : Int)) (fun _ _ => True) (fun s _ => s) (fun s i hi _ => by
  have w : wrap64 ((i : Int) + 1) = ((i + 1 : Nat) : Int) := wrap_succ (by omega)
  refine ⟨trivial, fun r hr => ev_next (fun k => ?_) hr⟩
  simp only [chancelref04_Same.l1, beq_self_eq_true, Bool.not_true, Bool.or_self, Bool.false_eq_true, if_false]
  rw [if_pos (by omega), if_pos (by omega), if_pos (by omega), w]) () 0 (by omega) trivial
 refine h.2 _ (ev_next (f := fun _ => some true) (fun k => ?_) (Ev.now _))
 simp only [chancelref04_Same.l1]
 rw [if_neg (by omega)]
theorem same_ev (xs : List S67) (ys : List S70) (hx : xs.length ≤ 8796093022208) (hn : ys.length ≤ 8796093022208) : Ev (fun k => chancelref04_Same.f k xs xs ys ys) true := by
 have h := ev_fold xs (fun (_ : Unit) i k => chancelref04_Same.l0 k xs xs ys ys (i : Int)) (fun _ _ => True) (fun s _ => s) (fun s i hi _ => by
  have w : wrap64 ((i : Int) + 1) = ((i + 1 : Nat) : Int) := wrap_succ (by omega)
  refine ⟨trivial, fun r hr => ev_next (fun k => ?_) hr⟩
  simp only [chancelref04_Same.l0, beq_self_eq_true, Bool.not_true, Bool.or_self, Bool.false_eq_true, if_false]
  rw [if_pos (by omega), if_pos (by omega), if_pos (by omega), w]) () 0 (by omega) trivial
 have h0 := h.2 true (ev_next (fun k => by simp only [chancelref04_Same.l0]; rw [if_neg (by omega)]) (same_l1 ys hn))
 unfold chancelref04_Same.f
 simp only [if_true, bne_self_eq_false]
 exact ev_next (fun k => by simp only [chancelref04_Same.j0, Bool.false_eq_true, if_false]; rfl) h0
/-- Is a span right behind another one (if there is one)? -/
def spanOk (n : Int) (p : Option S67) (s : S67) : Bool :=
 decide (0 < s.f0) && decide (0 ≤ s.f1) && decide (s.f1 < s.f2) && decide (s.f2 ≤ n) && (match p with | none => true | some q => decide (q.f2 < s.f1) || (decide (q.f2 = s.f1) && decide (q.f0 ≠ s.f0)))
def spansOk (n : Int) : Option S67 → List S67 → Bool
 | _, [] => true
 | p, s :: r => spanOk n p s && spansOk n (some s) r
def siteOk (n : Int) (p : Option S70) (s : S70) : Bool :=
 decide (0 < s.f0) && decide (0 ≤ s.f1) && decide (s.f1 ≤ n) && (match p with | none => true | some q => decide (q.f1 < s.f1) || (decide (q.f1 = s.f1) && decide (q.f0 < s.f0)))
def sitesOk (n : Int) : Option S70 → List S70 → Bool
 | _, [] => true
 | p, s :: r => siteOk n p s && sitesOk n (some s) r
def rightB (n : Int) (xs : List S67) (ys : List S70) : Bool := spansOk n none xs && sitesOk n none ys
/-- The element ahead of i. -/
def ahead {α : Type} (xs : List α) (i : Nat) : Option α := if i = 0 then none else xs[i - 1]?
theorem ahead_succ {α : Type} {xs : List α} {i : Nat} (h : i < xs.length) : ahead xs (i + 1) = some xs[i] := by simp [ahead, List.getElem?_eq_getElem h]
theorem ahead_pos {α : Type} {xs : List α} {i : Nat} (h0 : 0 < i) (h : i < xs.length) : ahead xs i = some (xs[i - 1]'(by omega)) := by
 unfold ahead
 rw [if_neg (by omega), List.getElem?_eq_getElem (by omega)]
theorem wrap_pred {i : Nat} (h0 : 0 < i) (h : i < 9223372036854775807) : wrap64 ((i : Int) - 1) = ((i - 1 : Nat) : Int) := by unfold wrap64; omega
theorem ref_Right_l1 (n : Int) (xs : List S67) (ys : List S70) (hn : ys.length ≤ 140737488351232) (d : Nat) : ∀ i : Nat, ys.length - i = d → i ≤ ys.length →
  Ev (fun k => chancelref04_Right.l1 k n (i : Int) xs ys) (sitesOk n (ahead ys i) (ys.drop i)) := by
 induction d with
 | zero =>
  intro i hd hi
  rw [List.drop_of_length_le (by omega)]
  exact ev_next (f := fun _ => some true) (fun k => by simp only [chancelref04_Right.l1]; rw [if_neg (by omega)]) (Ev.now _)
 | succ d ih =>
  intro i hd hi
  have hlt : i < ys.length := by omega
  have hr := rd_site hlt
  have w : wrap64 ((i : Int) + 1) = ((i + 1 : Nat) : Int) := wrap_succ (by omega)
  have h := ih (i + 1) (by omega) (by omega)
  rw [ahead_succ hlt] at h
  rw [List.drop_eq_getElem_cons hlt]
  generalize hs : ys[i] = s at hr h
  have key : ∀ b : Bool, Ev (fun k => chancelref04_Right.j3 k n (i : Int) b xs ys s.f0 s.f1) (!b && (match ahead ys i with | none => true | some q => decide (q.f1 < s.f1) || (decide (q.f1 = s.f1) && decide (q.f0 < s.f0))) && sitesOk n (some s) (ys.drop (i + 1))) := by
   intro b
   cases b with
   | true => exact ev_next (f := fun _ => some false) (fun k => by simp only [chancelref04_Right.j3, if_true]) (Ev.now _)
   | false =>
    by_cases h0 : i = 0
    ·subst h0
     have e : ahead ys 0 = none := rfl
     rw [e]
     simp only [Bool.not_false, Bool.true_and]
     exact ev_next (fun k => by simp only [chancelref04_Right.j3, Bool.false_eq_true, if_false]; rw [if_neg (by omega), w]) h
    ·have w' := wrap_pred (i := i) (by omega) (by omega)
     have hq := rd_site (xs := ys) (i := i - 1) (by omega)
     rw [ahead_pos (by omega) hlt]
     generalize ys[i - 1] = q at hq
     simp only [Bool.not_false, Bool.true_and]
     by_cases c1 : s.f1 < q.f1
     ·have e : (decide (q.f1 < s.f1) || (decide (q.f1 = s.f1) && decide (q.f0 < s.f0))) = false := by simp; omega
      rw [e]
      exact ev_next (f := fun _ => some false) (fun k => by simp only [chancelref04_Right.j3, Bool.false_eq_true, if_false]; rw [if_pos (by omega), w', if_pos (by omega), if_pos (by omega), hq, if_pos c1]) (Ev.now _)
     ·by_cases c2 : s.f1 = q.f1
      ·by_cases c3 : s.f0 ≤ q.f0
       ·have e : (decide (q.f1 < s.f1) || (decide (q.f1 = s.f1) && decide (q.f0 < s.f0))) = false := by simp; omega
        rw [e]
        exact ev_next (f := fun _ => some false) (fun k => by simp only [chancelref04_Right.j3, Bool.false_eq_true, if_false]; rw [if_pos (by omega), w', if_pos (by omega), if_pos (by omega), hq, if_neg c1, if_pos c2, if_pos c3]) (Ev.now _)
       ·have e : (decide (q.f1 < s.f1) || (decide (q.f1 = s.f1) && decide (q.f0 < s.f0))) = true := by simp; omega
        rw [e, Bool.true_and]
        exact ev_next (fun k => by simp only [chancelref04_Right.j3, Bool.false_eq_true, if_false]; rw [if_pos (by omega), w', if_pos (by omega), if_pos (by omega), hq, if_neg c1, if_pos c2, if_neg c3, w]) h
      ·have e : (decide (q.f1 < s.f1) || (decide (q.f1 = s.f1) && decide (q.f0 < s.f0))) = true := by simp; omega
       rw [e, Bool.true_and]
       exact ev_next (fun k => by simp only [chancelref04_Right.j3, Bool.false_eq_true, if_false]; rw [if_pos (by omega), w', if_pos (by omega), if_pos (by omega), hq, if_neg c1, if_neg c2, w]) h
  have go : ∀ (b : Bool) (e : sitesOk n (ahead ys i) (s :: ys.drop (i + 1)) = (!b && (match ahead ys i with | none => true | some q => decide (q.f1 < s.f1) || (decide (q.f1 = s.f1) && decide (q.f0 < s.f0))) && sitesOk n (some s) (ys.drop (i + 1)))) (st : ∀ k, chancelref04_Right.l1 (k + 1) n (i : Int) xs ys = chancelref04_Right.j3 k n (i : Int) b xs ys s.f0 s.f1),
    Ev (fun k => chancelref04_Right.l1 k n (i : Int) xs ys) (sitesOk n (ahead ys i) (s :: ys.drop (i + 1))) := fun b e st => by
   rw [e]
   exact ev_next st (key b)
  by_cases c1 : s.f0 ≤ 0
  ·exact go true (by simp only [sitesOk, siteOk]; rw [decide_eq_false (by omega)]; simp) (fun k => by simp only [chancelref04_Right.l1]; rw [if_pos (by omega), if_pos (by omega), hr, if_pos c1])
  ·by_cases c2 : s.f1 < 0
   ·exact go true (by simp only [sitesOk, siteOk]; rw [decide_eq_false (p := 0 ≤ s.f1) (by omega)]; simp) (fun k => by simp only [chancelref04_Right.l1]; rw [if_pos (by omega), if_pos (by omega), hr, if_neg c1, if_pos c2])
   ·have e3 : decide (s.f1 ≤ n) = !decide (s.f1 > n) := by
     by_cases h : s.f1 > n
     ·rw [decide_eq_true h, decide_eq_false (by omega)]; rfl
     ·rw [decide_eq_false h, decide_eq_true (by omega)]; rfl
    refine go (decide (s.f1 > n)) (by simp only [sitesOk, siteOk]; rw [decide_eq_true (p := 0 < s.f0) (by omega), decide_eq_true (p := 0 ≤ s.f1) (by omega), e3]; simp only [Bool.true_and]) (fun k => by simp only [chancelref04_Right.l1]; rw [if_pos (by omega), if_pos (by omega), hr, if_neg c1, if_neg c2])
theorem ref_Right_l0 (n : Int) (xs : List S67) (ys : List S70) (hm : xs.length ≤ 140737488351232) (hn : ys.length ≤ 140737488351232) (d : Nat) : ∀ i : Nat, xs.length - i = d → i ≤ xs.length →
  Ev (fun k => chancelref04_Right.l0 k n (i : Int) xs ys) (spansOk n (ahead xs i) (xs.drop i) && sitesOk n none ys) := by
 induction d with
 | zero =>
  intro i hd hi
  rw [List.drop_of_length_le (by omega)]
  have h := ref_Right_l1 n xs ys hn ys.length 0 (by omega) (by omega)
  exact ev_next (fun k => by simp only [chancelref04_Right.l0]; rw [if_neg (by omega)]; rfl) h
 | succ d ih =>
  intro i hd hi
  have hlt : i < xs.length := by omega
  have hr := rd_span hlt
  have w : wrap64 ((i : Int) + 1) = ((i + 1 : Nat) : Int) := wrap_succ (by omega)
  have h := ih (i + 1) (by omega) (by omega)
  rw [ahead_succ hlt] at h
  rw [List.drop_eq_getElem_cons hlt]
  generalize hs : xs[i] = s at hr h
  generalize hT : sitesOk n none ys = T at h ⊢
  have key : ∀ b : Bool, Ev (fun k => chancelref04_Right.j1 k n (i : Int) b xs ys s.f0 s.f1 s.f2) (!b && (match ahead xs i with | none => true | some q => decide (q.f2 < s.f1) || (decide (q.f2 = s.f1) && decide (q.f0 ≠ s.f0))) && (spansOk n (some s) (xs.drop (i + 1)) && T)) := by
   intro b
   cases b with
   | true => exact ev_next (f := fun _ => some false) (fun k => by simp only [chancelref04_Right.j1, if_true]) (Ev.now _)
   | false =>
    by_cases h0 : i = 0
    ·subst h0
     have e : ahead xs 0 = none := rfl
     rw [e]
     simp only [Bool.not_false, Bool.true_and]
     exact ev_next (fun k => by simp only [chancelref04_Right.j1, Bool.false_eq_true, if_false]; rw [if_neg (by omega), w]) h
    ·have w' := wrap_pred (i := i) (by omega) (by omega)
     have hq := rd_span (xs := xs) (i := i - 1) (by omega)
     rw [ahead_pos (by omega) hlt]
     generalize xs[i - 1] = q at hq
     simp only [Bool.not_false, Bool.true_and]
     by_cases c1 : s.f1 < q.f2
     ·have e : (decide (q.f2 < s.f1) || (decide (q.f2 = s.f1) && decide (q.f0 ≠ s.f0))) = false := by simp; omega
      rw [e]
      exact ev_next (f := fun _ => some false) (fun k => by simp only [chancelref04_Right.j1, Bool.false_eq_true, if_false]; rw [if_pos (by omega), w', if_pos (by omega), if_pos (by omega), hq, if_pos c1]) (Ev.now _)
     ·by_cases c2 : s.f1 = q.f2
      ·by_cases c3 : s.f0 = q.f0
       ·have e : (decide (q.f2 < s.f1) || (decide (q.f2 = s.f1) && decide (q.f0 ≠ s.f0))) = false := by simp; omega
        rw [e]
        exact ev_next (f := fun _ => some false) (fun k => by simp only [chancelref04_Right.j1, Bool.false_eq_true, if_false]; rw [if_pos (by omega), w', if_pos (by omega), if_pos (by omega), hq, if_neg c1, if_pos c2, if_pos c3]) (Ev.now _)
       ·have e : (decide (q.f2 < s.f1) || (decide (q.f2 = s.f1) && decide (q.f0 ≠ s.f0))) = true := by simp; omega
        rw [e, Bool.true_and]
        exact ev_next (fun k => by simp only [chancelref04_Right.j1, Bool.false_eq_true, if_false]; rw [if_pos (by omega), w', if_pos (by omega), if_pos (by omega), hq, if_neg c1, if_pos c2, if_neg c3, w]) h
      ·have e : (decide (q.f2 < s.f1) || (decide (q.f2 = s.f1) && decide (q.f0 ≠ s.f0))) = true := by simp; omega
       rw [e, Bool.true_and]
       exact ev_next (fun k => by simp only [chancelref04_Right.j1, Bool.false_eq_true, if_false]; rw [if_pos (by omega), w', if_pos (by omega), if_pos (by omega), hq, if_neg c1, if_neg c2, w]) h
  have go : ∀ (b : Bool) (e : (decide (0 < s.f0) && decide (0 ≤ s.f1) && decide (s.f1 < s.f2) && decide (s.f2 ≤ n)) = !b) (st : ∀ k, chancelref04_Right.l0 (k + 1) n (i : Int) xs ys = chancelref04_Right.j1 k n (i : Int) b xs ys s.f0 s.f1 s.f2),
    Ev (fun k => chancelref04_Right.l0 k n (i : Int) xs ys) (spansOk n (ahead xs i) (s :: xs.drop (i + 1)) && T) := fun b e st => by
   have := key b
   rw [← e] at this
   simp only [spansOk, spanOk]
   rw [Bool.and_assoc _ (spansOk _ _ _) T]
   exact ev_next st this
  by_cases c1 : s.f0 ≤ 0
  ·exact go true (by rw [decide_eq_false (by omega)]; simp) (fun k => by simp only [chancelref04_Right.l0]; rw [if_pos (by omega), if_pos (by omega), hr, if_pos c1])
  ·by_cases c2 : s.f1 < 0
   ·exact go true (by rw [decide_eq_false (p := 0 ≤ s.f1) (by omega)]; simp) (fun k => by simp only [chancelref04_Right.l0]; rw [if_pos (by omega), if_pos (by omega), hr, if_neg c1, if_pos c2])
   ·by_cases c3 : s.f2 ≤ s.f1
    ·exact go true (by rw [decide_eq_false (p := s.f1 < s.f2) (by omega)]; simp) (fun k => by simp only [chancelref04_Right.l0]; rw [if_pos (by omega), if_pos (by omega), hr, if_neg c1, if_neg c2, if_pos c3])
    ·have e3 : decide (s.f2 ≤ n) = !decide (s.f2 > n) := by
      by_cases h : s.f2 > n
      ·rw [decide_eq_true h, decide_eq_false (by omega)]; rfl
      ·rw [decide_eq_false h, decide_eq_true (by omega)]; rfl
     refine go (decide (s.f2 > n)) (by rw [decide_eq_true (p := 0 < s.f0) (by omega), decide_eq_true (p := 0 ≤ s.f1) (by omega), decide_eq_true (p := s.f1 < s.f2) (by omega), e3]; simp only [Bool.true_and]) (fun k => by simp only [chancelref04_Right.l0]; rw [if_pos (by omega), if_pos (by omega), hr, if_neg c1, if_neg c2, if_neg c3])
theorem ref_Right_ev (n : Int) (xs : List S67) (ys : List S70) (hm : xs.length ≤ 140737488351232) (hn : ys.length ≤ 140737488351232) : Ev (fun k => chancelref04_Right.f k xs ys n) (rightB n xs ys) :=
 ref_Right_l0 n xs ys hm hn xs.length 0 (by omega) (by omega)
/-- A span behind others: longer, or one more. -/
def addL (o : List S67) (s : S67) : List S67 :=
 if s.f2 ≤ s.f1 then o else match o.getLast? with
  | none => o ++ [s]
  | some q => if q.f2 = s.f1 ∧ q.f0 = s.f0 then o.dropLast ++ [⟨q.f0, q.f1, s.f2⟩] else o ++ [s]
theorem addL_nil (s : S67) (h : s.f1 < s.f2) : addL [] s = [s] := by
 unfold addL; rw [if_neg (by omega)]; rfl
theorem addL_none (o : List S67) (s : S67) (h : s.f2 ≤ s.f1) : addL o s = o := by
 unfold addL; rw [if_pos h]
theorem addL_long (o : List S67) (q s : S67) (h : s.f1 < s.f2) (h1 : q.f2 = s.f1) (h2 : q.f0 = s.f0) : addL (o ++ [q]) s = o ++ [⟨q.f0, q.f1, s.f2⟩] := by
 unfold addL; rw [if_neg (by omega)]; simp [h1, h2]
theorem addL_more (o : List S67) (q s : S67) (h : s.f1 < s.f2) (h1 : ¬ (q.f2 = s.f1 ∧ q.f0 = s.f0)) : addL (o ++ [q]) s = o ++ [q, s] := by
 unfold addL; rw [if_neg (by omega)]; simp only [List.getLast?_append, List.getLast?_singleton, Option.some_or]; rw [if_neg h1]; simp
/-- The last span ends at b at most. -/
def LastLe (o : List S67) (b : Int) : Prop := ∀ q, o.getLast? = some q → q.f1 < q.f2 ∧ q.f2 ≤ b
theorem LastLe.mono {o : List S67} {b c : Int} (h : LastLe o b) (hc : b ≤ c) : LastLe o c := fun q hq => ⟨(h q hq).1, by have := (h q hq).2; omega⟩
theorem LastLe.nil (b : Int) : LastLe [] b := fun _ h => by simp at h
theorem snoc_cases {α : Type} (o : List α) : o = [] ∨ ∃ p q, o = p ++ [q] := by
 rcases List.eq_nil_or_concat o with h | ⟨p, q, h⟩
 ·exact .inl h
 ·exact .inr ⟨p, q, by rw [h, List.concat_eq_append]⟩
theorem spansOk_snoc (n : Int) (p : Option S67) (xs : List S67) (s : S67) : spansOk n p (xs ++ [s]) = (spansOk n p xs && spanOk n (xs.getLast?.or p) s) := by
 induction xs generalizing p with
 | nil => simp [spansOk]
 | cons x r ih =>
  rw [List.cons_append, spansOk, spansOk, ih, Bool.and_assoc]
  cases r with
  | nil => simp
  | cons y r => rw [List.getLast?_cons_cons, List.getLast?_cons]; rfl
theorem spanOk_iff (n : Int) (p : Option S67) (s : S67) : spanOk n p s = true ↔ 0 < s.f0 ∧ 0 ≤ s.f1 ∧ s.f1 < s.f2 ∧ s.f2 ≤ n ∧ (∀ q, p = some q → q.f2 < s.f1 ∨ (q.f2 = s.f1 ∧ q.f0 ≠ s.f0)) := by
 unfold spanOk
 cases p with
 | none => simp [and_assoc]
 | some q => simp [and_assoc]
/-- In right spans each one ends ahead of the last one's end. -/
theorem ok_lt {n : Int} {xs : List S67} (h : spansOk n none xs = true) {b : Int} (hl : LastLe xs b) : ∀ s ∈ xs, 0 < s.f0 ∧ 0 ≤ s.f1 ∧ s.f1 < s.f2 ∧ s.f2 ≤ b := by
 obtain ⟨k, hk⟩ : ∃ k, xs.length = k := ⟨_, rfl⟩
 induction k generalizing xs b with
 | zero => have : xs = [] := List.eq_nil_of_length_eq_zero hk; subst this; intro s hs; simp at hs
 | succ k ih =>
  rcases snoc_cases xs with rfl | ⟨r, q, rfl⟩
  ·simp at hk
  ·rw [spansOk_snoc, Bool.and_eq_true, spanOk_iff] at h
   have hq := hl q (by simp)
   obtain ⟨h1, h2, h3, h4, h5, h6⟩ := h
   have hl' : LastLe r q.f1 := by
    intro x hx
    have := h6 x (by simp [hx])
    have hx' : 0 < x.f0 ∧ 0 ≤ x.f1 ∧ x.f1 < x.f2 := by
     rcases snoc_cases r with rfl | ⟨r', y, rfl⟩
     ·simp at hx
     ·simp at hx; subst hx; rw [spansOk_snoc, Bool.and_eq_true, spanOk_iff] at h1; exact ⟨h1.2.1, h1.2.2.1, h1.2.2.2.1⟩
    exact ⟨hx'.2.2, by omega⟩
   intro s hs
   simp at hs
   rcases hs with hs | rfl
   ·have := ih h1 hl' (by simpa using hk) s hs; omega
   ·exact ⟨h2, h3, h4, hq.2⟩
theorem ok_last {n : Int} {xs : List S67} (h : spansOk n none xs = true) : LastLe xs n := by
 rcases snoc_cases xs with rfl | ⟨r, q, rfl⟩
 ·exact LastLe.nil _
 ·intro x hx; simp at hx; subst hx; rw [spansOk_snoc, Bool.and_eq_true, spanOk_iff] at h; exact ⟨h.2.2.2.1, h.2.2.2.2.1⟩
theorem ok_each {n : Int} {xs : List S67} (h : spansOk n none xs = true) : ∀ s ∈ xs, 0 < s.f0 ∧ 0 ≤ s.f1 ∧ s.f1 < s.f2 ∧ s.f2 ≤ n := ok_lt h (ok_last h)
theorem rd_snoc (r : List S67) (q : S67) : rd_T67 (r ++ [q]) (r.length : Int) = q := by
 have := rd_span (xs := r ++ [q]) (i := r.length) (by simp)
 rw [this]; simp
theorem set_snoc {α : Type} (r : List α) (q v : α) : (r ++ [q]).set ((r.length : Int)).toNat v = r ++ [v] := by simp
theorem addL_length (o : List S67) (s : S67) : (addL o s).length ≤ o.length + 1 := by
 by_cases c : s.f1 < s.f2
 ·rcases snoc_cases o with rfl | ⟨r, q, rfl⟩
  ·rw [addL_nil s c]; simp
  ·by_cases c1 : q.f2 = s.f1 ∧ q.f0 = s.f0
   ·rw [addL_long r q s c c1.1 c1.2]; simp
   ·rw [addL_more r q s c c1]; simp
 ·rw [addL_none o s (by omega)]; omega
theorem marks_add_eq (o : List S67) (m f t : Int) (hl : o.length < 5864062014805) : marks_add.f o m f t = some (addL o ⟨m, f, t⟩) := by
 unfold marks_add.f
 by_cases c : f ≥ t
 ·rw [if_pos c, addL_none _ _ c]
 ·rw [if_neg c]
  have c' : f < t := by omega
  rcases snoc_cases o with rfl | ⟨r, q, rfl⟩
  ·rw [if_neg (by simp), if_pos (by simp), addL_nil ⟨m, f, t⟩ c']; rfl
  ·have hlen : (r ++ [q]).length = r.length + 1 := by simp
   have hw : wrap64 (((r ++ [q]).length : Int) - 1) = (r.length : Int) := by unfold wrap64; omega
   rw [if_pos (by omega), hw, if_pos (by omega), if_pos (by omega), rd_snoc]
   by_cases c1 : q.f2 = f
   ·by_cases c2 : q.f0 = m
    ·rw [if_pos c1, if_pos c2, addL_long r q ⟨m, f, t⟩ c' c1 c2, set_snoc]
    ·rw [if_pos c1, if_neg c2, if_pos hl, addL_more r q ⟨m, f, t⟩ c' (fun h => c2 h.2)]; simp
   ·rw [if_neg c1, if_pos hl, addL_more r q ⟨m, f, t⟩ c' (fun h => c1 h.1)]; simp
def over (c : Int → Int) (a b m : Int) : Int → Int := fun p => if a ≤ p ∧ p < b then m else c p
def siteIs (s y : S70) : Bool := y.f0 == s.f0 && (y.f1 == s.f1)
def siteGt (s y : S70) : Bool := decide (y.f1 > s.f1) || (decide (y.f1 = s.f1) && decide (y.f0 > s.f0))
def insS (s : S70) : List S70 → List S70
 | [] => [s]
 | y :: r => if siteGt s y then s :: y :: r else y :: insS s r
/-- A site in its place, once. -/
def siteL (l : List S70) (s : S70) : List S70 := if l.any (siteIs s) then l else insS s l
/-- A site behind all others: at the end. -/
def siteLt (x y : S70) : Prop := x.f1 < y.f1 ∨ (x.f1 = y.f1 ∧ x.f0 < y.f0)
theorem siteLt_trans {x y z : S70} (h : siteLt x y) (k : siteLt y z) : siteLt x z := by unfold siteLt at *; omega
def mrCmp (a b : Int) : Int := if a < b then -1 else if a > b then 1 else 0
theorem mr_compare1 (a b : Int) : cmp_Compare_int.f a b = some (mrCmp a b) := by
 unfold cmp_Compare_int.f cmp_isNaN_int.f mrCmp
 simp only [Option.bind_some, bne_self_eq_false, Bool.false_eq_true, if_false]
 split
 ·rfl
 ·split <;> rfl
theorem mr_or (p q : Int) : Ev (fun k => cmp_Or_int.f k [p, q]) (if p = 0 then q else p) := by
 refine Ev.of (cmp_Or_int.mono _) (k := 4) ?_
 unfold cmp_Or_int.f
 have w1 : wrap64 (0 + 1) = 1 := by decide +kernel
 have w2 : wrap64 (1 + 1) = 2 := by decide +kernel
 have r0 : rd [p, q] 0 = p := rfl
 have r1 : rd [p, q] 1 = q := rfl
 have l0 : (([p, q] : List Int).length : Int) = 2 := rfl
 simp only [cmp_Or_int.l0, l0]
 rw [if_pos (by decide), if_pos (by decide), if_pos (by decide), r0, w1]
 by_cases hp : p = 0
 ·rw [if_pos hp, if_pos hp, if_pos (by decide), if_pos (by decide), if_pos (by decide), r1, w2]
  by_cases hq : q = 0
  ·rw [if_pos hq, if_neg (by decide), hq]
  ·rw [if_neg hq]
 ·rw [if_neg hp, if_neg hp]
/-- compare, as it is. -/
theorem mr_compare (m a m' a' : Int) : Ev (fun k => marks_compare.f k m a m' a') (if mrCmp a a' = 0 then mrCmp m m' else mrCmp a a') := by
 unfold marks_compare.f
 simp only [mr_compare1, Option.bind_some]
 exact Ev.bind (mr_or _ _) (Ev.now _)
theorem mr_compare_sign (m a m' a' : Int) : (if mrCmp a a' = 0 then mrCmp m m' else mrCmp a a') ≥ 0 ↔ ¬ (a < a' ∨ a = a' ∧ m < m') := by
 unfold mrCmp
 repeat' split
 all_goals omega
theorem mr_wrap {i : Int} {n : Nat} (h0 : 0 ≤ i) (h : i < (n : Int)) (hn : n ≤ 140737488351232) : wrap64 (i + 1) = i + 1 := by
 unfold wrap64
 omega
theorem mr_wrap' {i : Int} {n : Nat} (h0 : 0 < i) (h : i < (n : Int)) (hn : n ≤ 140737488351232) : wrap64 (i - 1) = i - 1 := by
 unfold wrap64
 omega
theorem mr_l1 (n : Int) (xs : List S67) (ys : List S70) (hn : ys.length ≤ 140737488351232) (d : Nat) : ∀ i : Int, 0 ≤ i → (ys.length : Int) - i ≤ d →
  ∃ r, Ev (fun k => marks_Right.l1 k n ys (ys.length : Int) i xs ys) r ∧ Ev (fun k => chancelref04_Right.l1 k n i xs ys) r := by
 induction d with
 | zero =>
  intro i h0 hd
  refine ⟨true, Ev.step (f := fun _ => some true) (fun k => ?_) (Ev.now _), Ev.step (f := fun _ => some true) (fun k => ?_) (Ev.now _)⟩
  ·simp only [marks_Right.l1]; rw [if_neg (by omega)]
  ·simp only [chancelref04_Right.l1]; rw [if_neg (by omega)]
 | succ d ih =>
  intro i h0 hd
  by_cases h1 : i < (ys.length : Int)
  ·obtain ⟨r, e1, e2⟩ := ih (i + 1) (by omega) (by omega)
   have w := mr_wrap h0 h1 hn
   by_cases c : (rd_T70 ys i).f0 ≤ 0 ∨ (rd_T70 ys i).f1 < 0 ∨ (rd_T70 ys i).f1 > n
   ·refine ⟨false, Ev.step (f := fun _ => some false) (fun k => ?_) (Ev.now _), Ev.step (f := fun k => chancelref04_Right.j3 k n i true xs ys ((rd_T70 ys i).f0) ((rd_T70 ys i).f1)) (fun k => ?_) (Ev.step (f := fun _ => some false) (fun k => ?_) (Ev.now _))⟩
    ·simp only [marks_Right.l1]; rw [if_pos h1, if_pos h0, if_pos h1]
     rcases c with c | c | c
     ·rw [if_pos c]
     ·rw [if_pos c]; split <;> rfl
     ·rw [if_pos c]; split
      ·rfl
      ·split <;> rfl
    ·simp only [chancelref04_Right.l1]; rw [if_pos h1, if_pos h0]
     rcases c with c | c | c
     ·rw [if_pos c]
     ·rw [if_pos c]; split <;> rfl
     ·rw [decide_eq_true c]; split
      ·rfl
      ·split <;> rfl
    ·simp only [chancelref04_Right.j3, if_true]
   ·have c1 : ¬ (rd_T70 ys i).f0 ≤ 0 := fun h => c (.inl h)
    have c2 : ¬ (rd_T70 ys i).f1 < 0 := fun h => c (.inr (.inl h))
    have c3 : ¬ (rd_T70 ys i).f1 > n := fun h => c (.inr (.inr h))
    have href : ∀ {r}, Ev (fun k => chancelref04_Right.j3 k n i false xs ys ((rd_T70 ys i).f0) ((rd_T70 ys i).f1)) r → Ev (fun k => chancelref04_Right.l1 k n i xs ys) r := by
     intro r h
     refine Ev.step (fun k => ?_) h
     simp only [chancelref04_Right.l1]; rw [if_pos h1, if_pos h0, if_neg c1, if_neg c2, decide_eq_false c3]
    by_cases hp : i > 0
    ·have w' := mr_wrap' hp h1 hn
     have hc := mr_compare (rd_T70 ys (i - 1)).f0 (rd_T70 ys (i - 1)).f1 (rd_T70 ys i).f0 (rd_T70 ys i).f1
     have hs := mr_compare_sign (rd_T70 ys (i - 1)).f0 (rd_T70 ys (i - 1)).f1 (rd_T70 ys i).f0 (rd_T70 ys i).f1
     generalize (if mrCmp (rd_T70 ys (i - 1)).f1 (rd_T70 ys i).f1 = 0 then mrCmp (rd_T70 ys (i - 1)).f0 (rd_T70 ys i).f0 else mrCmp (rd_T70 ys (i - 1)).f1 (rd_T70 ys i).f1) = cv at hc hs
     have hprog : ∀ {r}, Ev (fun k => (if cv ≥ 0 then some false else marks_Right.l1 k n ys (ys.length : Int) (i + 1) xs ys)) r → Ev (fun k => marks_Right.l1 k n ys (ys.length : Int) i xs ys) r := by
      intro r h
      refine Ev.step (fun k => ?_) (Ev.bind (f := fun k a => if a ≥ 0 then some false else marks_Right.l1 k n ys (ys.length : Int) (i + 1) xs ys) hc h)
      simp only [marks_Right.l1]; rw [if_pos h1, if_pos h0, if_pos h1, if_neg c1, if_neg c2, if_neg c3, if_pos hp, w', if_pos (by omega), if_pos (by omega), w]
     by_cases hlt : (rd_T70 ys (i - 1)).f1 < (rd_T70 ys i).f1 ∨ (rd_T70 ys (i - 1)).f1 = (rd_T70 ys i).f1 ∧ (rd_T70 ys (i - 1)).f0 < (rd_T70 ys i).f0
     ·refine ⟨r, hprog ?_, href (Ev.step (f := fun k => chancelref04_Right.l1 k n (i + 1) xs ys) (fun k => ?_) e2)⟩
      ·rw [show (fun k => (if cv ≥ 0 then some false else marks_Right.l1 k n ys (ys.length : Int) (i + 1) xs ys)) = fun k => marks_Right.l1 k n ys (ys.length : Int) (i + 1) xs ys from funext fun k => if_neg (fun h => hs.1 h hlt)]
       exact e1
      ·simp only [chancelref04_Right.j3, Bool.false_eq_true, if_false]
       rw [if_pos hp, w', if_pos (by omega), if_pos (by omega), w]
       rcases hlt with h | ⟨h, h'⟩
       ·rw [if_neg (by omega), if_neg (by omega)]
       ·rw [if_neg (by omega), if_pos (by omega), if_neg (by omega)]
     ·refine ⟨false, hprog ?_, href (Ev.step (f := fun k => some false) (fun k => ?_) (Ev.now _))⟩
      ·rw [show (fun k => (if cv ≥ 0 then some false else marks_Right.l1 k n ys (ys.length : Int) (i + 1) xs ys)) = fun k => some false from funext fun k => if_pos (hs.2 hlt)]
       exact Ev.now _
      ·simp only [chancelref04_Right.j3, Bool.false_eq_true, if_false]
       rw [if_pos hp, w', if_pos (by omega), if_pos (by omega)]
       by_cases h : (rd_T70 ys i).f1 < (rd_T70 ys (i - 1)).f1
       ·rw [if_pos h]
       ·rw [if_neg h, if_pos (by omega), if_pos (by omega)]
    ·refine ⟨r, Ev.step (f := fun k => marks_Right.l1 k n ys (ys.length : Int) (i + 1) xs ys) (fun k => ?_) e1, href (Ev.step (f := fun k => chancelref04_Right.l1 k n (i + 1) xs ys) (fun k => ?_) e2)⟩
     ·simp only [marks_Right.l1]; rw [if_pos h1, if_pos h0, if_pos h1, if_neg c1, if_neg c2, if_neg c3, if_neg hp, w]
     ·simp only [chancelref04_Right.j3, Bool.false_eq_true, if_false]; rw [if_neg hp, w]
  ·refine ⟨true, Ev.step (f := fun _ => some true) (fun k => ?_) (Ev.now _), Ev.step (f := fun _ => some true) (fun k => ?_) (Ev.now _)⟩
   ·simp only [marks_Right.l1]; rw [if_neg h1]
   ·simp only [chancelref04_Right.l1]; rw [if_neg h1]

theorem mr_l0 (n : Int) (xs : List S67) (ys : List S70) (hm : xs.length ≤ 140737488351232) (hn : ys.length ≤ 140737488351232) (d : Nat) : ∀ i : Int, 0 ≤ i → (xs.length : Int) - i ≤ d →
  ∃ r, Ev (fun k => marks_Right.l0 k n xs (xs.length : Int) i xs ys) r ∧ Ev (fun k => chancelref04_Right.l0 k n i xs ys) r := by
 have fin : ∀ i : Int, ¬ i < (xs.length : Int) → ∃ r, Ev (fun k => marks_Right.l0 k n xs (xs.length : Int) i xs ys) r ∧ Ev (fun k => chancelref04_Right.l0 k n i xs ys) r := by
  intro i h1
  obtain ⟨r, e1, e2⟩ := mr_l1 n xs ys hn ys.length 0 (by omega) (by omega)
  refine ⟨r, Ev.step (fun k => ?_) e1, Ev.step (fun k => ?_) e2⟩
  ·simp only [marks_Right.l0]; rw [if_neg h1]
  ·simp only [chancelref04_Right.l0]; rw [if_neg h1]
 induction d with
 | zero => intro i h0 hd; exact fin i (by omega)
 | succ d ih =>
  intro i h0 hd
  by_cases h1 : i < (xs.length : Int)
  ·obtain ⟨r, e1, e2⟩ := ih (i + 1) (by omega) (by omega)
   have w := mr_wrap h0 h1 hm
   have key : ∀ b : Bool, ∃ r, Ev (fun k => marks_Right.j1 k n i xs (xs.length : Int) i b xs ys ((rd_T67 xs i).f0) ((rd_T67 xs i).f1) ((rd_T67 xs i).f2)) r ∧ Ev (fun k => chancelref04_Right.j1 k n i b xs ys ((rd_T67 xs i).f0) ((rd_T67 xs i).f1) ((rd_T67 xs i).f2)) r := by
    intro b
    cases b with
    | true =>
     refine ⟨false, Ev.step (f := fun _ => some false) (fun k => ?_) (Ev.now _), Ev.step (f := fun _ => some false) (fun k => ?_) (Ev.now _)⟩
     ·simp only [marks_Right.j1, if_true]
     ·simp only [chancelref04_Right.j1, if_true]
    | false =>
     by_cases hp : i > 0
     ·have w' := mr_wrap' hp h1 hm
      by_cases c1 : (rd_T67 xs (i - 1)).f2 > (rd_T67 xs i).f1
      ·refine ⟨false, Ev.step (f := fun _ => some false) (fun k => ?_) (Ev.now _), Ev.step (f := fun _ => some false) (fun k => ?_) (Ev.now _)⟩
       ·simp only [marks_Right.j1, Bool.false_eq_true, if_false]; rw [if_pos hp, w', if_pos (by omega), if_pos (by omega), if_pos c1]
       ·simp only [chancelref04_Right.j1, Bool.false_eq_true, if_false]; rw [if_pos hp, w', if_pos (by omega), if_pos (by omega), if_pos (by omega)]
      ·by_cases c2 : (rd_T67 xs (i - 1)).f2 = (rd_T67 xs i).f1 ∧ (rd_T67 xs (i - 1)).f0 = (rd_T67 xs i).f0
       ·refine ⟨false, Ev.step (f := fun _ => some false) (fun k => ?_) (Ev.now _), Ev.step (f := fun _ => some false) (fun k => ?_) (Ev.now _)⟩
        ·simp only [marks_Right.j1, Bool.false_eq_true, if_false]; rw [if_pos hp, w', if_pos (by omega), if_pos (by omega), if_neg c1, if_pos c2.1, if_pos c2.2]
        ·simp only [chancelref04_Right.j1, Bool.false_eq_true, if_false]; rw [if_pos hp, w', if_pos (by omega), if_pos (by omega), if_neg (by omega), if_pos c2.1.symm, if_pos c2.2.symm]
       ·refine ⟨r, Ev.step (f := fun k => marks_Right.l0 k n xs (xs.length : Int) (i + 1) xs ys) (fun k => ?_) e1, Ev.step (f := fun k => chancelref04_Right.l0 k n (i + 1) xs ys) (fun k => ?_) e2⟩
        ·simp only [marks_Right.j1, Bool.false_eq_true, if_false]; rw [if_pos hp, w', if_pos (by omega), if_pos (by omega), if_neg c1, w]
         split
         ·rw [if_neg (by omega)]
         ·rfl
        ·simp only [chancelref04_Right.j1, Bool.false_eq_true, if_false]; rw [if_pos hp, w', if_pos (by omega), if_pos (by omega), if_neg (by omega), w]
         split
         ·rw [if_neg (by omega)]
         ·rfl
     ·refine ⟨r, Ev.step (f := fun k => marks_Right.l0 k n xs (xs.length : Int) (i + 1) xs ys) (fun k => ?_) e1, Ev.step (f := fun k => chancelref04_Right.l0 k n (i + 1) xs ys) (fun k => ?_) e2⟩
      ·simp only [marks_Right.j1, Bool.false_eq_true, if_false]; rw [if_neg hp, w]
      ·simp only [chancelref04_Right.j1, Bool.false_eq_true, if_false]; rw [if_neg hp, w]
   by_cases c1 : (rd_T67 xs i).f0 ≤ 0
   ·obtain ⟨r, e1, e2⟩ := key true
    refine ⟨r, Ev.step (fun k => ?_) e1, Ev.step (fun k => ?_) e2⟩
    ·simp only [marks_Right.l0]; rw [if_pos h1, if_pos h0, if_pos h1, if_pos c1]
    ·simp only [chancelref04_Right.l0]; rw [if_pos h1, if_pos h0, if_pos c1]
   ·by_cases c2 : (rd_T67 xs i).f1 < 0
    ·obtain ⟨r, e1, e2⟩ := key true
     refine ⟨r, Ev.step (fun k => ?_) e1, Ev.step (fun k => ?_) e2⟩
     ·simp only [marks_Right.l0]; rw [if_pos h1, if_pos h0, if_pos h1, if_neg c1, if_pos c2]
     ·simp only [chancelref04_Right.l0]; rw [if_pos h1, if_pos h0, if_neg c1, if_pos c2]
    ·by_cases c3 : (rd_T67 xs i).f1 ≥ (rd_T67 xs i).f2
     ·obtain ⟨r, e1, e2⟩ := key true
      refine ⟨r, Ev.step (fun k => ?_) e1, Ev.step (fun k => ?_) e2⟩
      ·simp only [marks_Right.l0]; rw [if_pos h1, if_pos h0, if_pos h1, if_neg c1, if_neg c2, if_pos c3]
      ·simp only [chancelref04_Right.l0]; rw [if_pos h1, if_pos h0, if_neg c1, if_neg c2, if_pos (by omega)]
     ·obtain ⟨r, e1, e2⟩ := key (decide ((rd_T67 xs i).f2 > n))
      refine ⟨r, Ev.step (fun k => ?_) e1, Ev.step (fun k => ?_) e2⟩
      ·simp only [marks_Right.l0]; rw [if_pos h1, if_pos h0, if_pos h1, if_neg c1, if_neg c2, if_neg c3]
      ·simp only [chancelref04_Right.l0]; rw [if_pos h1, if_pos h0, if_neg c1, if_neg c2, if_neg (by omega)]
  ·exact fin i h1

/-- Both judges say one thing. -/
theorem mr_both (n : Int) (xs : List S67) (ys : List S70) (hm : xs.length ≤ 140737488351232) (hn : ys.length ≤ 140737488351232) :
  ∃ r, Ev (fun k => marks_Right.f k xs ys n) r ∧ Ev (fun k => chancelref04_Right.f k xs ys n) r := mr_l0 n xs ys hm hn xs.length 0 (by omega) (by omega)

theorem ev_uniq {α : Type} {g : Nat → Option α} {r s : α} (h : Ev g r) (k : Ev g s) : r = s := by
 obtain ⟨K, h⟩ := h
 obtain ⟨L, k⟩ := k
 have h1 := h (max K L) (by omega)
 rw [k (max K L) (by omega)] at h1
 injection h1 with h1
 exact h1.symm
theorem marks_Right_ev (n : Int) (xs : List S67) (ys : List S70) (hm : xs.length ≤ 140737488351232) (hn : ys.length ≤ 140737488351232) : Ev (fun k => marks_Right.f k xs ys n) (rightB n xs ys) := by
 obtain ⟨r, h1, h2⟩ := mr_both n xs ys hm hn
 rw [ev_uniq (ref_Right_ev n xs ys hm hn) h2]
 exact h1

end Go.Proofs.YtjphmebhofkhcaaDoor.Pure
