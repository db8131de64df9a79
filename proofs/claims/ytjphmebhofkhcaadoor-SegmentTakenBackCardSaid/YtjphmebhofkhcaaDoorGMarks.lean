/- Marks, in plain Lean: which are right. Conditions: the sizes that every row has. -/
import Derived.Test.YtjphmebhofkhcaaDoorPSegAllx0
import Derived.Test.YtjphmebhofkhcaaDoorPSegAllx1
import Derived.Test.YtjphmebhofkhcaaDoorPSegAllx2
import Derived.Test.YtjphmebhofkhcaaDoorPSegAllx3
import Derived.Test.YtjphmebhofkhcaaDoorPSegAllx4
import Derived.Test.YtjphmebhofkhcaaDoorPSegAllx5
import Derived.Test.YtjphmebhofkhcaaDoorPSegAllx6
import Derived.Test.YtjphmebhofkhcaaDoorPSegAllx7
import Derived.Test.YtjphmebhofkhcaaDoorPSegAllx8
import Derived.Test.YtjphmebhofkhcaaDoorPSegAllx9
import Derived.Test.YtjphmebhofkhcaaDoorPSegAllx10
import Derived.Test.YtjphmebhofkhcaaDoorPSegAllx11
import Derived.Test.YtjphmebhofkhcaaDoorPSegAllx12
import Derived.Test.YtjphmebhofkhcaaDoorPl
namespace Go.Proofs.YtjphmebhofkhcaaDoor.Pure
open Go.RowKit Go.Proofs.YtjphmebhofkhcaaDoorPl Go.Proofs.YtjphmebhofkhcaaDoor.PSegAll Go.Proofs.YtjphmebhofkhcaaDoorW.PrintWords Go.Proofs.YtjphmebhofkhcaaDoorW.PrintLast Go.Proofs.YtjphmebhofkhcaaDoorW.PrintMore
set_option linter.unusedSimpArgs false
set_option linter.unusedVariables false
theorem rd_span {xs : List S67} {i : Nat} (h : i < xs.length) : rd_T67 xs (i : Int) = xs[i] := by
 unfold rd_T67
 rw [List.getD_eq_getElem?_getD, Int.toNat_natCast, List.getElem?_eq_getElem h]
 rfl
theorem rd_site {xs : List S70} {i : Nat} (h : i < xs.length) : rd_T70 xs (i : Int) = xs[i] := by
 unfold rd_T70
 rw [List.getD_eq_getElem?_getD, Int.toNat_natCast, List.getElem?_eq_getElem h]
 rfl
/-- What Of tells. -/
def ofSpans (xs : List S67) (m : Int) : List S67 := xs.filter fun x => x.f0 == m
def ofSites (ys : List S70) (m : Int) : List Int := (ys.filter fun x => x.f0 == m).map fun x => x.f1
def dropSpans (xs : List S67) (m : Int) : List S67 := xs.filter fun x => !(x.f0 == m)
def dropSites (ys : List S70) (m : Int) : List S70 := ys.filter fun x => !(x.f0 == m)
theorem marks_Of_l1 (m : Int) (S : List S67) (ys : List S70) (hn : ys.length ≤ 8796093022208) : Ev (fun k => marks_Of.l1 k m S [] ys (ys.length : Int) 0) (S, ofSites ys m) := by
 have h := ev_fold ys (fun s i k => marks_Of.l1 k m S s ys (ys.length : Int) (i : Int)) (fun s i => s.length ≤ i) (fun s y => if y.f0 == m then s ++ [y.f1] else s) (fun s i hi hI => by
  have w : wrap64 ((i : Int) + 1) = ((i + 1 : Nat) : Int) := wrap_succ (by omega)
  by_cases c : (ys[i]).f0 = m
  ·have c' : ((ys[i]).f0 == m) = true := by simpa using c
   refine ⟨by simp only [c', if_true]; rw [List.length_append]; simp; omega, fun r hr => ev_next (fun k => ?_) hr⟩
   simp only [marks_Of.l1, c', if_true]
   rw [if_pos (by omega), if_pos (by omega), if_pos (by omega), rd_site hi, if_pos c, if_pos (by omega), w]
  ·have c' : ((ys[i]).f0 == m) = false := by simpa using c
   refine ⟨by simp only [c', Bool.false_eq_true, if_false]; omega, fun r hr => ev_next (fun k => ?_) hr⟩
   simp only [marks_Of.l1, c', Bool.false_eq_true, if_false]
   rw [if_pos (by omega), if_pos (by omega), if_pos (by omega), rd_site hi, if_neg c, w]) [] 0 (by omega) (by simp)
 refine h.2 _ (ev_next (f := fun _ => some (S, ofSites ys m)) (fun k => ?_) (Ev.now _))
 simp only [marks_Of.l1]
 rw [if_neg (by omega), List.drop_zero, foldl_filter]
 rfl
theorem marks_Of_ev (xs : List S67) (ys : List S70) (m : Int) (hx : xs.length ≤ 5000000000000) (hn : ys.length ≤ 8796093022208) : Ev (fun k => marks_Of.f k xs ys m) (ofSpans xs m, ofSites ys m) := by
 have h := ev_fold xs (fun s i k => marks_Of.l0 k m s xs (xs.length : Int) (i : Int) xs ys) (fun s i => s.length ≤ i) (fun s y => if y.f0 == m then s ++ [(⟨y.f0, y.f1, y.f2⟩ : S67)] else s) (fun s i hi hI => by
  have w : wrap64 ((i : Int) + 1) = ((i + 1 : Nat) : Int) := wrap_succ (by omega)
  by_cases c : (xs[i]).f0 = m
  ·have c' : ((xs[i]).f0 == m) = true := by simpa using c
   refine ⟨by simp only [c', if_true]; rw [List.length_append]; simp; omega, fun r hr => ev_next (fun k => ?_) hr⟩
   simp only [marks_Of.l0, c', if_true]
   rw [if_pos (by omega), if_pos (by omega), if_pos (by omega), rd_span hi, if_pos c, if_pos (by omega), w]
  ·have c' : ((xs[i]).f0 == m) = false := by simpa using c
   refine ⟨by simp only [c', Bool.false_eq_true, if_false]; omega, fun r hr => ev_next (fun k => ?_) hr⟩
   simp only [marks_Of.l0, c', Bool.false_eq_true, if_false]
   rw [if_pos (by omega), if_pos (by omega), if_pos (by omega), rd_span hi, if_neg c, w]) [] 0 (by omega) (by simp)
 refine h.2 _ (ev_next (fun k => ?_) (marks_Of_l1 m (ofSpans xs m) ys hn))
 simp only [marks_Of.l0]
 rw [if_neg (by omega), List.drop_zero, foldl_filter]
 simp only [List.nil_append, List.map_id']
 rfl
/-- Is a span right behind another one (if there is one)? -/
def spanOk (n : Int) (p : Option S67) (s : S67) : Bool :=
 decide (0 < s.f0) && decide (0 ≤ s.f1) && decide (s.f1 < s.f2) && decide (s.f2 ≤ n) && (match p with | none => true | some q => decide (q.f2 < s.f1) || (decide (q.f2 = s.f1) && decide (q.f0 ≠ s.f0)))
def spansOk (n : Int) : Option S67 → List S67 → Bool
 | _, [] => true
 | p, s :: r => spanOk n p s && spansOk n (some s) r
def siteOk (n : Int) (p : Option S70) (s : S70) : Bool :=
 decide (0 < s.f0) && decide (0 ≤ s.f1) && decide (s.f1 ≤ n) && (match p with | none => true | some q => decide (q.f1 < s.f1) || (decide (q.f1 = s.f1) && decide (q.f0 < s.f0)))
def sitesOk (n : Int) : Option S70 → List S70 → Bool
 | _, [] => true
 | p, s :: r => siteOk n p s && sitesOk n (some s) r
def rightB (n : Int) (xs : List S67) (ys : List S70) : Bool := spansOk n none xs && sitesOk n none ys
/-- The element ahead of i. -/
def ahead {α : Type} (xs : List α) (i : Nat) : Option α := if i = 0 then none else xs[i - 1]?
theorem ahead_succ {α : Type} {xs : List α} {i : Nat} (h : i < xs.length) : ahead xs (i + 1) = some xs[i] := by simp [ahead, List.getElem?_eq_getElem h]
theorem ahead_pos {α : Type} {xs : List α} {i : Nat} (h0 : 0 < i) (h : i < xs.length) : ahead xs i = some (xs[i - 1]'(by omega)) := by
 unfold ahead
 rw [if_neg (by omega), List.getElem?_eq_getElem (by omega)]
theorem wrap_pred {i : Nat} (h0 : 0 < i) (h : i < 9223372036854775807) : wrap64 ((i : Int) - 1) = ((i - 1 : Nat) : Int) := by unfold wrap64; omega
theorem ref_Right_l1 (n : Int) (xs : List S67) (ys : List S70) (hn : ys.length ≤ 140737488351232) (d : Nat) : ∀ i : Nat, ys.length - i = d → i ≤ ys.length →
  Ev (fun k => chancelref04_Right.l1 k n (i : Int) xs ys) (sitesOk n (ahead ys i) (ys.drop i)) := by
 induction d with
 | zero =>
  intro i hd hi
  rw [List.drop_of_length_le (by omega)]
  exact ev_next (f := fun _ => some true) (fun k => by simp only [chancelref04_Right.l1]; rw [if_neg (by omega)]) (Ev.now _)
 | succ d ih =>
  intro i hd hi
  have hlt : i < ys.length := by omega
  have hr := rd_site hlt
  have w : wrap64 ((i : Int) + 1) = ((i + 1 : Nat) : Int) := wrap_succ (by omega)
  have h := ih (i + 1) (by omega) (by omega)
  rw [ahead_succ hlt] at h
  rw [List.drop_eq_getElem_cons hlt]
  generalize hs : ys[i] = s at hr h
  have key : ∀ b : Bool, Ev (fun k => chancelref04_Right.j3 k n (i : Int) b xs ys s.f0 s.f1) (!b && (match ahead ys i with | none => true | some q => decide (q.f1 < s.f1) || (decide (q.f1 = s.f1) && decide (q.f0 < s.f0))) && sitesOk n (some s) (ys.drop (i + 1))) := by
   intro b
   cases b with
   | true => exact ev_next (f := fun _ => some false) (fun k => by simp only [chancelref04_Right.j3, if_true]) (Ev.now _)
   | false =>
    by_cases h0 : i = 0
    ·subst h0
     have e : ahead ys 0 = none := rfl
     rw [e]
     simp only [Bool.not_false, Bool.true_and]
     exact ev_next (fun k => by simp only [chancelref04_Right.j3, Bool.false_eq_true, if_false]; rw [if_neg (by omega), w]) h
    ·have w' := wrap_pred (i := i) (by omega) (by omega)
     have hq := rd_site (xs := ys) (i := i - 1) (by omega)
     rw [ahead_pos (by omega) hlt]
     generalize ys[i - 1] = q at hq
     simp only [Bool.not_false, Bool.true_and]
     by_cases c1 : s.f1 < q.f1
     ·have e : (decide (q.f1 < s.f1) || (decide (q.f1 = s.f1) && decide (q.f0 < s.f0))) = false := by simp; omega
      rw [e]
      exact ev_next (f := fun _ => some false) (fun k => by simp only [chancelref04_Right.j3, Bool.false_eq_true, if_false]; rw [if_pos (by omega), w', if_pos (by omega), if_pos (by omega), hq, if_pos c1]) (Ev.now _)
     ·by_cases c2 : s.f1 = q.f1
      ·by_cases c3 : s.f0 ≤ q.f0
       ·have e : (decide (q.f1 < s.f1) || (decide (q.f1 = s.f1) && decide (q.f0 < s.f0))) = false := by simp; omega
        rw [e]
        exact ev_next (f := fun _ => some false) (fun k => by simp only [chancelref04_Right.j3, Bool.false_eq_true, if_false]; rw [if_pos (by omega), w', if_pos (by omega), if_pos (by omega), hq, if_neg c1, if_pos c2, if_pos c3]) (Ev.now _)
       ·have e : (decide (q.f1 < s.f1) || (decide (q.f1 = s.f1) && decide (q.f0 < s.f0))) = true := by simp; omega
        rw [e, Bool.true_and]
        exact ev_next (fun k => by simp only [chancelref04_Right.j3, Bool.false_eq_true, if_false]; rw [if_pos (by omega), w', if_pos (by omega), if_pos (by omega), hq, if_neg c1, if_pos c2, if_neg c3, w]) h
      ·have e : (decide (q.f1 < s.f1) || (decide (q.f1 = s.f1) && decide (q.f0 < s.f0))) = true := by simp; omega
       rw [e, Bool.true_and]
       exact ev_next (fun k => by simp only [chancelref04_Right.j3, Bool.false_eq_true, if_false]; rw [if_pos (by omega), w', if_pos (by omega), if_pos (by omega), hq, if_neg c1, if_neg c2, w]) h
  have go : ∀ (b : Bool) (e : sitesOk n (ahead ys i) (s :: ys.drop (i + 1)) = (!b && (match ahead ys i with | none => true | some q => decide (q.f1 < s.f1) || (decide (q.f1 = s.f1) && decide (q.f0 < s.f0))) && sitesOk n (some s) (ys.drop (i + 1)))) (st : ∀ k, chancelref04_Right.l1 (k + 1) n (i : Int) xs ys = chancelref04_Right.j3 k n (i : Int) b xs ys s.f0 s.f1),
    Ev (fun k => chancelref04_Right.l1 k n (i : Int) xs ys) (sitesOk n (ahead ys i) (s :: ys.drop (i + 1))) := fun b e st => by
   rw [e]
   exact ev_next st (key b)
  by_cases c1 : s.f0 ≤ 0
  ·exact go true (by simp only [sitesOk, siteOk]; rw [decide_eq_false (by omega)]; simp) (fun k => by simp only [chancelref04_Right.l1]; rw [if_pos (by omega), if_pos (by omega), hr, if_pos c1])
  ·by_cases c2 : s.f1 < 0
   ·exact go true (by simp only [sitesOk, siteOk]; rw [decide_eq_false (p := 0 ≤ s.f1) (by omega)]; simp) (fun k => by simp only [chancelref04_Right.l1]; rw [if_pos (by omega), if_pos (by omega), hr, if_neg c1, if_pos c2])
   ·have e3 : decide (s.f1 ≤ n) = !decide (s.f1 > n) := by
     by_cases h : s.f1 > n
     ·rw [decide_eq_true h, decide_eq_false (by omega)]; rfl
     ·rw [decide_eq_false h, decide_eq_true (by omega)]; rfl
    refine go (decide (s.f1 > n)) (by simp only [sitesOk, siteOk]; rw [decide_eq_true (p := 0 < s.f0) (by omega), decide_eq_true (p := 0 ≤ s.f1) (by omega), e3]; simp only [Bool.true_and]) (fun k => by simp only [chancelref04_Right.l1]; rw [if_pos (by omega), if_pos (by omega), hr, if_neg c1, if_neg c2])
theorem ref_Right_l0 (n : Int) (xs : List S67) (ys : List S70) (hm : xs.length ≤ 140737488351232) (hn : ys.length ≤ 140737488351232) (d : Nat) : ∀ i : Nat, xs.length - i = d → i ≤ xs.length →
  Ev (fun k => chancelref04_Right.l0 k n (i : Int) xs ys) (spansOk n (ahead xs i) (xs.drop i) && sitesOk n none ys) := by
 induction d with
 | zero =>
  intro i hd hi
  rw [List.drop_of_length_le (by omega)]
  have h := ref_Right_l1 n xs ys hn ys.length 0 (by omega) (by omega)
  exact ev_next (fun k => by simp only [chancelref04_Right.l0]; rw [if_neg (by omega)]; rfl) h
 | succ d ih =>
  intro i hd hi
  have hlt : i < xs.length := by omega
  have hr := rd_span hlt
  have w : wrap64 ((i : Int) + 1) = ((i + 1 : Nat) : Int) := wrap_succ (by omega)
  have h := ih (i + 1) (by omega) (by omega)
  rw [ahead_succ hlt] at h
  rw [List.drop_eq_getElem_cons hlt]
  generalize hs : xs[i] = s at hr h
  generalize hT : sitesOk n none ys = T at h ⊢
  have key : ∀ b : Bool, Ev (fun k => chancelref04_Right.j1 k n (i : Int) b xs ys s.f0 s.f1 s.f2) (!b && (match ahead xs i with | none => true | some q => decide (q.f2 < s.f1) || (decide (q.f2 = s.f1) && decide (q.f0 ≠ s.f0))) && (spansOk n (some s) (xs.drop (i + 1)) && T)) := by
   intro b
   cases b with
   | true => exact ev_next (f := fun _ => some false) (fun k => by simp only [chancelref04_Right.j1, if_true]) (Ev.now _)
   | false =>
    by_cases h0 : i = 0
    ·subst h0
     have e : ahead xs 0 = none := rfl
     rw [e]
     simp only [Bool.not_false, Bool.true_and]
     exact ev_next (fun k => by simp only [chancelref04_Right.j1, Bool.false_eq_true, if_false]; rw [if_neg (by omega), w]) h
    ·have w' := wrap_pred (i := i) (by omega) (by omega)
     have hq := rd_span (xs := xs) (i := i - 1) (by omega)
     rw [ahead_pos (by omega) hlt]
     generalize xs[i - 1] = q at hq
     simp only [Bool.not_false, Bool.true_and]
     by_cases c1 : s.f1 < q.f2
     ·have e : (decide (q.f2 < s.f1) || (decide (q.f2 = s.f1) && decide (q.f0 ≠ s.f0))) = false := by simp; omega
      rw [e]
      exact ev_next (f := fun _ => some false) (fun k => by simp only [chancelref04_Right.j1, Bool.false_eq_true, if_false]; rw [if_pos (by omega), w', if_pos (by omega), if_pos (by omega), hq, if_pos c1]) (Ev.now _)
     ·by_cases c2 : s.f1 = q.f2
      ·by_cases c3 : s.f0 = q.f0
       ·have e : (decide (q.f2 < s.f1) || (decide (q.f2 = s.f1) && decide (q.f0 ≠ s.f0))) = false := by simp; omega
        rw [e]
        exact ev_next (f := fun _ => some false) (fun k => by simp only [chancelref04_Right.j1, Bool.false_eq_true, if_false]; rw [if_pos (by omega), w', if_pos (by omega), if_pos (by omega), hq, if_neg c1, if_pos c2, if_pos c3]) (Ev.now _)
       ·have e : (decide (q.f2 < s.f1) || (decide (q.f2 = s.f1) && decide (q.f0 ≠ s.f0))) = true := by simp; omega
        rw [e, Bool.true_and]
        exact ev_next (fun k => by simp only [chancelref04_Right.j1, Bool.false_eq_true, if_false]; rw [if_pos (by omega), w', if_pos (by omega), if_pos (by omega), hq, if_neg c1, if_pos c2, if_neg c3, w]) h
      ·have e : (decide (q.f2 < s.f1) || (decide (q.f2 = s.f1) && decide (q.f0 ≠ s.f0))) = true := by simp; omega
       rw [e, Bool.true_and]
       exact ev_next (fun k => by simp only [chancelref04_Right.j1, Bool.false_eq_true, if_false]; rw [if_pos (by omega), w', if_pos (by omega), if_pos (by omega), hq, if_neg c1, if_neg c2, w]) h
  have go : ∀ (b : Bool) (e : (decide (0 < s.f0) && decide (0 ≤ s.f1) && decide (s.f1 < s.f2) && decide (s.f2 ≤ n)) = !b) (st : ∀ k, chancelref04_Right.l0 (k + 1) n (i : Int) xs ys = chancelref04_Right.j1 k n (i : Int) b xs ys s.f0 s.f1 s.f2),
    Ev (fun k => chancelref04_Right.l0 k n (i : Int) xs ys) (spansOk n (ahead xs i) (s :: xs.drop (i + 1)) && T) := fun b e st => by
   have := key b
   rw [← e] at this
   simp only [spansOk, spanOk]
   rw [Bool.and_assoc _ (spansOk _ _ _) T]
   exact ev_next st this
  by_cases c1 : s.f0 ≤ 0
  ·exact go true (by rw [decide_eq_false (by omega)]; simp) (fun k => by simp only [chancelref04_Right.l0]; rw [if_pos (by omega), if_pos (by omega), hr, if_pos c1])
  ·by_cases c2 : s.f1 < 0
   ·exact go true (by rw [decide_eq_false (p := 0 ≤ s.f1) (by omega)]; simp) (fun k => by simp only [chancelref04_Right.l0]; rw [if_pos (by omega), if_pos (by omega), hr, if_neg c1, if_pos c2])
   ·by_cases c3 : s.f2 ≤ s.f1
    ·exact go true (by rw [decide_eq_false (p := s.f1 < s.f2) (by omega)]; simp) (fun k => by simp only [chancelref04_Right.l0]; rw [if_pos (by omega), if_pos (by omega), hr, if_neg c1, if_neg c2, if_pos c3])
    ·have e3 : decide (s.f2 ≤ n) = !decide (s.f2 > n) := by
      by_cases h : s.f2 > n
      ·rw [decide_eq_true h, decide_eq_false (by omega)]; rfl
      ·rw [decide_eq_false h, decide_eq_true (by omega)]; rfl
     refine go (decide (s.f2 > n)) (by rw [decide_eq_true (p := 0 < s.f0) (by omega), decide_eq_true (p := 0 ≤ s.f1) (by omega), decide_eq_true (p := s.f1 < s.f2) (by omega), e3]; simp only [Bool.true_and]) (fun k => by simp only [chancelref04_Right.l0]; rw [if_pos (by omega), if_pos (by omega), hr, if_neg c1, if_neg c2, if_neg c3])
theorem ref_Right_ev (n : Int) (xs : List S67) (ys : List S70) (hm : xs.length ≤ 140737488351232) (hn : ys.length ≤ 140737488351232) : Ev (fun k => chancelref04_Right.f k xs ys n) (rightB n xs ys) :=
 ref_Right_l0 n xs ys hm hn xs.length 0 (by omega) (by omega)
/-- A span behind others: longer, or one more. -/
def addL (o : List S67) (s : S67) : List S67 :=
 if s.f2 ≤ s.f1 then o else match o.getLast? with
  | none => o ++ [s]
  | some q => if q.f2 = s.f1 ∧ q.f0 = s.f0 then o.dropLast ++ [⟨q.f0, q.f1, s.f2⟩] else o ++ [s]
theorem addL_nil (s : S67) (h : s.f1 < s.f2) : addL [] s = [s] := by
 unfold addL; rw [if_neg (by omega)]; rfl
theorem addL_none (o : List S67) (s : S67) (h : s.f2 ≤ s.f1) : addL o s = o := by
 unfold addL; rw [if_pos h]
theorem addL_long (o : List S67) (q s : S67) (h : s.f1 < s.f2) (h1 : q.f2 = s.f1) (h2 : q.f0 = s.f0) : addL (o ++ [q]) s = o ++ [⟨q.f0, q.f1, s.f2⟩] := by
 unfold addL; rw [if_neg (by omega)]; simp [h1, h2]
theorem addL_more (o : List S67) (q s : S67) (h : s.f1 < s.f2) (h1 : ¬ (q.f2 = s.f1 ∧ q.f0 = s.f0)) : addL (o ++ [q]) s = o ++ [q, s] := by
 unfold addL; rw [if_neg (by omega)]; simp only [List.getLast?_append, List.getLast?_singleton, Option.some_or]; rw [if_neg h1]; simp
/-- The mark over a place, that of the last span over it; c where there is none. -/
def colr (c : Int) (xs : List S67) (p : Int) : Int := xs.foldl (fun c s => if s.f1 ≤ p ∧ p < s.f2 then s.f0 else c) c
theorem colr_cons (c : Int) (s : S67) (xs : List S67) (p : Int) : colr c (s :: xs) p = colr (if s.f1 ≤ p ∧ p < s.f2 then s.f0 else c) xs p := rfl
theorem colr_append (c : Int) (xs ys : List S67) (p : Int) : colr c (xs ++ ys) p = colr (colr c xs p) ys p := by unfold colr; rw [List.foldl_append]
theorem colr_snoc (c : Int) (xs : List S67) (s : S67) (p : Int) : colr c (xs ++ [s]) p = if s.f1 ≤ p ∧ p < s.f2 then s.f0 else colr c xs p := by rw [colr_append]; rfl
/-- The last span ends at b at most. -/
def LastLe (o : List S67) (b : Int) : Prop := ∀ q, o.getLast? = some q → q.f1 < q.f2 ∧ q.f2 ≤ b
theorem LastLe.mono {o : List S67} {b c : Int} (h : LastLe o b) (hc : b ≤ c) : LastLe o c := fun q hq => ⟨(h q hq).1, by have := (h q hq).2; omega⟩
theorem LastLe.nil (b : Int) : LastLe [] b := fun _ h => by simp at h
theorem snoc_cases {α : Type} (o : List α) : o = [] ∨ ∃ p q, o = p ++ [q] := by
 rcases List.eq_nil_or_concat o with h | ⟨p, q, h⟩
 ·exact .inl h
 ·exact .inr ⟨p, q, by rw [h, List.concat_eq_append]⟩
theorem addL_last {o : List S67} {s : S67} {b : Int} (h : LastLe o b) : LastLe (addL o s) (if s.f1 < s.f2 then s.f2 else b) := by
 by_cases c : s.f1 < s.f2
 ·rw [if_pos c]
  rcases snoc_cases o with rfl | ⟨p, q, rfl⟩
  ·rw [addL_nil s c]; intro q hq; simp at hq; subst hq; exact ⟨c, Int.le_refl _⟩
  ·have hq := h q (by simp)
   by_cases c1 : q.f2 = s.f1 ∧ q.f0 = s.f0
   ·rw [addL_long p q s c c1.1 c1.2]; intro x hx; simp at hx; subst hx; exact ⟨by show q.f1 < s.f2; omega, Int.le_refl _⟩
   ·rw [addL_more p q s c c1]; intro x hx; simp at hx; subst hx; exact ⟨c, Int.le_refl _⟩
 ·rw [if_neg c, addL_none o s (by omega)]; exact h
theorem addL_colr {o : List S67} {s : S67} (h : LastLe o s.f1) (p : Int) : colr 0 (addL o s) p = if s.f1 ≤ p ∧ p < s.f2 then s.f0 else colr 0 o p := by
 by_cases c : s.f1 < s.f2
 ·rcases snoc_cases o with rfl | ⟨r, q, rfl⟩
  ·rw [addL_nil s c]; rfl
  ·have hq := h q (by simp)
   by_cases c1 : q.f2 = s.f1 ∧ q.f0 = s.f0
   ·rw [addL_long r q s c c1.1 c1.2, colr_snoc, colr_snoc]
    show (if q.f1 ≤ p ∧ p < s.f2 then q.f0 else _) = _
    by_cases d1 : s.f1 ≤ p ∧ p < s.f2
    ·rw [if_pos d1, if_pos (by omega)]; exact c1.2
    ·rw [if_neg d1]
     by_cases d2 : q.f1 ≤ p ∧ p < q.f2
     ·rw [if_pos d2, if_pos (by omega)]
     ·rw [if_neg d2, if_neg (by omega)]
   ·rw [addL_more r q s c c1, show r ++ [q, s] = (r ++ [q]) ++ [s] by simp, colr_snoc]
 ·rw [addL_none o s (by omega), if_neg (by omega)]
theorem spansOk_snoc (n : Int) (p : Option S67) (xs : List S67) (s : S67) : spansOk n p (xs ++ [s]) = (spansOk n p xs && spanOk n (xs.getLast?.or p) s) := by
 induction xs generalizing p with
 | nil => simp [spansOk]
 | cons x r ih =>
  rw [List.cons_append, spansOk, spansOk, ih, Bool.and_assoc]
  cases r with
  | nil => simp
  | cons y r => rw [List.getLast?_cons_cons, List.getLast?_cons]; rfl
theorem spanOk_iff (n : Int) (p : Option S67) (s : S67) : spanOk n p s = true ↔ 0 < s.f0 ∧ 0 ≤ s.f1 ∧ s.f1 < s.f2 ∧ s.f2 ≤ n ∧ (∀ q, p = some q → q.f2 < s.f1 ∨ (q.f2 = s.f1 ∧ q.f0 ≠ s.f0)) := by
 unfold spanOk
 cases p with
 | none => simp [and_assoc]
 | some q => simp [and_assoc]
theorem addL_ok {n : Int} {o : List S67} {s : S67} (h : spansOk n none o = true) (hl : LastLe o s.f1) (h0 : 0 < s.f0) (h1 : 0 ≤ s.f1) (h2 : s.f2 ≤ n) : spansOk n none (addL o s) = true := by
 by_cases c : s.f1 < s.f2
 ·rcases snoc_cases o with rfl | ⟨r, q, rfl⟩
  ·rw [addL_nil s c]; simp only [spansOk, Bool.and_true]; rw [spanOk_iff]; exact ⟨h0, h1, c, h2, fun _ e => by cases e⟩
  ·have hq := hl q (by simp)
   have h' := h
   rw [spansOk_snoc, Bool.and_eq_true, spanOk_iff] at h'
   by_cases c1 : q.f2 = s.f1 ∧ q.f0 = s.f0
   ·rw [addL_long r q s c c1.1 c1.2, spansOk_snoc, Bool.and_eq_true, spanOk_iff]
    exact ⟨h'.1, h'.2.1, h'.2.2.1, by show q.f1 < s.f2; omega, h2, h'.2.2.2.2.2⟩
   ·rw [addL_more r q s c c1, show r ++ [q, s] = (r ++ [q]) ++ [s] by simp, spansOk_snoc, Bool.and_eq_true, spanOk_iff]
    refine ⟨h, h0, h1, c, h2, fun x hx => ?_⟩
    simp at hx
    subst hx
    by_cases e : q.f2 = s.f1
    ·exact .inr ⟨e, fun e2 => c1 ⟨e, e2⟩⟩
    ·exact .inl (by omega)
 ·rw [addL_none o s (by omega)]; exact h
/-- In right spans each one ends ahead of the last one's end. -/
theorem ok_lt {n : Int} {xs : List S67} (h : spansOk n none xs = true) {b : Int} (hl : LastLe xs b) : ∀ s ∈ xs, 0 < s.f0 ∧ 0 ≤ s.f1 ∧ s.f1 < s.f2 ∧ s.f2 ≤ b := by
 obtain ⟨k, hk⟩ : ∃ k, xs.length = k := ⟨_, rfl⟩
 induction k generalizing xs b with
 | zero => have : xs = [] := List.eq_nil_of_length_eq_zero hk; subst this; intro s hs; simp at hs
 | succ k ih =>
  rcases snoc_cases xs with rfl | ⟨r, q, rfl⟩
  ·simp at hk
  ·rw [spansOk_snoc, Bool.and_eq_true, spanOk_iff] at h
   have hq := hl q (by simp)
   obtain ⟨h1, h2, h3, h4, h5, h6⟩ := h
   have hl' : LastLe r q.f1 := by
    intro x hx
    have := h6 x (by simp [hx])
    have hx' : 0 < x.f0 ∧ 0 ≤ x.f1 ∧ x.f1 < x.f2 := by
     rcases snoc_cases r with rfl | ⟨r', y, rfl⟩
     ·simp at hx
     ·simp at hx; subst hx; rw [spansOk_snoc, Bool.and_eq_true, spanOk_iff] at h1; exact ⟨h1.2.1, h1.2.2.1, h1.2.2.2.1⟩
    exact ⟨hx'.2.2, by omega⟩
   intro s hs
   simp at hs
   rcases hs with hs | rfl
   ·have := ih h1 hl' (by simpa using hk) s hs; omega
   ·exact ⟨h2, h3, h4, hq.2⟩
theorem ok_last {n : Int} {xs : List S67} (h : spansOk n none xs = true) : LastLe xs n := by
 rcases snoc_cases xs with rfl | ⟨r, q, rfl⟩
 ·exact LastLe.nil _
 ·intro x hx; simp at hx; subst hx; rw [spansOk_snoc, Bool.and_eq_true, spanOk_iff] at h; exact ⟨h.2.2.2.1, h.2.2.2.2.1⟩
/-- Pieces of right spans, each laid behind the others by a map that keeps the order: right again; marks come along. -/
theorem pieces_ok {n n' : Int} (φ ψ : Int → Int) (g : ∀ p, 0 ≤ p → p < n' → ∀ x, 0 ≤ x → x ≤ n → (φ x ≤ p ↔ x ≤ ψ p)) (mono : ∀ x y, 0 ≤ x → x ≤ y → y ≤ n → φ x ≤ φ y) (lo : ∀ x, 0 ≤ x → x ≤ n → 0 ≤ φ x) (hi : ∀ x, 0 ≤ x → x ≤ n → φ x ≤ n')
  (S : List S67) (pv : Option S67) (hS : spansOk n pv S = true) (o : List S67) (b : Int) (ho : spansOk n' none o = true) (hl : LastLe o b) (hb : ∀ s, S.head? = some s → b ≤ φ s.f1) :
  spansOk n' none (S.foldl (fun o s => addL o ⟨s.f0, φ s.f1, φ s.f2⟩) o) = true ∧ (∀ b', b ≤ b' → (∀ s ∈ S, φ s.f2 ≤ b') → LastLe (S.foldl (fun o s => addL o ⟨s.f0, φ s.f1, φ s.f2⟩) o) b') ∧
  ∀ p, 0 ≤ p → p < n' → colr 0 (S.foldl (fun o s => addL o ⟨s.f0, φ s.f1, φ s.f2⟩) o) p = colr (colr 0 o p) S (ψ p) := by
 induction S generalizing o b pv with
 | nil => exact ⟨ho, fun b' h _ => hl.mono h, fun p _ _ => rfl⟩
 | cons s r ih =>
  rw [spansOk, Bool.and_eq_true, spanOk_iff] at hS
  obtain ⟨⟨h0, h1, h2, h3, h4⟩, hr⟩ := hS
  have hb' := hb s rfl
  have m1 := mono s.f1 s.f2 h1 (by omega) h3
  have l1 := lo s.f1 h1 (by omega)
  have l2 := hi s.f2 (by omega) h3
  have hl1 : LastLe o (φ s.f1) := hl.mono hb'
  have ok1 := addL_ok (n := n') (s := ⟨s.f0, φ s.f1, φ s.f2⟩) ho hl1 h0 l1 l2
  have la1 : LastLe (addL o ⟨s.f0, φ s.f1, φ s.f2⟩) (φ s.f2) := by
   have := addL_last (s := ⟨s.f0, φ s.f1, φ s.f2⟩) hl1
   refine this.mono ?_
   show (if φ s.f1 < φ s.f2 then φ s.f2 else φ s.f1) ≤ φ s.f2
   split <;> omega
  have hb2 : ∀ t, r.head? = some t → φ s.f2 ≤ φ t.f1 := by
   intro t ht
   cases r with
   | nil => simp at ht
   | cons t' r =>
    simp at ht; subst ht
    rw [spansOk, Bool.and_eq_true, spanOk_iff] at hr
    have := hr.1.2.2.2.2 s rfl
    exact mono _ _ (by omega) (by omega) (by omega)
  obtain ⟨a1, a2, a3⟩ := ih (some s) hr _ (φ s.f2) ok1 la1 hb2
  rw [List.foldl_cons]
  refine ⟨a1, fun b' h h' => a2 b' (h' s (by simp)) fun t ht => h' t (by simp [ht]), fun p hp0 hp => ?_⟩
  rw [a3 p hp0 hp, colr_cons, addL_colr hl1]
  show colr (if φ s.f1 ≤ p ∧ p < φ s.f2 then s.f0 else colr 0 o p) r (ψ p) = _
  have g1 := g p hp0 hp s.f1 h1 (by omega)
  have g2 := g p hp0 hp s.f2 (by omega) h3
  by_cases c : φ s.f1 ≤ p ∧ p < φ s.f2
  ·rw [if_pos c, if_pos ⟨g1.1 c.1, by have := mt g2.2; omega⟩]
  ·rw [if_neg c, if_neg fun c' => c ⟨g1.2 c'.1, by have := mt g2.1; omega⟩]
theorem ok_each {n : Int} {xs : List S67} (h : spansOk n none xs = true) : ∀ s ∈ xs, 0 < s.f0 ∧ 0 ≤ s.f1 ∧ s.f1 < s.f2 ∧ s.f2 ≤ n := ok_lt h (ok_last h)
theorem foldl_congr_mem {α σ : Type} {f g : σ → α → σ} (xs : List α) (h : ∀ s, ∀ x ∈ xs, f s x = g s x) (a : σ) : xs.foldl f a = xs.foldl g a := by
 induction xs generalizing a with
 | nil => rfl
 | cons x r ih => rw [List.foldl_cons, List.foldl_cons, h a x (by simp)]; exact ih (fun s y hy => h s y (by simp [hy])) _
theorem rd_snoc (r : List S67) (q : S67) : rd_T67 (r ++ [q]) (r.length : Int) = q := by
 have := rd_span (xs := r ++ [q]) (i := r.length) (by simp)
 rw [this]; simp
theorem set_snoc {α : Type} (r : List α) (q v : α) : (r ++ [q]).set ((r.length : Int)).toNat v = r ++ [v] := by simp
theorem addL_length (o : List S67) (s : S67) : (addL o s).length ≤ o.length + 1 := by
 by_cases c : s.f1 < s.f2
 ·rcases snoc_cases o with rfl | ⟨r, q, rfl⟩
  ·rw [addL_nil s c]; simp
  ·by_cases c1 : q.f2 = s.f1 ∧ q.f0 = s.f0
   ·rw [addL_long r q s c c1.1 c1.2]; simp
   ·rw [addL_more r q s c c1]; simp
 ·rw [addL_none o s (by omega)]; omega
theorem marks_add_eq (o : List S67) (m f t : Int) (hl : o.length < 5864062014805) : marks_add.f o m f t = some (addL o ⟨m, f, t⟩) := by
 unfold marks_add.f
 by_cases c : f ≥ t
 ·rw [if_pos c, addL_none _ _ c]
 ·rw [if_neg c]
  have c' : f < t := by omega
  rcases snoc_cases o with rfl | ⟨r, q, rfl⟩
  ·rw [if_neg (by simp), if_pos (by simp), addL_nil ⟨m, f, t⟩ c']; rfl
  ·have hlen : (r ++ [q]).length = r.length + 1 := by simp
   have hw : wrap64 (((r ++ [q]).length : Int) - 1) = (r.length : Int) := by unfold wrap64; omega
   rw [if_pos (by omega), hw, if_pos (by omega), if_pos (by omega), rd_snoc]
   by_cases c1 : q.f2 = f
   ·by_cases c2 : q.f0 = m
    ·rw [if_pos c1, if_pos c2, addL_long r q ⟨m, f, t⟩ c' c1 c2, set_snoc]
    ·rw [if_pos c1, if_neg c2, if_pos hl, addL_more r q ⟨m, f, t⟩ c' (fun h => c2 h.2)]; simp
   ·rw [if_neg c1, if_pos hl, addL_more r q ⟨m, f, t⟩ c' (fun h => c1 h.1)]; simp
def over (c : Int → Int) (a b m : Int) : Int → Int := fun p => if a ≤ p ∧ p < b then m else c p
def siteIs (s y : S70) : Bool := y.f0 == s.f0 && (y.f1 == s.f1)
def siteGt (s y : S70) : Bool := decide (y.f1 > s.f1) || (decide (y.f1 = s.f1) && decide (y.f0 > s.f0))
def insS (s : S70) : List S70 → List S70
 | [] => [s]
 | y :: r => if siteGt s y then s :: y :: r else y :: insS s r
/-- A site in its place, once. -/
def siteL (l : List S70) (s : S70) : List S70 := if l.any (siteIs s) then l else insS s l
theorem insS_length (s : S70) (l : List S70) : (insS s l).length = l.length + 1 := by
 induction l with
 | nil => rfl
 | cons y r ih => rw [insS]; split <;> simp [ih]
theorem siteL_length (l : List S70) (s : S70) : (siteL l s).length ≤ l.length + 1 := by
 unfold siteL; split
 ·omega
 ·rw [insS_length]; omega
/-- A site behind all others: at the end. -/
def siteLt (x y : S70) : Prop := x.f1 < y.f1 ∨ (x.f1 = y.f1 ∧ x.f0 < y.f0)
theorem siteOk_iff (n : Int) (p : Option S70) (s : S70) : siteOk n p s = true ↔ 0 < s.f0 ∧ 0 ≤ s.f1 ∧ s.f1 ≤ n ∧ (∀ q, p = some q → siteLt q s) := by
 unfold siteOk siteLt
 cases p with
 | none => simp [and_assoc]
 | some q => simp [and_assoc]
theorem siteLt_trans {x y z : S70} (h : siteLt x y) (k : siteLt y z) : siteLt x z := by unfold siteLt at *; omega
/-- Right sites: each one right, each one ahead of those behind it. -/
theorem sitesOk_iff (n : Int) (p : Option S70) (ys : List S70) : sitesOk n p ys = true ↔ (∀ s ∈ ys, 0 < s.f0 ∧ 0 ≤ s.f1 ∧ s.f1 ≤ n) ∧ ys.Pairwise siteLt ∧ (∀ q, p = some q → ∀ s ∈ ys, siteLt q s) := by
 induction ys generalizing p with
 | nil => simp [sitesOk]
 | cons s r ih =>
  rw [sitesOk, Bool.and_eq_true, siteOk_iff, ih]
  constructor
  ·rintro ⟨⟨h1, h2, h3, h4⟩, h5, h6, h7⟩
   refine ⟨fun t ht => ?_, List.pairwise_cons.2 ⟨h7 s rfl, h6⟩, fun q hq t ht => ?_⟩
   ·simp at ht
    rcases ht with rfl | ht
    ·exact ⟨h1, h2, h3⟩
    ·exact h5 t ht
   ·simp at ht
    rcases ht with rfl | ht
    ·exact h4 q hq
    ·exact siteLt_trans (h4 q hq) (h7 s rfl t ht)
  ·rintro ⟨h1, h2, h3⟩
   have h4 := List.pairwise_cons.1 h2
   have h5 := h1 s (by simp)
   exact ⟨⟨h5.1, h5.2.1, h5.2.2, fun q hq => h3 q hq s (by simp)⟩, fun t ht => h1 t (by simp [ht]), h4.2, fun q hq t ht => by injection hq with hq; subst hq; exact h4.1 t ht⟩
def mrCmp (a b : Int) : Int := if a < b then -1 else if a > b then 1 else 0
theorem mr_compare1 (a b : Int) : cmp_Compare_int.f a b = some (mrCmp a b) := by
 unfold cmp_Compare_int.f cmp_isNaN_int.f mrCmp
 simp only [Option.bind_some, bne_self_eq_false, Bool.false_eq_true, if_false]
 split
 ·rfl
 ·split <;> rfl
theorem mr_or (p q : Int) : Ev (fun k => cmp_Or_int.f k [p, q]) (if p = 0 then q else p) := by
 refine Ev.of (cmp_Or_int.mono _) (k := 4) ?_
 unfold cmp_Or_int.f
 have w1 : wrap64 (0 + 1) = 1 := by decide +kernel
 have w2 : wrap64 (1 + 1) = 2 := by decide +kernel
 have r0 : rd [p, q] 0 = p := rfl
 have r1 : rd [p, q] 1 = q := rfl
 have l0 : (([p, q] : List Int).length : Int) = 2 := rfl
 simp only [cmp_Or_int.l0, l0]
 rw [if_pos (by decide), if_pos (by decide), if_pos (by decide), r0, w1]
 by_cases hp : p = 0
 ·rw [if_pos hp, if_pos hp, if_pos (by decide), if_pos (by decide), if_pos (by decide), r1, w2]
  by_cases hq : q = 0
  ·rw [if_pos hq, if_neg (by decide), hq]
  ·rw [if_neg hq]
 ·rw [if_neg hp, if_neg hp]
/-- compare, as it is. -/
theorem mr_compare (m a m' a' : Int) : Ev (fun k => marks_compare.f k m a m' a') (if mrCmp a a' = 0 then mrCmp m m' else mrCmp a a') := by
 unfold marks_compare.f
 simp only [mr_compare1, Option.bind_some]
 exact Ev.bind (mr_or _ _) (Ev.now _)
theorem mr_compare_sign (m a m' a' : Int) : (if mrCmp a a' = 0 then mrCmp m m' else mrCmp a a') ≥ 0 ↔ ¬ (a < a' ∨ a = a' ∧ m < m') := by
 unfold mrCmp
 repeat' split
 all_goals omega

end Go.Proofs.YtjphmebhofkhcaaDoor.Pure
