/- The pure law MarksDrop: the printed functions of MarksDrop answer true for every input. Conditions: the sizes that every row has. -/
import Derived.Test.YtdgjjdpeaohebaaPMarksDropx0
import Derived.Test.YtdgjjdpeaohebaaPMarksDropx1
import Derived.Test.YtdgjjdpeaohebaaPMarksDropx2
import Derived.Test.YtdgjjdpeaohebaaPMarksDropx3
import Derived.Test.YtdgjjdpeaohebaaPMarksDropx4
import Derived.Test.YtdgjjdpeaohebaaPMarksDropx5
import Derived.Test.YtdgjjdpeaohebaaPMarksDropx6
import Derived.Test.YtdgjjdpeaohebaaPMarksDropx7
import Derived.Test.YtdgjjdpeaohebaaPMarksDropx8
import Derived.Test.YtdgjjdpeaohebaaPl
namespace Go.Proofs.Ytdgjjdpeaohebaa.Pure
open Go.RowKit Go.Proofs.YtdgjjdpeaohebaaPl Go.Proofs.Ytdgjjdpeaohebaa.PMarksDrop Go.Proofs.YtdgjjdpeaohebaaW.PrintWords Go.Proofs.YtdgjjdpeaohebaaW.PrintLast
theorem rd_span {xs : List S26} {i : Nat} (h : i < xs.length) : rd_T26 xs (i : Int) = xs[i] := by
  unfold rd_T26
  rw [List.getD_eq_getElem?_getD, Int.toNat_natCast, List.getElem?_eq_getElem h]
  rfl
theorem rd_site {xs : List S38} {i : Nat} (h : i < xs.length) : rd_T38 xs (i : Int) = xs[i] := by
  unfold rd_T38
  rw [List.getD_eq_getElem?_getD, Int.toNat_natCast, List.getElem?_eq_getElem h]
  rfl
theorem rd_num {xs : List Int} {i : Nat} (h : i < xs.length) : rd xs (i : Int) = xs[i] := by
  unfold rd
  rw [List.getD_eq_getElem?_getD, Int.toNat_natCast, List.getElem?_eq_getElem h]
  rfl
/-- What Of tells. -/
def ofSpans (xs : List S26) (m : Int) : List S26 := xs.filter fun x => x.f0 == m
def ofSites (ys : List S38) (m : Int) : List Int := (ys.filter fun x => x.f0 == m).map fun x => x.f1
def dropSpans (xs : List S26) (m : Int) : List S26 := xs.filter fun x => !(x.f0 == m)
def dropSites (ys : List S38) (m : Int) : List S38 := ys.filter fun x => !(x.f0 == m)
theorem marks_Of_l1 (m : Int) (S : List S26) (ys : List S38) (hn : ys.length ≤ 8796093022208) : Ev (fun k => marks_Of.l1 k m S [] ys (ys.length : Int) 0) (S, ofSites ys m) := by
  have h := ev_fold ys (fun s i k => marks_Of.l1 k m S s ys (ys.length : Int) (i : Int)) (fun s i => s.length ≤ i) (fun s y => if y.f0 == m then s ++ [y.f1] else s) (fun s i hi hI => by
    have w : wrap64 ((i : Int) + 1) = ((i + 1 : Nat) : Int) := wrap_succ (by omega)
    by_cases c : (ys[i]).f0 = m
    · have c' : ((ys[i]).f0 == m) = true := by simpa using c
      refine ⟨by simp only [c', if_true]; rw [List.length_append]; simp; omega, fun r hr => ev_next (fun k => ?_) hr⟩
      simp only [marks_Of.l1, c', if_true]
      rw [if_pos (by omega), if_pos (by omega), if_pos (by omega), rd_site hi, if_pos c, if_pos (by omega), w]
    · have c' : ((ys[i]).f0 == m) = false := by simpa using c
      refine ⟨by simp only [c', Bool.false_eq_true, if_false]; omega, fun r hr => ev_next (fun k => ?_) hr⟩
      simp only [marks_Of.l1, c', Bool.false_eq_true, if_false]
      rw [if_pos (by omega), if_pos (by omega), if_pos (by omega), rd_site hi, if_neg c, w]) [] 0 (by omega) (by simp)
  refine h.2 _ (ev_next (f := fun _ => some (S, ofSites ys m)) (fun k => ?_) (Ev.now _))
  simp only [marks_Of.l1]
  rw [if_neg (by omega), List.drop_zero, foldl_filter]
  rfl
theorem marks_Of_ev (xs : List S26) (ys : List S38) (m : Int) (hx : xs.length ≤ 5000000000000) (hn : ys.length ≤ 8796093022208) : Ev (fun k => marks_Of.f k xs ys m) (ofSpans xs m, ofSites ys m) := by
  have h := ev_fold xs (fun s i k => marks_Of.l0 k m s xs (xs.length : Int) (i : Int) xs ys) (fun s i => s.length ≤ i) (fun s y => if y.f0 == m then s ++ [(⟨y.f0, y.f1, y.f2⟩ : S26)] else s) (fun s i hi hI => by
    have w : wrap64 ((i : Int) + 1) = ((i + 1 : Nat) : Int) := wrap_succ (by omega)
    by_cases c : (xs[i]).f0 = m
    · have c' : ((xs[i]).f0 == m) = true := by simpa using c
      refine ⟨by simp only [c', if_true]; rw [List.length_append]; simp; omega, fun r hr => ev_next (fun k => ?_) hr⟩
      simp only [marks_Of.l0, c', if_true]
      rw [if_pos (by omega), if_pos (by omega), if_pos (by omega), rd_span hi, if_pos c, if_pos (by omega), w]
    · have c' : ((xs[i]).f0 == m) = false := by simpa using c
      refine ⟨by simp only [c', Bool.false_eq_true, if_false]; omega, fun r hr => ev_next (fun k => ?_) hr⟩
      simp only [marks_Of.l0, c', Bool.false_eq_true, if_false]
      rw [if_pos (by omega), if_pos (by omega), if_pos (by omega), rd_span hi, if_neg c, w]) [] 0 (by omega) (by simp)
  refine h.2 _ (ev_next (fun k => ?_) (marks_Of_l1 m (ofSpans xs m) ys hn))
  simp only [marks_Of.l0]
  rw [if_neg (by omega), List.drop_zero, foldl_filter]
  simp only [List.nil_append, List.map_id']
  rfl
theorem ref_Of_l1 (m : Int) (S xs : List S26) (ys : List S38) (hn : ys.length ≤ 8796093022208) : Ev (fun k => chancelref04_Of.l1 k m S [] 0 xs ys) (S, ofSites ys m) := by
  have h := ev_fold ys (fun s i k => chancelref04_Of.l1 k m S s (i : Int) xs ys) (fun s i => s.length ≤ i) (fun s y => if y.f0 == m then s ++ [y.f1] else s) (fun s i hi hI => by
    have w : wrap64 ((i : Int) + 1) = ((i + 1 : Nat) : Int) := wrap_succ (by omega)
    by_cases c : (ys[i]).f0 = m
    · have c' : ((ys[i]).f0 == m) = true := by simpa using c
      refine ⟨by simp only [c', if_true]; rw [List.length_append]; simp; omega, fun r hr => ev_next (fun k => ?_) hr⟩
      simp only [chancelref04_Of.l1, c', if_true]
      rw [if_pos (by omega), if_pos (by omega), rd_site hi, if_pos c, if_pos (by omega), w]
    · have c' : ((ys[i]).f0 == m) = false := by simpa using c
      refine ⟨by simp only [c', Bool.false_eq_true, if_false]; omega, fun r hr => ev_next (fun k => ?_) hr⟩
      simp only [chancelref04_Of.l1, c', Bool.false_eq_true, if_false]
      rw [if_pos (by omega), if_pos (by omega), rd_site hi, if_neg c, w]) [] 0 (by omega) (by simp)
  refine h.2 _ (ev_next (f := fun _ => some (S, ofSites ys m)) (fun k => ?_) (Ev.now _))
  simp only [chancelref04_Of.l1]
  rw [if_neg (by omega), List.drop_zero, foldl_filter]
  rfl
theorem ref_Of_ev (xs : List S26) (ys : List S38) (m : Int) (hx : xs.length ≤ 5000000000000) (hn : ys.length ≤ 8796093022208) : Ev (fun k => chancelref04_Of.f k xs ys m) (ofSpans xs m, ofSites ys m) := by
  have h := ev_fold xs (fun s i k => chancelref04_Of.l0 k m s (i : Int) xs ys) (fun s i => s.length ≤ i) (fun s y => if y.f0 == m then s ++ [(⟨y.f0, y.f1, y.f2⟩ : S26)] else s) (fun s i hi hI => by
    have w : wrap64 ((i : Int) + 1) = ((i + 1 : Nat) : Int) := wrap_succ (by omega)
    by_cases c : (xs[i]).f0 = m
    · have c' : ((xs[i]).f0 == m) = true := by simpa using c
      refine ⟨by simp only [c', if_true]; rw [List.length_append]; simp; omega, fun r hr => ev_next (fun k => ?_) hr⟩
      simp only [chancelref04_Of.l0, c', if_true]
      rw [if_pos (by omega), if_pos (by omega), rd_span hi, if_pos c, if_pos (by omega), w]
    · have c' : ((xs[i]).f0 == m) = false := by simpa using c
      refine ⟨by simp only [c', Bool.false_eq_true, if_false]; omega, fun r hr => ev_next (fun k => ?_) hr⟩
      simp only [chancelref04_Of.l0, c', Bool.false_eq_true, if_false]
      rw [if_pos (by omega), if_pos (by omega), rd_span hi, if_neg c, w]) [] 0 (by omega) (by simp)
  refine h.2 _ (ev_next (fun k => ?_) (ref_Of_l1 m (ofSpans xs m) xs ys hn))
  simp only [chancelref04_Of.l0]
  rw [if_neg (by omega), List.drop_zero, foldl_filter]
  simp only [List.nil_append, List.map_id']
  rfl
theorem ref_Drop_l1 (m : Int) (S xs : List S26) (ys : List S38) (hn : ys.length ≤ 8000000000000) : Ev (fun k => chancelref04_Drop.l1 k m 0 xs ys S []) (S, dropSites ys m) := by
  have h := ev_fold ys (fun s i k => chancelref04_Drop.l1 k m (i : Int) xs ys S s) (fun s i => s.length ≤ i) (fun s y => if !(y.f0 == m) then s ++ [(⟨y.f0, y.f1⟩ : S38)] else s) (fun s i hi hI => by
    have w : wrap64 ((i : Int) + 1) = ((i + 1 : Nat) : Int) := wrap_succ (by omega)
    by_cases c : (ys[i]).f0 = m
    · have c' : (!((ys[i]).f0 == m)) = false := by simpa using c
      refine ⟨by simp only [c', Bool.false_eq_true, if_false]; omega, fun r hr => ev_next (fun k => ?_) hr⟩
      simp only [chancelref04_Drop.l1, c', Bool.false_eq_true, if_false]
      rw [if_pos (by omega), if_pos (by omega), rd_site hi, if_pos c, w]
    · have c' : (!((ys[i]).f0 == m)) = true := by simpa using c
      refine ⟨by simp only [c', if_true]; rw [List.length_append]; simp; omega, fun r hr => ev_next (fun k => ?_) hr⟩
      simp only [chancelref04_Drop.l1, c', if_true]
      rw [if_pos (by omega), if_pos (by omega), rd_site hi, if_neg c, if_pos (by omega), w]) [] 0 (by omega) (by simp)
  refine h.2 _ (ev_next (f := fun _ => some (S, dropSites ys m)) (fun k => ?_) (Ev.now _))
  simp only [chancelref04_Drop.l1]
  rw [if_neg (by omega), List.drop_zero, foldl_filter]
  simp only [List.nil_append, List.map_id']
  rfl
theorem ref_Drop_ev (xs : List S26) (ys : List S38) (m : Int) (hx : xs.length ≤ 5000000000000) (hn : ys.length ≤ 8000000000000) : Ev (fun k => chancelref04_Drop.f k xs ys m) (dropSpans xs m, dropSites ys m) := by
  have h := ev_fold xs (fun s i k => chancelref04_Drop.l0 k m (i : Int) xs ys s) (fun s i => s.length ≤ i) (fun s y => if !(y.f0 == m) then s ++ [(⟨y.f0, y.f1, y.f2⟩ : S26)] else s) (fun s i hi hI => by
    have w : wrap64 ((i : Int) + 1) = ((i + 1 : Nat) : Int) := wrap_succ (by omega)
    by_cases c : (xs[i]).f0 = m
    · have c' : (!((xs[i]).f0 == m)) = false := by simpa using c
      refine ⟨by simp only [c', Bool.false_eq_true, if_false]; omega, fun r hr => ev_next (fun k => ?_) hr⟩
      simp only [chancelref04_Drop.l0, c', Bool.false_eq_true, if_false]
      rw [if_pos (by omega), if_pos (by omega), rd_span hi, if_pos c, w]
    · have c' : (!((xs[i]).f0 == m)) = true := by simpa using c
      refine ⟨by simp only [c', if_true]; rw [List.length_append]; simp; omega, fun r hr => ev_next (fun k => ?_) hr⟩
      simp only [chancelref04_Drop.l0, c', if_true]
      rw [if_pos (by omega), if_pos (by omega), rd_span hi, if_neg c, if_pos (by omega), w]) [] 0 (by omega) (by simp)
  refine h.2 _ (ev_next (fun k => ?_) (ref_Drop_l1 m (dropSpans xs m) xs ys hn))
  simp only [chancelref04_Drop.l0]
  rw [if_neg (by omega), List.drop_zero, foldl_filter]
  simp only [List.nil_append, List.map_id']
  rfl
/-- Equal lists are the same. -/
theorem same_l1 (ys : List S38) (hn : ys.length ≤ 8796093022208) : Ev (fun k => chancelref04_Same.l1 k ys ys 0) true := by
  have h := ev_fold ys (fun (_ : Unit) i k => chancelref04_Same.l1 k ys ys (i : Int)) (fun _ _ => True) (fun s _ => s) (fun s i hi _ => by
    have w : wrap64 ((i : Int) + 1) = ((i + 1 : Nat) : Int) := wrap_succ (by omega)
    refine ⟨trivial, fun r hr => ev_next (fun k => ?_) hr⟩
    simp only [chancelref04_Same.l1, beq_self_eq_true, Bool.not_true, Bool.or_self, Bool.false_eq_true, if_false]
    rw [if_pos (by omega), if_pos (by omega), if_pos (by omega), w]) () 0 (by omega) trivial
  refine h.2 _ (ev_next (f := fun _ => some true) (fun k => ?_) (Ev.now _))
  simp only [chancelref04_Same.l1]
  rw [if_neg (by omega)]
theorem same_ev (xs : List S26) (ys : List S38) (hx : xs.length ≤ 8796093022208) (hn : ys.length ≤ 8796093022208) : Ev (fun k => chancelref04_Same.f k xs xs ys ys) true := by
  have h := ev_fold xs (fun (_ : Unit) i k => chancelref04_Same.l0 k xs xs ys ys (i : Int)) (fun _ _ => True) (fun s _ => s) (fun s i hi _ => by
    have w : wrap64 ((i : Int) + 1) = ((i + 1 : Nat) : Int) := wrap_succ (by omega)
    refine ⟨trivial, fun r hr => ev_next (fun k => ?_) hr⟩
    simp only [chancelref04_Same.l0, beq_self_eq_true, Bool.not_true, Bool.or_self, Bool.false_eq_true, if_false]
    rw [if_pos (by omega), if_pos (by omega), if_pos (by omega), w]) () 0 (by omega) trivial
  have h0 := h.2 true (ev_next (fun k => by simp only [chancelref04_Same.l0]; rw [if_neg (by omega)]) (same_l1 ys hn))
  unfold chancelref04_Same.f
  simp only [if_true, bne_self_eq_false]
  exact ev_next (fun k => by simp only [chancelref04_Same.j0, Bool.false_eq_true, if_false]; rfl) h0
theorem ints_ev (xs : List Int) (hn : xs.length ≤ 17592186044416) : Ev (fun k => chancelref03_Ints.f k xs xs) true := by
  have h := ev_fold xs (fun (_ : Unit) i k => chancelref03_Ints.l0 k xs xs (i : Int)) (fun _ _ => True) (fun s _ => s) (fun s i hi _ => by
    have w : wrap64 ((i : Int) + 1) = ((i + 1 : Nat) : Int) := wrap_succ (by omega)
    refine ⟨trivial, fun r hr => ev_next (fun k => ?_) hr⟩
    simp only [chancelref03_Ints.l0, if_true]
    rw [if_pos (by omega), if_pos (by omega), if_pos (by omega), w]) () 0 (by omega) trivial
  unfold chancelref03_Ints.f
  simp only [if_true]
  exact h.2 true (ev_next (f := fun _ => some true) (fun k => by simp only [chancelref03_Ints.l0]; rw [if_neg (by omega)]) (Ev.now _))
theorem law_same_ev (xs : List S26) (ys : List S38) (hx : xs.length ≤ 8796093022208) (hn : ys.length ≤ 8796093022208) : Ev (fun k => chancellaw04_same.f k xs ys xs ys) true := by
  unfold chancellaw04_same.f
  exact Ev.bind (same_ev xs ys hx hn) (Ev.now _)
/-- Is a span right behind another one (if there is one)? -/
def spanOk (n : Int) (p : Option S26) (s : S26) : Bool :=
  decide (0 < s.f0) && decide (0 ≤ s.f1) && decide (s.f1 < s.f2) && decide (s.f2 ≤ n) && (match p with | none => true | some q => decide (q.f2 < s.f1) || (decide (q.f2 = s.f1) && decide (q.f0 ≠ s.f0)))
def spansOk (n : Int) : Option S26 → List S26 → Bool
  | _, [] => true
  | p, s :: r => spanOk n p s && spansOk n (some s) r
def siteOk (n : Int) (p : Option S38) (s : S38) : Bool :=
  decide (0 < s.f0) && decide (0 ≤ s.f1) && decide (s.f1 ≤ n) && (match p with | none => true | some q => decide (q.f1 < s.f1) || (decide (q.f1 = s.f1) && decide (q.f0 < s.f0)))
def sitesOk (n : Int) : Option S38 → List S38 → Bool
  | _, [] => true
  | p, s :: r => siteOk n p s && sitesOk n (some s) r
def rightB (n : Int) (xs : List S26) (ys : List S38) : Bool := spansOk n none xs && sitesOk n none ys
/-- The element ahead of i. -/
def ahead {α : Type} (xs : List α) (i : Nat) : Option α := if i = 0 then none else xs[i - 1]?
theorem ahead_succ {α : Type} {xs : List α} {i : Nat} (h : i < xs.length) : ahead xs (i + 1) = some xs[i] := by simp [ahead, List.getElem?_eq_getElem h]
theorem ahead_pos {α : Type} {xs : List α} {i : Nat} (h0 : 0 < i) (h : i < xs.length) : ahead xs i = some (xs[i - 1]'(by omega)) := by
  unfold ahead
  rw [if_neg (by omega), List.getElem?_eq_getElem (by omega)]
theorem wrap_pred {i : Nat} (h0 : 0 < i) (h : i < 9223372036854775807) : wrap64 ((i : Int) - 1) = ((i - 1 : Nat) : Int) := by unfold wrap64; omega
theorem ref_Right_l1 (n : Int) (xs : List S26) (ys : List S38) (hn : ys.length ≤ 140737488351232) (d : Nat) : ∀ i : Nat, ys.length - i = d → i ≤ ys.length →
    Ev (fun k => chancelref04_Right.l1 k n (i : Int) xs ys) (sitesOk n (ahead ys i) (ys.drop i)) := by
  induction d with
  | zero =>
    intro i hd hi
    rw [List.drop_of_length_le (by omega)]
    exact ev_next (f := fun _ => some true) (fun k => by simp only [chancelref04_Right.l1]; rw [if_neg (by omega)]) (Ev.now _)
  | succ d ih =>
    intro i hd hi
    have hlt : i < ys.length := by omega
    have hr := rd_site hlt
    have w : wrap64 ((i : Int) + 1) = ((i + 1 : Nat) : Int) := wrap_succ (by omega)
    have h := ih (i + 1) (by omega) (by omega)
    rw [ahead_succ hlt] at h
    rw [List.drop_eq_getElem_cons hlt]
    generalize hs : ys[i] = s at hr h
    have key : ∀ b : Bool, Ev (fun k => chancelref04_Right.j3 k n (i : Int) b xs ys s.f0 s.f1) (!b && (match ahead ys i with | none => true | some q => decide (q.f1 < s.f1) || (decide (q.f1 = s.f1) && decide (q.f0 < s.f0))) && sitesOk n (some s) (ys.drop (i + 1))) := by
      intro b
      cases b with
      | true => exact ev_next (f := fun _ => some false) (fun k => by simp only [chancelref04_Right.j3, if_true]) (Ev.now _)
      | false =>
        by_cases h0 : i = 0
        · subst h0
          have e : ahead ys 0 = none := rfl
          rw [e]
          simp only [Bool.not_false, Bool.true_and]
          exact ev_next (fun k => by simp only [chancelref04_Right.j3, Bool.false_eq_true, if_false]; rw [if_neg (by omega), w]) h
        · have w' := wrap_pred (i := i) (by omega) (by omega)
          have hq := rd_site (xs := ys) (i := i - 1) (by omega)
          rw [ahead_pos (by omega) hlt]
          generalize ys[i - 1] = q at hq
          simp only [Bool.not_false, Bool.true_and]
          by_cases c1 : s.f1 < q.f1
          · have e : (decide (q.f1 < s.f1) || (decide (q.f1 = s.f1) && decide (q.f0 < s.f0))) = false := by simp; omega
            rw [e]
            exact ev_next (f := fun _ => some false) (fun k => by simp only [chancelref04_Right.j3, Bool.false_eq_true, if_false]; rw [if_pos (by omega), w', if_pos (by omega), if_pos (by omega), hq, if_pos c1]) (Ev.now _)
          · by_cases c2 : s.f1 = q.f1
            · by_cases c3 : s.f0 ≤ q.f0
              · have e : (decide (q.f1 < s.f1) || (decide (q.f1 = s.f1) && decide (q.f0 < s.f0))) = false := by simp; omega
                rw [e]
                exact ev_next (f := fun _ => some false) (fun k => by simp only [chancelref04_Right.j3, Bool.false_eq_true, if_false]; rw [if_pos (by omega), w', if_pos (by omega), if_pos (by omega), hq, if_neg c1, if_pos c2, if_pos c3]) (Ev.now _)
              · have e : (decide (q.f1 < s.f1) || (decide (q.f1 = s.f1) && decide (q.f0 < s.f0))) = true := by simp; omega
                rw [e, Bool.true_and]
                exact ev_next (fun k => by simp only [chancelref04_Right.j3, Bool.false_eq_true, if_false]; rw [if_pos (by omega), w', if_pos (by omega), if_pos (by omega), hq, if_neg c1, if_pos c2, if_neg c3, w]) h
            · have e : (decide (q.f1 < s.f1) || (decide (q.f1 = s.f1) && decide (q.f0 < s.f0))) = true := by simp; omega
              rw [e, Bool.true_and]
              exact ev_next (fun k => by simp only [chancelref04_Right.j3, Bool.false_eq_true, if_false]; rw [if_pos (by omega), w', if_pos (by omega), if_pos (by omega), hq, if_neg c1, if_neg c2, w]) h
    have go : ∀ (b : Bool) (e : sitesOk n (ahead ys i) (s :: ys.drop (i + 1)) = (!b && (match ahead ys i with | none => true | some q => decide (q.f1 < s.f1) || (decide (q.f1 = s.f1) && decide (q.f0 < s.f0))) && sitesOk n (some s) (ys.drop (i + 1)))) (st : ∀ k, chancelref04_Right.l1 (k + 1) n (i : Int) xs ys = chancelref04_Right.j3 k n (i : Int) b xs ys s.f0 s.f1),
        Ev (fun k => chancelref04_Right.l1 k n (i : Int) xs ys) (sitesOk n (ahead ys i) (s :: ys.drop (i + 1))) := fun b e st => by
      rw [e]
      exact ev_next st (key b)
    by_cases c1 : s.f0 ≤ 0
    · exact go true (by simp only [sitesOk, siteOk]; rw [decide_eq_false (by omega)]; simp) (fun k => by simp only [chancelref04_Right.l1]; rw [if_pos (by omega), if_pos (by omega), hr, if_pos c1])
    · by_cases c2 : s.f1 < 0
      · exact go true (by simp only [sitesOk, siteOk]; rw [decide_eq_false (p := 0 ≤ s.f1) (by omega)]; simp) (fun k => by simp only [chancelref04_Right.l1]; rw [if_pos (by omega), if_pos (by omega), hr, if_neg c1, if_pos c2])
      · have e3 : decide (s.f1 ≤ n) = !decide (s.f1 > n) := by
          by_cases h : s.f1 > n
          · rw [decide_eq_true h, decide_eq_false (by omega)]; rfl
          · rw [decide_eq_false h, decide_eq_true (by omega)]; rfl
        refine go (decide (s.f1 > n)) (by simp only [sitesOk, siteOk]; rw [decide_eq_true (p := 0 < s.f0) (by omega), decide_eq_true (p := 0 ≤ s.f1) (by omega), e3]; simp only [Bool.true_and]) (fun k => by simp only [chancelref04_Right.l1]; rw [if_pos (by omega), if_pos (by omega), hr, if_neg c1, if_neg c2])
theorem ref_Right_l0 (n : Int) (xs : List S26) (ys : List S38) (hm : xs.length ≤ 140737488351232) (hn : ys.length ≤ 140737488351232) (d : Nat) : ∀ i : Nat, xs.length - i = d → i ≤ xs.length →
    Ev (fun k => chancelref04_Right.l0 k n (i : Int) xs ys) (spansOk n (ahead xs i) (xs.drop i) && sitesOk n none ys) := by
  induction d with
  | zero =>
    intro i hd hi
    rw [List.drop_of_length_le (by omega)]
    have h := ref_Right_l1 n xs ys hn ys.length 0 (by omega) (by omega)
    exact ev_next (fun k => by simp only [chancelref04_Right.l0]; rw [if_neg (by omega)]; rfl) h
  | succ d ih =>
    intro i hd hi
    have hlt : i < xs.length := by omega
    have hr := rd_span hlt
    have w : wrap64 ((i : Int) + 1) = ((i + 1 : Nat) : Int) := wrap_succ (by omega)
    have h := ih (i + 1) (by omega) (by omega)
    rw [ahead_succ hlt] at h
    rw [List.drop_eq_getElem_cons hlt]
    generalize hs : xs[i] = s at hr h
    generalize hT : sitesOk n none ys = T at h ⊢
    have key : ∀ b : Bool, Ev (fun k => chancelref04_Right.j1 k n (i : Int) b xs ys s.f0 s.f1 s.f2) (!b && (match ahead xs i with | none => true | some q => decide (q.f2 < s.f1) || (decide (q.f2 = s.f1) && decide (q.f0 ≠ s.f0))) && (spansOk n (some s) (xs.drop (i + 1)) && T)) := by
      intro b
      cases b with
      | true => exact ev_next (f := fun _ => some false) (fun k => by simp only [chancelref04_Right.j1, if_true]) (Ev.now _)
      | false =>
        by_cases h0 : i = 0
        · subst h0
          have e : ahead xs 0 = none := rfl
          rw [e]
          simp only [Bool.not_false, Bool.true_and]
          exact ev_next (fun k => by simp only [chancelref04_Right.j1, Bool.false_eq_true, if_false]; rw [if_neg (by omega), w]) h
        · have w' := wrap_pred (i := i) (by omega) (by omega)
          have hq := rd_span (xs := xs) (i := i - 1) (by omega)
          rw [ahead_pos (by omega) hlt]
          generalize xs[i - 1] = q at hq
          simp only [Bool.not_false, Bool.true_and]
          by_cases c1 : s.f1 < q.f2
          · have e : (decide (q.f2 < s.f1) || (decide (q.f2 = s.f1) && decide (q.f0 ≠ s.f0))) = false := by simp; omega
            rw [e]
            exact ev_next (f := fun _ => some false) (fun k => by simp only [chancelref04_Right.j1, Bool.false_eq_true, if_false]; rw [if_pos (by omega), w', if_pos (by omega), if_pos (by omega), hq, if_pos c1]) (Ev.now _)
          · by_cases c2 : s.f1 = q.f2
            · by_cases c3 : s.f0 = q.f0
              · have e : (decide (q.f2 < s.f1) || (decide (q.f2 = s.f1) && decide (q.f0 ≠ s.f0))) = false := by simp; omega
                rw [e]
                exact ev_next (f := fun _ => some false) (fun k => by simp only [chancelref04_Right.j1, Bool.false_eq_true, if_false]; rw [if_pos (by omega), w', if_pos (by omega), if_pos (by omega), hq, if_neg c1, if_pos c2, if_pos c3]) (Ev.now _)
              · have e : (decide (q.f2 < s.f1) || (decide (q.f2 = s.f1) && decide (q.f0 ≠ s.f0))) = true := by simp; omega
                rw [e, Bool.true_and]
                exact ev_next (fun k => by simp only [chancelref04_Right.j1, Bool.false_eq_true, if_false]; rw [if_pos (by omega), w', if_pos (by omega), if_pos (by omega), hq, if_neg c1, if_pos c2, if_neg c3, w]) h
            · have e : (decide (q.f2 < s.f1) || (decide (q.f2 = s.f1) && decide (q.f0 ≠ s.f0))) = true := by simp; omega
              rw [e, Bool.true_and]
              exact ev_next (fun k => by simp only [chancelref04_Right.j1, Bool.false_eq_true, if_false]; rw [if_pos (by omega), w', if_pos (by omega), if_pos (by omega), hq, if_neg c1, if_neg c2, w]) h
    have go : ∀ (b : Bool) (e : (decide (0 < s.f0) && decide (0 ≤ s.f1) && decide (s.f1 < s.f2) && decide (s.f2 ≤ n)) = !b) (st : ∀ k, chancelref04_Right.l0 (k + 1) n (i : Int) xs ys = chancelref04_Right.j1 k n (i : Int) b xs ys s.f0 s.f1 s.f2),
        Ev (fun k => chancelref04_Right.l0 k n (i : Int) xs ys) (spansOk n (ahead xs i) (s :: xs.drop (i + 1)) && T) := fun b e st => by
      have := key b
      rw [← e] at this
      simp only [spansOk, spanOk]
      rw [Bool.and_assoc _ (spansOk _ _ _) T]
      exact ev_next st this
    by_cases c1 : s.f0 ≤ 0
    · exact go true (by rw [decide_eq_false (by omega)]; simp) (fun k => by simp only [chancelref04_Right.l0]; rw [if_pos (by omega), if_pos (by omega), hr, if_pos c1])
    · by_cases c2 : s.f1 < 0
      · exact go true (by rw [decide_eq_false (p := 0 ≤ s.f1) (by omega)]; simp) (fun k => by simp only [chancelref04_Right.l0]; rw [if_pos (by omega), if_pos (by omega), hr, if_neg c1, if_pos c2])
      · by_cases c3 : s.f2 ≤ s.f1
        · exact go true (by rw [decide_eq_false (p := s.f1 < s.f2) (by omega)]; simp) (fun k => by simp only [chancelref04_Right.l0]; rw [if_pos (by omega), if_pos (by omega), hr, if_neg c1, if_neg c2, if_pos c3])
        · have e3 : decide (s.f2 ≤ n) = !decide (s.f2 > n) := by
            by_cases h : s.f2 > n
            · rw [decide_eq_true h, decide_eq_false (by omega)]; rfl
            · rw [decide_eq_false h, decide_eq_true (by omega)]; rfl
          refine go (decide (s.f2 > n)) (by rw [decide_eq_true (p := 0 < s.f0) (by omega), decide_eq_true (p := 0 ≤ s.f1) (by omega), decide_eq_true (p := s.f1 < s.f2) (by omega), e3]; simp only [Bool.true_and]) (fun k => by simp only [chancelref04_Right.l0]; rw [if_pos (by omega), if_pos (by omega), hr, if_neg c1, if_neg c2, if_neg c3])
theorem ref_Right_ev (n : Int) (xs : List S26) (ys : List S38) (hm : xs.length ≤ 140737488351232) (hn : ys.length ≤ 140737488351232) : Ev (fun k => chancelref04_Right.f k xs ys n) (rightB n xs ys) :=
  ref_Right_l0 n xs ys hm hn xs.length 0 (by omega) (by omega)
/-- May a case be asked? -/
def caseB (xs : List S26) (ys : List S38) (n a b : Int) : Bool :=
  decide (0 ≤ n) && decide (n ≤ 2000) && decide (0 ≤ a) && decide (a ≤ b) && decide (b ≤ n) && decide (xs.length ≤ 2000) && decide (ys.length ≤ 300) && rightB n xs ys
theorem law_right_j0 (xs : List S26) (ys : List S38) (n a b : Int) (hm : xs.length ≤ 140737488351232) (hn : ys.length ≤ 140737488351232) (c : Bool) :
    Ev (fun k => chancellaw04_right.j0 k c xs ys n a b) (xs, ys, xs, ys, c && rightB n xs ys) := by
  cases c with
  | true =>
    refine ev_next (fun k => by simp only [chancellaw04_right.j0, if_true]) (Ev.bind (f := fun _ t => some (xs, ys, xs, ys, t)) (ref_Right_ev n xs ys hm hn) ?_)
    rw [Bool.true_and]
    exact Ev.now _
  | false => exact ev_next (f := fun _ => some (xs, ys, xs, ys, false)) (fun k => by simp only [chancellaw04_right.j0, Bool.false_eq_true, if_false]) (Ev.now _)
theorem law_right_ev (xs : List S26) (ys : List S38) (n a b : Int) (hm : xs.length ≤ 140737488351232) (hn : ys.length ≤ 140737488351232) :
    Ev (fun k => chancellaw04_right.f k xs ys n a b) (xs, ys, xs, ys, caseB xs ys n a b) := by
  unfold chancellaw04_right.f caseB
  have z := law_right_j0 xs ys n a b hm hn false
  by_cases h1 : n ≥ 0
  · by_cases h2 : n ≤ 2000
    · by_cases h3 : a ≥ 0
      · by_cases h4 : a ≤ b
        · by_cases h5 : b ≤ n
          · by_cases h6 : (xs.length : Int) ≤ 2000
            · have y := law_right_j0 xs ys n a b hm hn (decide ((ys.length : Int) ≤ 300))
              simp only [if_pos h1, if_pos h2, if_pos h3, if_pos h4, if_pos h5, if_pos h6]
              have e : (decide (0 ≤ n) && decide (n ≤ 2000) && decide (0 ≤ a) && decide (a ≤ b) && decide (b ≤ n) && decide (xs.length ≤ 2000) && decide (ys.length ≤ 300) && rightB n xs ys) = (decide ((ys.length : Int) ≤ 300) && rightB n xs ys) := by
                rw [decide_eq_true (p := 0 ≤ n) h1, decide_eq_true h2, decide_eq_true (p := 0 ≤ a) h3, decide_eq_true h4, decide_eq_true h5, decide_eq_true (p := xs.length ≤ 2000) (by omega)]
                rw [show decide ((ys.length : Int) ≤ 300) = decide (ys.length ≤ 300) from decide_eq_decide.2 (by omega)]
                simp
              rw [e]
              exact y
            · simp only [if_pos h1, if_pos h2, if_pos h3, if_pos h4, if_pos h5, if_neg h6]
              rw [decide_eq_false (p := xs.length ≤ 2000) (by omega)]
              simpa using z
          · simp only [if_pos h1, if_pos h2, if_pos h3, if_pos h4, if_neg h5]
            rw [decide_eq_false (p := b ≤ n) h5]
            simpa using z
        · simp only [if_pos h1, if_pos h2, if_pos h3, if_neg h4]
          rw [decide_eq_false (p := a ≤ b) h4]
          simpa using z
      · simp only [if_pos h1, if_pos h2, if_neg h3]
        rw [decide_eq_false (p := 0 ≤ a) h3]
        simpa using z
    · simp only [if_pos h1, if_neg h2]
      rw [decide_eq_false h2]
      simpa using z
  · simp only [if_neg h1]
    rw [decide_eq_false (p := 0 ≤ n) h1]
    simpa using z

theorem MarksDrop : ∀ (l0_0 : List (S26)) (l0_1 : List (S38)) (a0_2 : Int) (a0_3 : Int) (a0_4 : Int) (a1 : Int), (l0_0.length * 24 ≤ 140737488351232 ∧ ∀ y ∈ l0_0, ((Lit.int .i64 y.f0).wf = true ∧ (Lit.int .i64 y.f1).wf = true ∧ (Lit.int .i64 y.f2).wf = true)) → (l0_1.length * 16 ≤ 140737488351232 ∧ ∀ y ∈ l0_1, ((Lit.int .i64 y.f0).wf = true ∧ (Lit.int .i64 y.f1).wf = true)) → (Lit.int .i64 a0_2).wf = true → (Lit.int .i64 a0_3).wf = true → (Lit.int .i64 a0_4).wf = true → (Lit.int .i64 a1).wf = true → ∃ k, chancellaw04_MarksDrop.f k l0_0 l0_1 a0_2 a0_3 a0_4 a1 = some true := by
  intro xs ys n a b m hx hy _ _ _ _
  have hxl : xs.length ≤ 5864062014634 := by omega
  have t1 : Ev (fun k => marks_Of.f k [(⟨7, 0, 3⟩ : S26)] [(⟨7, 2⟩ : S38)] 7) (ofSpans [(⟨7, 0, 3⟩ : S26)] 7, ofSites [(⟨7, 2⟩ : S38)] 7) := marks_Of_ev _ _ _ (by simp) (by simp)
  have j0 : Ev (fun k => chancellaw04_MarksDrop.j0 k m false xs ys n a b) true := by
    refine ev_next (fun k => by simp only [chancellaw04_MarksDrop.j0, Bool.false_eq_true, if_false]; rfl) (Ev.bind (law_right_ev xs ys n a b (by omega) (by omega)) ?_)
    dsimp only
    by_cases c : caseB xs ys n a b = true
    · have hxs : xs.length ≤ 2000 ∧ ys.length ≤ 300 := by simp [caseB] at c; omega
      simp only [c, if_true]
      refine Ev.bind (marks_Of_ev xs ys m (by omega) (by omega)) (Ev.bind (ref_Of_ev xs ys m (by omega) (by omega)) (Ev.bind (g := fun _ => marks_Drop.f xs ys m) (a := (dropSpans xs m, dropSites ys m)) ?_ ?_))
      · refine ev_rfl (fun k => ?_)
        unfold marks_Drop.f
        rw [if_pos (by omega), if_pos (by omega)]
        rfl
      · have l1 : (dropSpans xs m).length ≤ xs.length := List.length_filter_le _ _
        have l2 : (dropSites ys m).length ≤ ys.length := List.length_filter_le _ _
        have l3 : (ofSpans xs m).length ≤ xs.length := List.length_filter_le _ _
        have l4 : (ofSites ys m).length ≤ ys.length := by unfold ofSites; rw [List.length_map]; exact List.length_filter_le _ _
        refine Ev.bind (marks_Of_ev (dropSpans xs m) (dropSites ys m) m (by omega) (by omega)) (Ev.bind (same_ev (ofSpans xs m) [] (by omega) (by simp)) ?_)
        simp only [if_true]
        refine Ev.bind (ints_ev _ (by omega)) ?_
        simp only [if_true]
        refine Ev.bind (ref_Drop_ev xs ys m (by omega) (by omega)) (Ev.bind (law_same_ev _ _ (by omega) (by omega)) ?_)
        have e1 : ofSpans (dropSpans xs m) m = [] := by simp [ofSpans, dropSpans, List.filter_filter]
        have e2 : ofSites (dropSites ys m) m = [] := by simp [ofSites, dropSites, List.filter_filter]
        simp only [if_true, e1, e2]
        exact Ev.now _
    · simp only [c]
      exact Ev.now _
  have all : Ev (fun k => chancellaw04_MarksDrop.f k xs ys n a b m) true := by
    unfold chancellaw04_MarksDrop.f
    refine Ev.bind t1 ?_
    exact j0
  exact Ev.rounds all
end Go.Proofs.Ytdgjjdpeaohebaa.Pure
