/- Marks: what is laid where letters are put and taken away: spans and sites (plain laws). Conditions: none beside those named. -/
import Derived.Test.YtjphmebhofkhcaaDoorGMarks
namespace Go.Proofs.YtjphmebhofkhcaaDoor.Pure
open Go.RowKit Go.Proofs.YtjphmebhofkhcaaDoorPl Go.Proofs.YtjphmebhofkhcaaDoor.PSegAll Go.Proofs.YtjphmebhofkhcaaDoorW.PrintWords Go.Proofs.YtjphmebhofkhcaaDoorW.PrintLast Go.Proofs.YtjphmebhofkhcaaDoorW.PrintMore
set_option linter.unusedVariables false
set_option linter.unusedSimpArgs false
abbrev Sp := S67
abbrev St := S70
def addA (a : Int) (o : List Sp) (s : Sp) : List Sp := addL o ⟨s.f0, s.f1, min s.f2 a⟩
def addB (a k : Int) (o : List Sp) (s : Sp) : List Sp := addL o ⟨s.f0, max s.f1 a + k, s.f2 + k⟩
def freshS (a k m : Int) : Sp := ⟨m, a, if m ≤ 0 then a else a + k⟩
/-- One span on, as Put's loop goes. -/
def putStep (a k m : Int) (o : List Sp) (done : Bool) (s : Sp) : List Sp × Bool :=
 if s.f2 > a then (addB a k (if done then addA a o s else addL (addA a o s) (freshS a k m)) s, true) else (addA a o s, done)
def putGo (a k m : Int) : List Sp → List Sp → Bool → List Sp × Bool
 | [], o, d => (o, d)
 | s :: r, o, d => putGo a k m r (putStep a k m o d s).1 (putStep a k m o d s).2
def putL (a k m : Int) (xs : List Sp) : List Sp := if (putGo a k m xs [] false).2 then (putGo a k m xs [] false).1 else addL (putGo a k m xs [] false).1 (freshS a k m)
/-- Two rows in strict order that hold the same are the same. -/
theorem siteLt_irr (x : St) : ¬ siteLt x x := by unfold siteLt; omega
theorem sites_uniq : ∀ {l r : List St}, l.Pairwise siteLt → r.Pairwise siteLt → (∀ z, z ∈ l ↔ z ∈ r) → l = r
 | [], [], _, _, _ => rfl
 | [], y :: q, _, _, h => by have := (h y).2 (by simp); simp at this
 | x :: l, [], _, _, h => by have := (h x).1 (by simp); simp at this
 | x :: l, y :: q, hl, hr, h => by
  rw [List.pairwise_cons] at hl hr
  have e : x = y := by
   rcases List.mem_cons.1 ((h x).1 (by simp)) with e | h1
   ·exact e
   ·rcases List.mem_cons.1 ((h y).2 (by simp)) with e | h2
    ·exact e.symm
    ·exact absurd (siteLt_trans (hl.1 y h2) (hr.1 x h1)) (siteLt_irr x)
  subst e
  congr 1
  refine sites_uniq hl.2 hr.2 (fun z => ⟨fun hz => ?_, fun hz => ?_⟩)
  ·rcases List.mem_cons.1 ((h z).1 (by simp [hz])) with e | h1
   ·subst e; exact absurd (hl.1 z hz) (siteLt_irr z)
   ·exact h1
  ·rcases List.mem_cons.1 ((h z).2 (by simp [hz])) with e | h1
   ·subst e; exact absurd (hr.1 z hz) (siteLt_irr z)
   ·exact h1
theorem siteIs_iff (s y : St) : siteIs s y = true ↔ y = s := by
 unfold siteIs
 cases s; cases y
 simp
theorem siteGt_iff (s y : St) : siteGt s y = true ↔ siteLt s y := by
 unfold siteGt siteLt
 simp
 omega
theorem siteLt_total (x y : St) : siteLt x y ∨ x = y ∨ siteLt y x := by
 unfold siteLt
 rcases Int.lt_trichotomy x.f1 y.f1 with h | h | h
 ·omega
 ·rcases Int.lt_trichotomy x.f0 y.f0 with k | k | k
  ·omega
  ·exact .inr (.inl (by cases x; cases y; simp at h k; rw [h, k]))
  ·omega
 ·omega
theorem insS_ok : ∀ {l : List St} {s : St}, l.Pairwise siteLt → (∀ y ∈ l, y ≠ s) → (insS s l).Pairwise siteLt ∧ ∀ z, z ∈ insS s l ↔ z = s ∨ z ∈ l
 | [], s, _, _ => by simp [insS]
 | y :: r, s, h, hn => by
  have hp := h
  rw [List.pairwise_cons] at hp
  by_cases c : siteGt s y = true
  ·rw [insS, if_pos c]
   have lt := (siteGt_iff s y).1 c
   refine ⟨List.pairwise_cons.2 ⟨fun z hz => ?_, h⟩, fun z => by simp⟩
   rcases List.mem_cons.1 hz with rfl | hz
   ·exact lt
   ·exact siteLt_trans lt (hp.1 z hz)
  ·rw [insS, if_neg c]
   obtain ⟨i1, i2⟩ := insS_ok hp.2 (fun z hz => hn z (by simp [hz]))
   refine ⟨List.pairwise_cons.2 ⟨fun z hz => ?_, i1⟩, fun z => ?_⟩
   ·rcases (i2 z).1 hz with rfl | hz
    ·rcases siteLt_total y z with h1 | h1 | h1
     ·exact h1
     ·exact absurd h1 (hn y (by simp))
     ·exact absurd ((siteGt_iff z y).2 h1) c
    ·exact hp.1 z hz
   ·rw [List.mem_cons, i2, List.mem_cons]
    constructor
    ·rintro (h1 | h1 | h1)
     ·exact .inr (.inl h1)
     ·exact .inl h1
     ·exact .inr (.inr h1)
    ·rintro (h1 | h1 | h1)
     ·exact .inr (.inl h1)
     ·exact .inl h1
     ·exact .inr (.inr h1)
theorem siteL_ok {l : List St} {s : St} (h : l.Pairwise siteLt) : (siteL l s).Pairwise siteLt ∧ ∀ z, z ∈ siteL l s ↔ z = s ∨ z ∈ l := by
 unfold siteL
 by_cases c : l.any (siteIs s) = true
 ·rw [if_pos c]
  obtain ⟨y, hy, e⟩ := List.any_eq_true.1 c
  have e' := (siteIs_iff s y).1 e
  subst e'
  exact ⟨h, fun z => ⟨fun hz => .inr hz, fun hz => by rcases hz with rfl | hz; exact hy; exact hz⟩⟩
 ·rw [if_neg c]
  exact insS_ok h (fun y hy e => c (List.any_eq_true.2 ⟨y, hy, (siteIs_iff s y).2 e⟩))
/-- Sites, each once, in order. -/
def normY (l : List St) : List St := l.foldl siteL []
theorem foldY_ok : ∀ (l : List St) (o : List St), o.Pairwise siteLt → (l.foldl siteL o).Pairwise siteLt ∧ ∀ z, z ∈ l.foldl siteL o ↔ z ∈ o ∨ z ∈ l
 | [], o, h => ⟨h, fun z => by simp⟩
 | s :: r, o, h => by
  obtain ⟨h1, h2⟩ := siteL_ok (s := s) h
  obtain ⟨g1, g2⟩ := foldY_ok r _ h1
  refine ⟨g1, fun z => ?_⟩
  rw [List.foldl_cons, g2, h2, List.mem_cons]
  constructor
  ·rintro ((h | h) | h)
   ·exact .inr (.inl h)
   ·exact .inl h
   ·exact .inr (.inr h)
  ·rintro (h | h | h)
   ·exact .inl (.inr h)
   ·exact .inl (.inl h)
   ·exact .inr h
theorem normY_ok (l : List St) : (normY l).Pairwise siteLt ∧ ∀ z, z ∈ normY l ↔ z ∈ l := by
 have := foldY_ok l [] List.Pairwise.nil
 exact ⟨this.1, fun z => by rw [show normY l = l.foldl siteL [] from rfl, this.2]; simp⟩
theorem normY_uniq {l r : List St} (h : r.Pairwise siteLt) (hm : ∀ z, z ∈ r ↔ z ∈ l) : r = normY l := sites_uniq h (normY_ok l).1 (fun z => by rw [hm, (normY_ok l).2])
theorem normY_sorted {l : List St} (h : l.Pairwise siteLt) : normY l = l := (normY_uniq h (fun _ => Iff.rfl)).symm
theorem normY_len (l : List St) : (normY l).length ≤ l.length := by
 have : ∀ (l o : List St), (l.foldl siteL o).length ≤ o.length + l.length := by
  intro l
  induction l with
  | nil => intro o; simp
  | cons s r ih =>
   intro o
   have h1 := ih (siteL o s)
   have h2 := siteL_length o s
   rw [List.foldl_cons, List.length_cons]
   omega
 have h := this l []
 simpa [normY] using h
end Go.Proofs.YtjphmebhofkhcaaDoor.Pure
