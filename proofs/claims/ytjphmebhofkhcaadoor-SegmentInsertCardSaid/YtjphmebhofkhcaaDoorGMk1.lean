/- Marks: what is laid where letters are put and taken away: spans and sites (plain laws). Conditions: none beside those named. -/
import Derived.Test.YtjphmebhofkhcaaDoorGMarks
namespace Go.Proofs.YtjphmebhofkhcaaDoor.Pure
open Go.RowKit Go.Proofs.YtjphmebhofkhcaaDoorPl Go.Proofs.YtjphmebhofkhcaaDoor.PSegAll Go.Proofs.YtjphmebhofkhcaaDoorW.PrintWords Go.Proofs.YtjphmebhofkhcaaDoorW.PrintLast Go.Proofs.YtjphmebhofkhcaaDoorW.PrintMore
set_option linter.unusedVariables false
set_option linter.unusedSimpArgs false
abbrev Sp := S67
abbrev St := S70
def addA (a : Int) (o : List Sp) (s : Sp) : List Sp := addL o ⟨s.f0, s.f1, min s.f2 a⟩
def addB (a k : Int) (o : List Sp) (s : Sp) : List Sp := addL o ⟨s.f0, max s.f1 a + k, s.f2 + k⟩
def freshS (a k m : Int) : Sp := ⟨m, a, if m ≤ 0 then a else a + k⟩
/-- One span on, as Put's loop goes. -/
def putStep (a k m : Int) (o : List Sp) (done : Bool) (s : Sp) : List Sp × Bool :=
 if s.f2 > a then (addB a k (if done then addA a o s else addL (addA a o s) (freshS a k m)) s, true) else (addA a o s, done)
def putGo (a k m : Int) : List Sp → List Sp → Bool → List Sp × Bool
 | [], o, d => (o, d)
 | s :: r, o, d => putGo a k m r (putStep a k m o d s).1 (putStep a k m o d s).2
def putL (a k m : Int) (xs : List Sp) : List Sp := if (putGo a k m xs [] false).2 then (putGo a k m xs [] false).1 else addL (putGo a k m xs [] false).1 (freshS a k m)
theorem addA_no {a : Int} {o : List Sp} {s : Sp} (h : a ≤ s.f1) : addA a o s = o := addL_none _ _ (by show min s.f2 a ≤ s.f1; omega)
theorem addB_no {a k : Int} {o : List Sp} {s : Sp} (h : s.f2 ≤ a) : addB a k o s = o := addL_none _ _ (by show s.f2 + k ≤ max s.f1 a + k; omega)
theorem foldA_no {a : Int} : ∀ (r : List Sp) (o : List Sp), (∀ s ∈ r, a ≤ s.f1) → r.foldl (addA a) o = o
 | [], _, _ => rfl
 | s :: r, o, h => by rw [List.foldl_cons, addA_no (h s (by simp)), foldA_no r o (fun t ht => h t (by simp [ht]))]
theorem putGo_done {a k m : Int} : ∀ (r : List Sp) (o : List Sp), (∀ s ∈ r, a ≤ s.f1 ∧ s.f1 < s.f2) → putGo a k m r o true = (r.foldl (addB a k) o, true)
 | [], _, _ => rfl
 | s :: r, o, h => by
  obtain ⟨h1, h2⟩ := h s (by simp)
  have e : putStep a k m o true s = (addB a k o s, true) := by
   unfold putStep
   rw [if_pos (by omega)]
   simp only [if_true]
   rw [addA_no h1]
  rw [putGo, e, putGo_done r _ (fun t ht => h t (by simp [ht])), List.foldl_cons]
/-- All behind the first one stand behind it. -/
theorem ok_behind {n : Int} : ∀ {xs : List Sp} {p : Option Sp}, spansOk n p xs = true → ∀ q, p = some q → q.f1 < q.f2 → ∀ s ∈ xs, q.f2 ≤ s.f1 ∧ s.f1 < s.f2
 | [], _, _, _, _, _, _, hs => by simp at hs
 | x :: r, p, h, q, hp, hq, s, hs => by
  rw [spansOk, Bool.and_eq_true, spanOk_iff] at h
  have h5 := h.1.2.2.2.2 q hp
  rcases List.mem_cons.1 hs with rfl | hs
  ·omega
  ·have := ok_behind h.2 x rfl h.1.2.2.1 s hs
   omega
theorem putGo_eq {n a k m : Int} : ∀ (xs : List Sp) (p : Option Sp) (o : List Sp), spansOk n p xs = true →
  (if (putGo a k m xs o false).2 then (putGo a k m xs o false).1 else addL (putGo a k m xs o false).1 (freshS a k m)) = xs.foldl (addB a k) (addL (xs.foldl (addA a) o) (freshS a k m))
 | [], p, o, _ => by simp [putGo]
 | s :: r, p, o, h => by
  have hs := h
  rw [spansOk, Bool.and_eq_true, spanOk_iff] at hs
  obtain ⟨⟨h0, h1, h2, h3, h4⟩, hr⟩ := hs
  by_cases c : s.f2 > a
  ·have e : putStep a k m o false s = (addB a k (addL (addA a o s) (freshS a k m)) s, true) := by unfold putStep; rw [if_pos c]; rfl
   have hb := ok_behind hr s rfl h2
   rw [putGo, e, putGo_done r _ (fun t ht => by have := hb t ht; omega), List.foldl_cons, List.foldl_cons, foldA_no r _ (fun t ht => by have := hb t ht; omega)]
   rfl
  ·have e : putStep a k m o false s = (addA a o s, false) := by unfold putStep; rw [if_neg c]
   rw [putGo, e, putGo_eq r (some s) _ hr, List.foldl_cons, List.foldl_cons, addB_no (by omega)]
theorem putL_eq {n a k m : Int} {xs : List Sp} (h : spansOk n none xs = true) : putL a k m xs = xs.foldl (addB a k) (addL (xs.foldl (addA a) []) (freshS a k m)) := putGo_eq xs none [] h
/-- The letters' marks behind a text that is put. -/
def putC (a k m : Int) (c : Int → Int) (p : Int) : Int := if p < a then c p else if p < a + k then max m 0 else c (p - k)
theorem addA_min {n a : Int} {xs : List Sp} (h : spansOk n none xs = true) : xs.foldl (addA a) [] = xs.foldl (fun o s => addL o ⟨s.f0, min s.f1 a, min s.f2 a⟩) [] := by
 refine foldl_congr_mem xs (fun o s hs => addL_same o ⟨s.f0, s.f1, min s.f2 a⟩ ⟨s.f0, min s.f1 a, min s.f2 a⟩ rfl ?_) _
 have := ok_each h s hs
 show min s.f2 a ≤ s.f1 ∧ min s.f2 a ≤ min s.f1 a ∨ s.f1 = min s.f1 a ∧ min s.f2 a = min s.f2 a
 omega
theorem addB_max {n a k : Int} {xs : List Sp} (h : spansOk n none xs = true) (o : List Sp) : xs.foldl (addB a k) o = xs.foldl (fun o s => addL o ⟨s.f0, max s.f1 a + k, max s.f2 a + k⟩) o := by
 refine foldl_congr_mem xs (fun o s hs => addL_same o ⟨s.f0, max s.f1 a + k, s.f2 + k⟩ ⟨s.f0, max s.f1 a + k, max s.f2 a + k⟩ rfl ?_) _
 have := ok_each h s hs
 show s.f2 + k ≤ max s.f1 a + k ∧ max s.f2 a + k ≤ max s.f1 a + k ∨ max s.f1 a + k = max s.f1 a + k ∧ s.f2 + k = max s.f2 a + k
 omega
theorem putL_ok {n a k m : Int} {xs : List Sp} (h : spansOk n none xs = true) (h0 : 0 ≤ a) (h1 : a ≤ n) (hk : 0 ≤ k) :
  spansOk (n + k) none (putL a k m xs) = true ∧ ∀ p, 0 ≤ p → p < n + k → colr 0 (putL a k m xs) p = putC a k m (colr 0 xs) p := by
 rw [putL_eq h, addA_min h, addB_max h]
 obtain ⟨a1, a2, a3⟩ := pieces_ok (n := n) (n' := n + k) (fun x => min x a) (fun p => if p < a then p else n + 1) (fun p hp0 hp x hx0 hx => by show min x a ≤ p ↔ x ≤ (if p < a then p else n + 1); split <;> omega) (fun x y _ hxy _ => by show min x a ≤ min y a; omega) (fun x hx _ => by show 0 ≤ min x a; omega) (fun x _ _ => by show min x a ≤ n + k; omega)
  xs none h [] 0 rfl (LastLe.nil _) (fun s hs => by have := ok_each h s (List.mem_of_head? hs); show 0 ≤ min s.f1 a; omega)
 have la := a2 a h0 (fun s _ => by show min s.f2 a ≤ a; omega)
 generalize xs.foldl (fun o s => addL o ⟨s.f0, min s.f1 a, min s.f2 a⟩) [] = o1 at a1 a3 la
 have far : ∀ p, n ≤ p → colr 0 xs p = 0 := fun p hp => colr_out 0 xs p (fun s hs => by have := ok_each h s hs; omega)
 have near : ∀ p, p < 0 → ∀ c, colr c xs p = c := fun p hp c => colr_out c xs p (fun s hs => by have := ok_each h s hs; omega)
 -- the fresh span
 have b0 : spansOk (n + k) none (addL o1 (freshS a k m)) = true ∧ LastLe (addL o1 (freshS a k m)) (a + k) ∧ ∀ p, colr 0 (addL o1 (freshS a k m)) p = if a ≤ p ∧ p < a + k ∧ 0 < m then m else colr 0 o1 p := by
  by_cases hm : m ≤ 0
  ·have e : freshS a k m = ⟨m, a, a⟩ := by unfold freshS; rw [if_pos hm]
   rw [e, addL_none _ _ (Int.le_refl a)]
   exact ⟨a1, la.mono (by omega), fun p => by rw [if_neg (by omega)]⟩
  ·have e : freshS a k m = ⟨m, a, a + k⟩ := by unfold freshS; rw [if_neg hm]
   rw [e]
   refine ⟨addL_ok a1 la (by show 0 < m; omega) h0 (by show a + k ≤ n + k; omega), ?_, fun p => ?_⟩
   ·refine (addL_last (s := ⟨m, a, a + k⟩) la).mono ?_
    show (if a < a + k then a + k else a) ≤ a + k
    split <;> omega
   ·rw [addL_colr (s := ⟨m, a, a + k⟩) la]
    show (if a ≤ p ∧ p < a + k then m else colr 0 o1 p) = _
    by_cases c : a ≤ p ∧ p < a + k
    ·rw [if_pos c, if_pos ⟨c.1, c.2, by omega⟩]
    ·rw [if_neg c, if_neg (fun k => c ⟨k.1, k.2.1⟩)]
 obtain ⟨b1, lb, b3⟩ := b0
 obtain ⟨c1, c2, c3⟩ := pieces_ok (n := n) (n' := n + k) (fun x => max x a + k) (fun p => if p < a + k then -1 else p - k) (fun p hp0 hp x hx0 hx => by show max x a + k ≤ p ↔ x ≤ (if p < a + k then -1 else p - k); split <;> omega) (fun x y _ hxy _ => by show max x a + k ≤ max y a + k; omega) (fun x hx _ => by show 0 ≤ max x a + k; omega) (fun x _ _ => by show max x a + k ≤ n + k; omega)
  xs none h (addL o1 (freshS a k m)) (a + k) b1 lb (fun s hs => by show a + k ≤ max s.f1 a + k; omega)
 refine ⟨c1, fun p hp0 hp => ?_⟩
 rw [c3 p hp0 hp, b3 p]
 unfold putC
 by_cases d1 : p < a
 ·rw [if_pos d1, if_pos (show p < a + k by omega), near (-1) (by omega), if_neg (show ¬ (a ≤ p ∧ p < a + k ∧ 0 < m) by omega), a3 p hp0 hp, if_pos d1]
  rfl
 ·rw [if_neg d1]
  have z1 : colr 0 o1 p = 0 := by
   rw [a3 p hp0 hp, if_neg d1]
   exact far (n + 1) (by omega)
  by_cases d2 : p < a + k
  ·rw [if_pos d2, if_pos d2, near (-1) (by omega), z1]
   by_cases hm : 0 < m
   ·rw [if_pos (show a ≤ p ∧ p < a + k ∧ 0 < m from ⟨by omega, d2, hm⟩)]; omega
   ·rw [if_neg (show ¬ (a ≤ p ∧ p < a + k ∧ 0 < m) by omega)]; omega
  ·rw [if_neg d2, if_neg d2, if_neg (show ¬ (a ≤ p ∧ p < a + k ∧ 0 < m) by omega), z1]
/-- The spans of the letters' marks are just these. -/
theorem putL_spans {n a k : Nat} {m : Int} {xs : List Sp} (h : spansOk (n : Int) none xs = true) (h1 : a ≤ n) :
  spansFrom [] 0 (((List.range n).map fun i : Nat => colr 0 xs (i : Int)).take a ++ List.replicate k (max m 0) ++ ((List.range n).map fun i : Nat => colr 0 xs (i : Int)).drop a) = putL a k m xs := by
 obtain ⟨g1, g2⟩ := putL_ok (n := (n : Int)) (a := (a : Int)) (k := (k : Int)) (m := m) h (by omega) (by omega) (by omega)
 have g3 := spans_uniq (n := n + k) (S := putL a k m xs) (by rw [Int.natCast_add]; exact g1)
 rw [← g3]
 congr 1
 rw [take_range h1, drop_range]
 apply List.ext_getElem?
 intro j
 rw [List.getElem?_map, List.append_assoc]
 rcases Nat.lt_or_ge j a with c1 | c1
 ·rw [List.getElem?_append_left (by simp; omega), List.getElem?_map, List.getElem?_range c1, List.getElem?_range (by omega)]
  simp only [Option.map_some]
  rw [g2 (j : Int) (by omega) (by omega)]
  unfold putC
  rw [if_pos (by omega)]
 ·rw [List.getElem?_append_right (by simp; omega)]
  simp only [List.length_map, List.length_range]
  rcases Nat.lt_or_ge j (a + k) with c2 | c2
  ·rw [List.getElem?_append_left (by simp; omega), List.getElem?_replicate, if_pos (by omega), List.getElem?_range (by omega)]
   simp only [Option.map_some]
   rw [g2 (j : Int) (by omega) (by omega)]
   unfold putC
   rw [if_neg (by omega), if_pos (by omega)]
  ·rw [List.getElem?_append_right (by simp; omega)]
   simp only [List.length_replicate]
   rcases Nat.lt_or_ge j (n + k) with c3 | c3
   ·rw [List.getElem?_map, List.getElem?_range (by omega), List.getElem?_range (by omega)]
    simp only [Option.map_some]
    rw [g2 (j : Int) (by omega) (by omega)]
    unfold putC
    rw [if_neg (by omega), if_neg (by omega), show ((a + (j - a - k) : Nat) : Int) = (j : Int) - (k : Int) by omega]
   ·rw [List.getElem?_eq_none (by simp; omega), List.getElem?_eq_none (by simp; omega)]
    rfl
/-- Two rows in strict order that hold the same are the same. -/
theorem siteLt_irr (x : St) : ¬ siteLt x x := by unfold siteLt; omega
theorem sites_uniq : ∀ {l r : List St}, l.Pairwise siteLt → r.Pairwise siteLt → (∀ z, z ∈ l ↔ z ∈ r) → l = r
 | [], [], _, _, _ => rfl
 | [], y :: q, _, _, h => by have := (h y).2 (by simp); simp at this
 | x :: l, [], _, _, h => by have := (h x).1 (by simp); simp at this
 | x :: l, y :: q, hl, hr, h => by
  rw [List.pairwise_cons] at hl hr
  have e : x = y := by
   rcases List.mem_cons.1 ((h x).1 (by simp)) with e | h1
   ·exact e
   ·rcases List.mem_cons.1 ((h y).2 (by simp)) with e | h2
    ·exact e.symm
    ·exact absurd (siteLt_trans (hl.1 y h2) (hr.1 x h1)) (siteLt_irr x)
  subst e
  congr 1
  refine sites_uniq hl.2 hr.2 (fun z => ⟨fun hz => ?_, fun hz => ?_⟩)
  ·rcases List.mem_cons.1 ((h z).1 (by simp [hz])) with e | h1
   ·subst e; exact absurd (hl.1 z hz) (siteLt_irr z)
   ·exact h1
  ·rcases List.mem_cons.1 ((h z).2 (by simp [hz])) with e | h1
   ·subst e; exact absurd (hr.1 z hz) (siteLt_irr z)
   ·exact h1
theorem siteIs_iff (s y : St) : siteIs s y = true ↔ y = s := by
 unfold siteIs
 cases s; cases y
 simp
theorem siteGt_iff (s y : St) : siteGt s y = true ↔ siteLt s y := by
 unfold siteGt siteLt
 simp
 omega
theorem siteLt_total (x y : St) : siteLt x y ∨ x = y ∨ siteLt y x := by
 unfold siteLt
 rcases Int.lt_trichotomy x.f1 y.f1 with h | h | h
 ·omega
 ·rcases Int.lt_trichotomy x.f0 y.f0 with k | k | k
  ·omega
  ·exact .inr (.inl (by cases x; cases y; simp at h k; rw [h, k]))
  ·omega
 ·omega
theorem insS_ok : ∀ {l : List St} {s : St}, l.Pairwise siteLt → (∀ y ∈ l, y ≠ s) → (insS s l).Pairwise siteLt ∧ ∀ z, z ∈ insS s l ↔ z = s ∨ z ∈ l
 | [], s, _, _ => by simp [insS]
 | y :: r, s, h, hn => by
  have hp := h
  rw [List.pairwise_cons] at hp
  by_cases c : siteGt s y = true
  ·rw [insS, if_pos c]
   have lt := (siteGt_iff s y).1 c
   refine ⟨List.pairwise_cons.2 ⟨fun z hz => ?_, h⟩, fun z => by simp⟩
   rcases List.mem_cons.1 hz with rfl | hz
   ·exact lt
   ·exact siteLt_trans lt (hp.1 z hz)
  ·rw [insS, if_neg c]
   obtain ⟨i1, i2⟩ := insS_ok hp.2 (fun z hz => hn z (by simp [hz]))
   refine ⟨List.pairwise_cons.2 ⟨fun z hz => ?_, i1⟩, fun z => ?_⟩
   ·rcases (i2 z).1 hz with rfl | hz
    ·rcases siteLt_total y z with h1 | h1 | h1
     ·exact h1
     ·exact absurd h1 (hn y (by simp))
     ·exact absurd ((siteGt_iff z y).2 h1) c
    ·exact hp.1 z hz
   ·rw [List.mem_cons, i2, List.mem_cons]
    constructor
    ·rintro (h1 | h1 | h1)
     ·exact .inr (.inl h1)
     ·exact .inl h1
     ·exact .inr (.inr h1)
    ·rintro (h1 | h1 | h1)
     ·exact .inr (.inl h1)
     ·exact .inl h1
     ·exact .inr (.inr h1)
theorem siteL_ok {l : List St} {s : St} (h : l.Pairwise siteLt) : (siteL l s).Pairwise siteLt ∧ ∀ z, z ∈ siteL l s ↔ z = s ∨ z ∈ l := by
 unfold siteL
 by_cases c : l.any (siteIs s) = true
 ·rw [if_pos c]
  obtain ⟨y, hy, e⟩ := List.any_eq_true.1 c
  have e' := (siteIs_iff s y).1 e
  subst e'
  exact ⟨h, fun z => ⟨fun hz => .inr hz, fun hz => by rcases hz with rfl | hz; exact hy; exact hz⟩⟩
 ·rw [if_neg c]
  exact insS_ok h (fun y hy e => c (List.any_eq_true.2 ⟨y, hy, (siteIs_iff s y).2 e⟩))
/-- Sites, each once, in order. -/
def normY (l : List St) : List St := l.foldl siteL []
theorem foldY_ok : ∀ (l : List St) (o : List St), o.Pairwise siteLt → (l.foldl siteL o).Pairwise siteLt ∧ ∀ z, z ∈ l.foldl siteL o ↔ z ∈ o ∨ z ∈ l
 | [], o, h => ⟨h, fun z => by simp⟩
 | s :: r, o, h => by
  obtain ⟨h1, h2⟩ := siteL_ok (s := s) h
  obtain ⟨g1, g2⟩ := foldY_ok r _ h1
  refine ⟨g1, fun z => ?_⟩
  rw [List.foldl_cons, g2, h2, List.mem_cons]
  constructor
  ·rintro ((h | h) | h)
   ·exact .inr (.inl h)
   ·exact .inl h
   ·exact .inr (.inr h)
  ·rintro (h | h | h)
   ·exact .inl (.inr h)
   ·exact .inl (.inl h)
   ·exact .inr h
theorem normY_ok (l : List St) : (normY l).Pairwise siteLt ∧ ∀ z, z ∈ normY l ↔ z ∈ l := by
 have := foldY_ok l [] List.Pairwise.nil
 exact ⟨this.1, fun z => by rw [show normY l = l.foldl siteL [] from rfl, this.2]; simp⟩
theorem normY_uniq {l r : List St} (h : r.Pairwise siteLt) (hm : ∀ z, z ∈ r ↔ z ∈ l) : r = normY l := sites_uniq h (normY_ok l).1 (fun z => by rw [hm, (normY_ok l).2])
theorem normY_len (l : List St) : (normY l).length ≤ l.length := by
 have : ∀ (l o : List St), (l.foldl siteL o).length ≤ o.length + l.length := by
  intro l
  induction l with
  | nil => intro o; simp
  | cons s r ih =>
   intro o
   have h1 := ih (siteL o s)
   have h2 := siteL_length o s
   rw [List.foldl_cons, List.length_cons]
   omega
 have h := this l []
 simpa [normY] using h
end Go.Proofs.YtjphmebhofkhcaaDoor.Pure
