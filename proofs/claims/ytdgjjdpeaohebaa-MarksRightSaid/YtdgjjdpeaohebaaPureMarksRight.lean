/- The pure law MarksRight: the printed functions of MarksRight answer true for every input. Conditions: the sizes that every row has. -/
import Derived.Test.YtdgjjdpeaohebaaPMarksRightx4
namespace Go.Proofs.Ytdgjjdpeaohebaa.Pure
open Go.RowKit Go.Proofs.Ytdgjjdpeaohebaa.PMarksRight Go.Proofs.YtdgjjdpeaohebaaW.PrintWords Go.Proofs.YtdgjjdpeaohebaaW.PrintLast

theorem mr_wrap {i : Int} {n : Nat} (h0 : 0 ≤ i) (h : i < (n : Int)) (hn : n ≤ 140737488351232) : wrap64 (i + 1) = i + 1 := by
  unfold wrap64
  omega
theorem mr_wrap' {i : Int} {n : Nat} (h0 : 0 < i) (h : i < (n : Int)) (hn : n ≤ 140737488351232) : wrap64 (i - 1) = i - 1 := by
  unfold wrap64
  omega

def mrCmp (a b : Int) : Int := if a < b then -1 else if a > b then 1 else 0
theorem mr_compare1 (a b : Int) : cmp_Compare_int.f a b = some (mrCmp a b) := by
  unfold cmp_Compare_int.f cmp_isNaN_int.f mrCmp
  simp only [Option.bind_some, bne_self_eq_false, Bool.false_eq_true, if_false]
  split
  · rfl
  · split <;> rfl
theorem mr_or (p q : Int) : Ev (fun k => cmp_Or_int.f k [p, q]) (if p = 0 then q else p) := by
  refine Ev.of (cmp_Or_int.mono _) (k := 4) ?_
  unfold cmp_Or_int.f
  have w1 : wrap64 (0 + 1) = 1 := by decide +kernel
  have w2 : wrap64 (1 + 1) = 2 := by decide +kernel
  have r0 : rd [p, q] 0 = p := rfl
  have r1 : rd [p, q] 1 = q := rfl
  have l0 : (([p, q] : List Int).length : Int) = 2 := rfl
  simp only [cmp_Or_int.l0, l0]
  rw [if_pos (by decide), if_pos (by decide), if_pos (by decide), r0, w1]
  by_cases hp : p = 0
  · rw [if_pos hp, if_pos hp, if_pos (by decide), if_pos (by decide), if_pos (by decide), r1, w2]
    by_cases hq : q = 0
    · rw [if_pos hq, if_neg (by decide), hq]
    · rw [if_neg hq]
  · rw [if_neg hp, if_neg hp]
/-- compare, as it is. -/
theorem mr_compare (m a m' a' : Int) : Ev (fun k => marks_compare.f k m a m' a') (if mrCmp a a' = 0 then mrCmp m m' else mrCmp a a') := by
  unfold marks_compare.f
  simp only [mr_compare1, Option.bind_some]
  exact Ev.bind (mr_or _ _) (Ev.now _)
theorem mr_compare_sign (m a m' a' : Int) : (if mrCmp a a' = 0 then mrCmp m m' else mrCmp a a') ≥ 0 ↔ ¬ (a < a' ∨ a = a' ∧ m < m') := by
  unfold mrCmp
  repeat' split
  all_goals omega

theorem mr_l1 (n : Int) (xs : List S26) (ys : List S38) (hn : ys.length ≤ 140737488351232) (d : Nat) : ∀ i : Int, 0 ≤ i → (ys.length : Int) - i ≤ d →
    ∃ r, Ev (fun k => marks_Right.l1 k n ys (ys.length : Int) i xs ys) r ∧ Ev (fun k => chancelref04_Right.l1 k n i xs ys) r := by
  induction d with
  | zero =>
    intro i h0 hd
    refine ⟨true, Ev.step (f := fun _ => some true) (fun k => ?_) (Ev.now _), Ev.step (f := fun _ => some true) (fun k => ?_) (Ev.now _)⟩
    · simp only [marks_Right.l1]; rw [if_neg (by omega)]
    · simp only [chancelref04_Right.l1]; rw [if_neg (by omega)]
  | succ d ih =>
    intro i h0 hd
    by_cases h1 : i < (ys.length : Int)
    · obtain ⟨r, e1, e2⟩ := ih (i + 1) (by omega) (by omega)
      have w := mr_wrap h0 h1 hn
      by_cases c : (rd_T38 ys i).f0 ≤ 0 ∨ (rd_T38 ys i).f1 < 0 ∨ (rd_T38 ys i).f1 > n
      · refine ⟨false, Ev.step (f := fun _ => some false) (fun k => ?_) (Ev.now _), Ev.step (f := fun k => chancelref04_Right.j3 k n i true xs ys ((rd_T38 ys i).f0) ((rd_T38 ys i).f1)) (fun k => ?_) (Ev.step (f := fun _ => some false) (fun k => ?_) (Ev.now _))⟩
        · simp only [marks_Right.l1]; rw [if_pos h1, if_pos h0, if_pos h1]
          rcases c with c | c | c
          · rw [if_pos c]
          · rw [if_pos c]; split <;> rfl
          · rw [if_pos c]; split
            · rfl
            · split <;> rfl
        · simp only [chancelref04_Right.l1]; rw [if_pos h1, if_pos h0]
          rcases c with c | c | c
          · rw [if_pos c]
          · rw [if_pos c]; split <;> rfl
          · rw [decide_eq_true c]; split
            · rfl
            · split <;> rfl
        · simp only [chancelref04_Right.j3, if_true]
      · have c1 : ¬ (rd_T38 ys i).f0 ≤ 0 := fun h => c (.inl h)
        have c2 : ¬ (rd_T38 ys i).f1 < 0 := fun h => c (.inr (.inl h))
        have c3 : ¬ (rd_T38 ys i).f1 > n := fun h => c (.inr (.inr h))
        have href : ∀ {r}, Ev (fun k => chancelref04_Right.j3 k n i false xs ys ((rd_T38 ys i).f0) ((rd_T38 ys i).f1)) r → Ev (fun k => chancelref04_Right.l1 k n i xs ys) r := by
          intro r h
          refine Ev.step (fun k => ?_) h
          simp only [chancelref04_Right.l1]; rw [if_pos h1, if_pos h0, if_neg c1, if_neg c2, decide_eq_false c3]
        by_cases hp : i > 0
        · have w' := mr_wrap' hp h1 hn
          have hc := mr_compare (rd_T38 ys (i - 1)).f0 (rd_T38 ys (i - 1)).f1 (rd_T38 ys i).f0 (rd_T38 ys i).f1
          have hs := mr_compare_sign (rd_T38 ys (i - 1)).f0 (rd_T38 ys (i - 1)).f1 (rd_T38 ys i).f0 (rd_T38 ys i).f1
          generalize (if mrCmp (rd_T38 ys (i - 1)).f1 (rd_T38 ys i).f1 = 0 then mrCmp (rd_T38 ys (i - 1)).f0 (rd_T38 ys i).f0 else mrCmp (rd_T38 ys (i - 1)).f1 (rd_T38 ys i).f1) = cv at hc hs
          have hprog : ∀ {r}, Ev (fun k => (if cv ≥ 0 then some false else marks_Right.l1 k n ys (ys.length : Int) (i + 1) xs ys)) r → Ev (fun k => marks_Right.l1 k n ys (ys.length : Int) i xs ys) r := by
            intro r h
            refine Ev.step (fun k => ?_) (Ev.bind (f := fun k a => if a ≥ 0 then some false else marks_Right.l1 k n ys (ys.length : Int) (i + 1) xs ys) hc h)
            simp only [marks_Right.l1]; rw [if_pos h1, if_pos h0, if_pos h1, if_neg c1, if_neg c2, if_neg c3, if_pos hp, w', if_pos (by omega), if_pos (by omega), w]
          by_cases hlt : (rd_T38 ys (i - 1)).f1 < (rd_T38 ys i).f1 ∨ (rd_T38 ys (i - 1)).f1 = (rd_T38 ys i).f1 ∧ (rd_T38 ys (i - 1)).f0 < (rd_T38 ys i).f0
          · refine ⟨r, hprog ?_, href (Ev.step (f := fun k => chancelref04_Right.l1 k n (i + 1) xs ys) (fun k => ?_) e2)⟩
            · rw [show (fun k => (if cv ≥ 0 then some false else marks_Right.l1 k n ys (ys.length : Int) (i + 1) xs ys)) = fun k => marks_Right.l1 k n ys (ys.length : Int) (i + 1) xs ys from funext fun k => if_neg (fun h => hs.1 h hlt)]
              exact e1
            · simp only [chancelref04_Right.j3, Bool.false_eq_true, if_false]
              rw [if_pos hp, w', if_pos (by omega), if_pos (by omega), w]
              rcases hlt with h | ⟨h, h'⟩
              · rw [if_neg (by omega), if_neg (by omega)]
              · rw [if_neg (by omega), if_pos (by omega), if_neg (by omega)]
          · refine ⟨false, hprog ?_, href (Ev.step (f := fun k => some false) (fun k => ?_) (Ev.now _))⟩
            · rw [show (fun k => (if cv ≥ 0 then some false else marks_Right.l1 k n ys (ys.length : Int) (i + 1) xs ys)) = fun k => some false from funext fun k => if_pos (hs.2 hlt)]
              exact Ev.now _
            · simp only [chancelref04_Right.j3, Bool.false_eq_true, if_false]
              rw [if_pos hp, w', if_pos (by omega), if_pos (by omega)]
              by_cases h : (rd_T38 ys i).f1 < (rd_T38 ys (i - 1)).f1
              · rw [if_pos h]
              · rw [if_neg h, if_pos (by omega), if_pos (by omega)]
        · refine ⟨r, Ev.step (f := fun k => marks_Right.l1 k n ys (ys.length : Int) (i + 1) xs ys) (fun k => ?_) e1, href (Ev.step (f := fun k => chancelref04_Right.l1 k n (i + 1) xs ys) (fun k => ?_) e2)⟩
          · simp only [marks_Right.l1]; rw [if_pos h1, if_pos h0, if_pos h1, if_neg c1, if_neg c2, if_neg c3, if_neg hp, w]
          · simp only [chancelref04_Right.j3, Bool.false_eq_true, if_false]; rw [if_neg hp, w]
    · refine ⟨true, Ev.step (f := fun _ => some true) (fun k => ?_) (Ev.now _), Ev.step (f := fun _ => some true) (fun k => ?_) (Ev.now _)⟩
      · simp only [marks_Right.l1]; rw [if_neg h1]
      · simp only [chancelref04_Right.l1]; rw [if_neg h1]

theorem mr_l0 (n : Int) (xs : List S26) (ys : List S38) (hm : xs.length ≤ 140737488351232) (hn : ys.length ≤ 140737488351232) (d : Nat) : ∀ i : Int, 0 ≤ i → (xs.length : Int) - i ≤ d →
    ∃ r, Ev (fun k => marks_Right.l0 k n xs (xs.length : Int) i xs ys) r ∧ Ev (fun k => chancelref04_Right.l0 k n i xs ys) r := by
  have fin : ∀ i : Int, ¬ i < (xs.length : Int) → ∃ r, Ev (fun k => marks_Right.l0 k n xs (xs.length : Int) i xs ys) r ∧ Ev (fun k => chancelref04_Right.l0 k n i xs ys) r := by
    intro i h1
    obtain ⟨r, e1, e2⟩ := mr_l1 n xs ys hn ys.length 0 (by omega) (by omega)
    refine ⟨r, Ev.step (fun k => ?_) e1, Ev.step (fun k => ?_) e2⟩
    · simp only [marks_Right.l0]; rw [if_neg h1]
    · simp only [chancelref04_Right.l0]; rw [if_neg h1]
  induction d with
  | zero => intro i h0 hd; exact fin i (by omega)
  | succ d ih =>
    intro i h0 hd
    by_cases h1 : i < (xs.length : Int)
    · obtain ⟨r, e1, e2⟩ := ih (i + 1) (by omega) (by omega)
      have w := mr_wrap h0 h1 hm
      have key : ∀ b : Bool, ∃ r, Ev (fun k => marks_Right.j1 k n i xs (xs.length : Int) i b xs ys ((rd_T26 xs i).f0) ((rd_T26 xs i).f1) ((rd_T26 xs i).f2)) r ∧ Ev (fun k => chancelref04_Right.j1 k n i b xs ys ((rd_T26 xs i).f0) ((rd_T26 xs i).f1) ((rd_T26 xs i).f2)) r := by
        intro b
        cases b with
        | true =>
          refine ⟨false, Ev.step (f := fun _ => some false) (fun k => ?_) (Ev.now _), Ev.step (f := fun _ => some false) (fun k => ?_) (Ev.now _)⟩
          · simp only [marks_Right.j1, if_true]
          · simp only [chancelref04_Right.j1, if_true]
        | false =>
          by_cases hp : i > 0
          · have w' := mr_wrap' hp h1 hm
            by_cases c1 : (rd_T26 xs (i - 1)).f2 > (rd_T26 xs i).f1
            · refine ⟨false, Ev.step (f := fun _ => some false) (fun k => ?_) (Ev.now _), Ev.step (f := fun _ => some false) (fun k => ?_) (Ev.now _)⟩
              · simp only [marks_Right.j1, Bool.false_eq_true, if_false]; rw [if_pos hp, w', if_pos (by omega), if_pos (by omega), if_pos c1]
              · simp only [chancelref04_Right.j1, Bool.false_eq_true, if_false]; rw [if_pos hp, w', if_pos (by omega), if_pos (by omega), if_pos (by omega)]
            · by_cases c2 : (rd_T26 xs (i - 1)).f2 = (rd_T26 xs i).f1 ∧ (rd_T26 xs (i - 1)).f0 = (rd_T26 xs i).f0
              · refine ⟨false, Ev.step (f := fun _ => some false) (fun k => ?_) (Ev.now _), Ev.step (f := fun _ => some false) (fun k => ?_) (Ev.now _)⟩
                · simp only [marks_Right.j1, Bool.false_eq_true, if_false]; rw [if_pos hp, w', if_pos (by omega), if_pos (by omega), if_neg c1, if_pos c2.1, if_pos c2.2]
                · simp only [chancelref04_Right.j1, Bool.false_eq_true, if_false]; rw [if_pos hp, w', if_pos (by omega), if_pos (by omega), if_neg (by omega), if_pos c2.1.symm, if_pos c2.2.symm]
              · refine ⟨r, Ev.step (f := fun k => marks_Right.l0 k n xs (xs.length : Int) (i + 1) xs ys) (fun k => ?_) e1, Ev.step (f := fun k => chancelref04_Right.l0 k n (i + 1) xs ys) (fun k => ?_) e2⟩
                · simp only [marks_Right.j1, Bool.false_eq_true, if_false]; rw [if_pos hp, w', if_pos (by omega), if_pos (by omega), if_neg c1, w]
                  split
                  · rw [if_neg (by omega)]
                  · rfl
                · simp only [chancelref04_Right.j1, Bool.false_eq_true, if_false]; rw [if_pos hp, w', if_pos (by omega), if_pos (by omega), if_neg (by omega), w]
                  split
                  · rw [if_neg (by omega)]
                  · rfl
          · refine ⟨r, Ev.step (f := fun k => marks_Right.l0 k n xs (xs.length : Int) (i + 1) xs ys) (fun k => ?_) e1, Ev.step (f := fun k => chancelref04_Right.l0 k n (i + 1) xs ys) (fun k => ?_) e2⟩
            · simp only [marks_Right.j1, Bool.false_eq_true, if_false]; rw [if_neg hp, w]
            · simp only [chancelref04_Right.j1, Bool.false_eq_true, if_false]; rw [if_neg hp, w]
      by_cases c1 : (rd_T26 xs i).f0 ≤ 0
      · obtain ⟨r, e1, e2⟩ := key true
        refine ⟨r, Ev.step (fun k => ?_) e1, Ev.step (fun k => ?_) e2⟩
        · simp only [marks_Right.l0]; rw [if_pos h1, if_pos h0, if_pos h1, if_pos c1]
        · simp only [chancelref04_Right.l0]; rw [if_pos h1, if_pos h0, if_pos c1]
      · by_cases c2 : (rd_T26 xs i).f1 < 0
        · obtain ⟨r, e1, e2⟩ := key true
          refine ⟨r, Ev.step (fun k => ?_) e1, Ev.step (fun k => ?_) e2⟩
          · simp only [marks_Right.l0]; rw [if_pos h1, if_pos h0, if_pos h1, if_neg c1, if_pos c2]
          · simp only [chancelref04_Right.l0]; rw [if_pos h1, if_pos h0, if_neg c1, if_pos c2]
        · by_cases c3 : (rd_T26 xs i).f1 ≥ (rd_T26 xs i).f2
          · obtain ⟨r, e1, e2⟩ := key true
            refine ⟨r, Ev.step (fun k => ?_) e1, Ev.step (fun k => ?_) e2⟩
            · simp only [marks_Right.l0]; rw [if_pos h1, if_pos h0, if_pos h1, if_neg c1, if_neg c2, if_pos c3]
            · simp only [chancelref04_Right.l0]; rw [if_pos h1, if_pos h0, if_neg c1, if_neg c2, if_pos (by omega)]
          · obtain ⟨r, e1, e2⟩ := key (decide ((rd_T26 xs i).f2 > n))
            refine ⟨r, Ev.step (fun k => ?_) e1, Ev.step (fun k => ?_) e2⟩
            · simp only [marks_Right.l0]; rw [if_pos h1, if_pos h0, if_pos h1, if_neg c1, if_neg c2, if_neg c3]
            · simp only [chancelref04_Right.l0]; rw [if_pos h1, if_pos h0, if_neg c1, if_neg c2, if_neg (by omega)]
    · exact fin i h1

/-- Both judges say one thing. -/
theorem mr_both (n : Int) (xs : List S26) (ys : List S38) (hm : xs.length ≤ 140737488351232) (hn : ys.length ≤ 140737488351232) :
    ∃ r, Ev (fun k => marks_Right.f k xs ys n) r ∧ Ev (fun k => chancelref04_Right.f k xs ys n) r := mr_l0 n xs ys hm hn xs.length 0 (by omega) (by omega)

theorem MarksRight : ∀ (l0 : List (S26)) (l1 : List (S38)) (a2 : Int), (l0.length * 24 ≤ 140737488351232 ∧ ∀ y ∈ l0, ((Lit.int .i64 y.f0).wf = true ∧ (Lit.int .i64 y.f1).wf = true ∧ (Lit.int .i64 y.f2).wf = true)) → (l1.length * 16 ≤ 140737488351232 ∧ ∀ y ∈ l1, ((Lit.int .i64 y.f0).wf = true ∧ (Lit.int .i64 y.f1).wf = true)) → (Lit.int .i64 a2).wf = true → ∃ k, chancellaw04_MarksRight.f k l0 l1 a2 = some true := by
  intro xs ys n hx hy _
  obtain ⟨r, e1, e2⟩ := mr_both n xs ys (by omega) (by omega)
  have t1 : Ev (fun k => marks_Right.f k [(⟨1, 0, 2⟩ : S26)] [] 2) true := Ev.of (marks_Right.mono _ _ _) (k := 6) (by decide +kernel)
  have t2 : Ev (fun k => marks_Right.f k [(⟨1, 0, 2⟩ : S26)] [] 1) false := Ev.of (marks_Right.mono _ _ _) (k := 6) (by decide +kernel)
  have j1 : ∀ b, Ev (fun k => chancellaw04_MarksRight.j1 k xs ys n b) true := by
    intro b
    cases b with
    | true => exact Ev.step (f := fun _ => some true) (fun k => by simp only [chancellaw04_MarksRight.j1, if_true]) (Ev.now _)
    | false =>
      refine Ev.step (f := fun k => (marks_Right.f k xs ys n).bind fun t140 => ((chancelref04_Right.f k xs ys n).bind fun t141 => (some (t140 == t141)))) (fun k => by simp only [chancellaw04_MarksRight.j1, Bool.false_eq_true, if_false]) ?_
      refine Ev.bind e1 (Ev.bind e2 ?_)
      rw [beq_self_eq_true]
      exact Ev.now _
  have j0 : Ev (fun k => chancellaw04_MarksRight.j0 k xs ys n false) true := by
    by_cases h : (xs.length : Int) > 2000
    · exact Ev.step (fun k => by simp only [chancellaw04_MarksRight.j0, Bool.false_eq_true, if_false]; rw [if_pos h]) (j1 true)
    · exact Ev.step (fun k => by simp only [chancellaw04_MarksRight.j0, Bool.false_eq_true, if_false]; rw [if_neg h]) (j1 _)
  have all : Ev (fun k => chancellaw04_MarksRight.f k xs ys n) true := by
    unfold chancellaw04_MarksRight.f
    refine Ev.bind t1 ?_
    simp only [if_true]
    exact Ev.bind t2 j0
  exact Ev.rounds all

end Go.Proofs.Ytdgjjdpeaohebaa.Pure
