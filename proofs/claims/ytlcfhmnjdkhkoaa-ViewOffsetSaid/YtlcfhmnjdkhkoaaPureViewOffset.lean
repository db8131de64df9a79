/- The pure law ViewOffset: the printed functions of ViewOffset answer true for every input. Conditions: the sizes that every row has. -/
import Derived.Test.YtlcfhmnjdkhkoaaPViewOffsetx1
namespace Go.Proofs.Ytlcfhmnjdkhkoaa.Pure
open Go.RowKit Go.Proofs.Ytlcfhmnjdkhkoaa.PViewOffset Go.Proofs.YtlcfhmnjdkhkoaaW.PrintWords Go.Proofs.YtlcfhmnjdkhkoaaW.PrintLast

theorem vo_wrap {i : Int} {n : Nat} (h0 : 0 ≤ i) (h : i < (n : Int)) (hn : n * 32 ≤ 140737488351232) : wrap64 (i + 1) = i + 1 := by
  unfold wrap64
  omega

theorem vo_wide (a b c : Int) (d : Bool) : ∃ t, view_wide.f a b c d = some t := by
  unfold view_wide.f; split <;> exact ⟨_, rfl⟩

/-- Both loops are one. -/
theorem vo_same (xs : List S35) (x1 x2 : Int) : ∀ (k : Nat) (s i : Int), view_Offset.l0 k x1 x2 s xs (xs.length : Int) i = chancelref08_Offset.l0 k xs x1 x2 s i
  | 0, _, _ => rfl
  | k + 1, s, i => by
    simp only [view_Offset.l0, chancelref08_Offset.l0, view_wide.f, chancelref08_wide.f]
    have ih := vo_same xs x1 x2 k
    by_cases h1 : i < (xs.length : Int)
    · simp only [if_pos h1, ih]
    · simp only [if_neg h1]

theorem vo_ends (xs : List S35) (hn : xs.length * 32 ≤ 140737488351232) (x1 x2 : Int) (d : Nat) : ∀ (k : Nat) (s i : Int), 0 ≤ i → (xs.length : Int) - i ≤ d → d < k →
    ∃ r, chancelref08_Offset.l0 k xs x1 x2 s i = some r := by
  induction d with
  | zero =>
    intro k s i h0 hd hk
    obtain ⟨k, rfl⟩ : ∃ m, k = m + 1 := ⟨k - 1, by omega⟩
    simp only [chancelref08_Offset.l0]
    rw [if_neg (by omega)]
    exact ⟨_, rfl⟩
  | succ d ih =>
    intro k s i h0 hd hk
    obtain ⟨k, rfl⟩ : ∃ m, k = m + 1 := ⟨k - 1, by omega⟩
    simp only [chancelref08_Offset.l0, chancelref08_wide.f]
    by_cases h1 : i < (xs.length : Int)
    · rw [if_pos h1, if_pos h0]
      rw [vo_wrap h0 h1 hn]
      by_cases h2 : (rd_T35 xs i).f0 = x1
      · rw [if_pos h2]
        by_cases h3 : (rd_T35 xs i).f3 = true
        · rw [if_pos h3]; exact ⟨_, rfl⟩
        · rw [if_neg h3]; exact ⟨_, rfl⟩
      · rw [if_neg h2]
        by_cases h3 : (rd_T35 xs i).f3 = true
        · rw [if_pos h3]; exact ih _ _ _ (by omega) (by omega) (by omega)
        · rw [if_neg h3]; exact ih _ _ _ (by omega) (by omega) (by omega)
    · rw [if_neg h1]; exact ⟨_, rfl⟩

theorem vo_right (l : List S35) (xs : List S35) (hn : xs.length * 32 ≤ 140737488351232) (d : Nat) : ∀ (k : Nat) (i : Int), 0 ≤ i → (xs.length : Int) - i ≤ d → d < k →
    ∃ r, chancellaw08_right.l0 k l xs (xs.length : Int) i = some r := by
  induction d with
  | zero =>
    intro k i h0 hd hk
    obtain ⟨k, rfl⟩ : ∃ m, k = m + 1 := ⟨k - 1, by omega⟩
    simp only [chancellaw08_right.l0]
    rw [if_neg (by omega)]
    exact ⟨_, rfl⟩
  | succ d ih =>
    intro k i h0 hd hk
    obtain ⟨k, rfl⟩ : ∃ m, k = m + 1 := ⟨k - 1, by omega⟩
    simp only [chancellaw08_right.l0]
    by_cases h1 : i < (xs.length : Int)
    · rw [if_pos h1, if_pos h0, if_pos h1, vo_wrap h0 h1 hn]
      obtain ⟨r, hr⟩ := ih k (i + 1) (by omega) (by omega) (by omega)
      by_cases h2 : (rd_T35 xs i).f2 < 0
      · rw [if_pos h2]; exact ⟨_, rfl⟩
      · rw [if_neg h2]
        by_cases h3 : (rd_T35 xs i).f2 > 1099511627776
        · rw [if_pos h3]; exact ⟨_, rfl⟩
        · rw [if_neg h3]; exact ⟨_, hr⟩
    · rw [if_neg h1]; exact ⟨_, rfl⟩

theorem vo_three : ∃ l, chancellaw08_three.f = some l ∧ view_Offset.f 5 l 2 9 = some (4, true) := ⟨_, rfl, by decide +kernel⟩

theorem ViewOffset : ∀ (l0 : List (S35)) (a1 : Int) (a2 : Int), (l0.length * 32 ≤ 140737488351232 ∧ ∀ y ∈ l0, ((Lit.int .i64 y.f0).wf = true ∧ (Lit.int .i64 y.f1).wf = true ∧ (Lit.int .i64 y.f2).wf = true)) → (Lit.int .i64 a1).wf = true → (Lit.int .i64 a2).wf = true → ∃ k, chancellaw08_ViewOffset.f k l0 a1 a2 = some true := by
  intro l a1 a2 hl _ _
  obtain ⟨t, ht, h3⟩ := vo_three
  refine ⟨l.length + 7, ?_⟩
  unfold chancellaw08_ViewOffset.f
  rw [ht]; simp only [Option.bind_some]
  rw [at_rounds (view_Offset.mono t 2 9) (show 5 ≤ l.length + 7 by omega) h3]
  simp only [Option.bind_some, if_true]
  rw [show l.length + 7 = (l.length + 6) + 1 from rfl]
  simp only [chancellaw08_ViewOffset.j0]
  obtain ⟨b, hb⟩ := vo_right l l hl.1 l.length (l.length + 6) 0 (by omega) (by omega) (by omega)
  have hb' : chancellaw08_right.f (l.length + 6) l = some b := hb
  rw [hb']
  obtain ⟨r, hr⟩ := vo_ends l hl.1 a1 a2 l.length (l.length + 6) 0 0 (by omega) (by omega) (by omega)
  have h1 : view_Offset.f (l.length + 6) l a1 a2 = some r := (vo_same l a1 a2 _ 0 0).trans hr
  have h2 : chancelref08_Offset.f (l.length + 6) l a1 a2 = some r := hr
  rw [h1, h2]
  cases b <;> simp

end Go.Proofs.Ytlcfhmnjdkhkoaa.Pure
