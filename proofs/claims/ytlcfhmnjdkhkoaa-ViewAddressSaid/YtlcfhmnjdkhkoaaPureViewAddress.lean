/- The pure law ViewAddress: the printed functions of ViewAddress answer true for every input. Conditions: the sizes that every row has. -/
import Derived.Test.YtlcfhmnjdkhkoaaPViewAddressx1
import Derived.Test.YtlcfhmnjdkhkoaaPViewAddressx2
namespace Go.Proofs.Ytlcfhmnjdkhkoaa.Pure
open Go.RowKit Go.Proofs.Ytlcfhmnjdkhkoaa.PViewAddress Go.Proofs.YtlcfhmnjdkhkoaaW.PrintWords Go.Proofs.YtlcfhmnjdkhkoaaW.PrintLast

theorem va_wrap {i : Int} {n : Nat} (h0 : 0 ≤ i) (h : i < (n : Int)) (hn : n * 32 ≤ 140737488351232) : wrap64 (i + 1) = i + 1 := by
  unfold wrap64
  omega
theorem va_id {x : Int} (h0 : -2305843009213693952 ≤ x) (h1 : x ≤ 2305843009213693952) : wrap64 x = x := by
  unfold wrap64
  omega

/-- The width of a piece. -/
def vaW (p : S35) : Int := if p.f3 = true then p.f2 else 1
theorem va_wide1 (p : S35) : view_wide.f p.f0 p.f1 p.f2 p.f3 = some (vaW p) := by
  unfold view_wide.f vaW; split <;> rfl
theorem va_wide2 (p : S35) : chancelref08_wide.f p.f0 p.f1 p.f2 p.f3 = some (vaW p) := by
  unfold chancelref08_wide.f vaW; split <;> rfl

theorem va_width_same (xs : List S35) : ∀ (k : Nat) (s i : Int), view_Width.l0 k s xs (xs.length : Int) i = chancelref08_Width.l0 k xs s i
  | 0, _, _ => rfl
  | k + 1, s, i => by
    simp only [view_Width.l0, chancelref08_Width.l0, va_wide1, va_wide2]
    have ih := va_width_same xs k
    by_cases h1 : i < (xs.length : Int)
    · simp only [if_pos h1, ih]
    · simp only [if_neg h1]

def vaOk (xs : List S35) : Prop := xs.length ≤ 1000 ∧ ∀ i : Int, 0 ≤ i → i < (xs.length : Int) → 0 ≤ (rd_T35 xs i).f2 ∧ (rd_T35 xs i).f2 ≤ 1099511627776
theorem va_W_bd {xs : List S35} (h : vaOk xs) (i : Int) (h0 : 0 ≤ i) (h1 : i < (xs.length : Int)) : 0 ≤ vaW (rd_T35 xs i) ∧ vaW (rd_T35 xs i) ≤ 1099511627776 := by
  have := h.2 i h0 h1
  unfold vaW
  split <;> omega

theorem va_right (l xs : List S35) (hn : xs.length * 32 ≤ 140737488351232) (d : Nat) : ∀ (k : Nat) (i : Int), 0 ≤ i → (xs.length : Int) - i ≤ d → d < k →
    ∃ r, chancellaw08_right.l0 k l xs (xs.length : Int) i = some r ∧ (r = true → l.length ≤ 1000 ∧ ∀ j : Int, i ≤ j → j < (xs.length : Int) → 0 ≤ (rd_T35 xs j).f2 ∧ (rd_T35 xs j).f2 ≤ 1099511627776) := by
  induction d with
  | zero =>
    intro k i h0 hd hk
    obtain ⟨k, rfl⟩ : ∃ m, k = m + 1 := ⟨k - 1, by omega⟩
    simp only [chancellaw08_right.l0]
    rw [if_neg (by omega)]
    exact ⟨_, rfl, fun h => ⟨by have := of_decide_eq_true h; omega, fun j _ _ => by omega⟩⟩
  | succ d ih =>
    intro k i h0 hd hk
    obtain ⟨k, rfl⟩ : ∃ m, k = m + 1 := ⟨k - 1, by omega⟩
    simp only [chancellaw08_right.l0]
    by_cases h1 : i < (xs.length : Int)
    · rw [if_pos h1, if_pos h0, if_pos h1, va_wrap h0 h1 hn]
      obtain ⟨r, hr, hp⟩ := ih k (i + 1) (by omega) (by omega) (by omega)
      by_cases h2 : (rd_T35 xs i).f2 < 0
      · rw [if_pos h2]; exact ⟨_, rfl, fun h => by cases h⟩
      · rw [if_neg h2]
        by_cases h3 : (rd_T35 xs i).f2 > 1099511627776
        · rw [if_pos h3]; exact ⟨_, rfl, fun h => by cases h⟩
        · rw [if_neg h3]
          refine ⟨_, hr, fun h => ⟨(hp h).1, fun j hj hj' => ?_⟩⟩
          by_cases e : j = i
          · subst e; omega
          · exact (hp h).2 j (by omega) hj'
    · rw [if_neg h1]; exact ⟨_, rfl, fun h => ⟨by have := of_decide_eq_true h; omega, fun j _ _ => by omega⟩⟩

/-- The width, by counting. -/
theorem va_width (xs : List S35) (hx : vaOk xs) (d : Nat) : ∀ (k : Nat) (s i : Int), 0 ≤ i → (xs.length : Int) - i = d → 0 ≤ s → s ≤ i * 1099511627776 → d < k →
    ∃ r, chancelref08_Width.l0 k xs s i = some r ∧ s ≤ r ∧ r ≤ 1099511627776000 := by
  have hl := hx.1
  induction d with
  | zero =>
    intro k s i h0 hd hs0 hs hk
    obtain ⟨k, rfl⟩ : ∃ m, k = m + 1 := ⟨k - 1, by omega⟩
    simp only [chancelref08_Width.l0]
    rw [if_neg (by omega)]
    exact ⟨_, rfl, by omega, by omega⟩
  | succ d ih =>
    intro k s i h0 hd hs0 hs hk
    obtain ⟨k, rfl⟩ : ∃ m, k = m + 1 := ⟨k - 1, by omega⟩
    simp only [chancelref08_Width.l0, va_wide2]
    have h1 : i < (xs.length : Int) := by omega
    have hb := va_W_bd hx i h0 h1
    rw [if_pos h1, if_pos h0, Option.bind_some, va_id (x := i + 1) (by omega) (by omega), va_id (by omega) (by omega)]
    obtain ⟨r, hr, h2, h3⟩ := ih k (s + vaW (rd_T35 xs i)) (i + 1) (by omega) (by omega) (by omega) (by omega) (by omega)
    exact ⟨r, hr, by omega, h3⟩

theorem va_address (xs : List S35) (hx : vaOk xs) (o : Int) (ho : 0 ≤ o) (ho' : o ≤ 1099511627776000) (d : Nat) : ∀ (k : Nat) (s i : Int), 0 ≤ i → (xs.length : Int) - i = d → 0 ≤ s → s ≤ i * 1099511627776 → d < k →
    ∃ r, chancelref08_Address.l0 k xs o s i = some r ∧ view_Address.l0 k (o - s) xs (xs.length : Int) i = some r := by
  have hl := hx.1
  induction d with
  | zero =>
    intro k s i h0 hd hs0 hs hk
    obtain ⟨k, rfl⟩ : ∃ m, k = m + 1 := ⟨k - 1, by omega⟩
    simp only [chancelref08_Address.l0, view_Address.l0]
    rw [if_neg (by omega), if_neg (by omega)]
    exact ⟨_, rfl, rfl⟩
  | succ d ih =>
    intro k s i h0 hd hs0 hs hk
    obtain ⟨k, rfl⟩ : ∃ m, k = m + 1 := ⟨k - 1, by omega⟩
    simp only [chancelref08_Address.l0, view_Address.l0, va_wide1, va_wide2]
    have h1 : i < (xs.length : Int) := by omega
    have hb := va_W_bd hx i h0 h1
    rw [if_pos h1, if_pos h0, if_pos h1, if_pos h0, if_pos h1, Option.bind_some, Option.bind_some, Option.bind_some, va_id (x := i + 1) (by omega) (by omega), va_id (x := s + _) (by omega) (by omega), va_id (x := o - s) (by omega) (by omega), va_id (x := o - s - _) (by omega) (by omega)]
    by_cases h2 : s + vaW (rd_T35 xs i) ≥ o
    · rw [if_pos h2, if_pos (by omega)]
      exact ⟨_, rfl, rfl⟩
    · rw [if_neg h2, if_neg (by omega)]
      obtain ⟨r, hr, h3⟩ := ih k (s + vaW (rd_T35 xs i)) (i + 1) (by omega) (by omega) (by omega) (by omega) (by omega)
      refine ⟨r, hr, ?_⟩
      rw [show o - s - vaW (rd_T35 xs i) = o - (s + vaW (rd_T35 xs i)) by omega]
      exact h3

theorem va_three : ∃ l, chancellaw08_three.f = some l ∧ view_Address.f 8 l 3 = some (1, 3, true) ∧ view_Width.f 8 l = some 6 := ⟨_, rfl, by decide +kernel, by decide +kernel⟩

theorem ViewAddress : ∀ (l0 : List (S35)) (a1 : Int), (l0.length * 32 ≤ 140737488351232 ∧ ∀ y ∈ l0, ((Lit.int .i64 y.f0).wf = true ∧ (Lit.int .i64 y.f1).wf = true ∧ (Lit.int .i64 y.f2).wf = true)) → (Lit.int .i64 a1).wf = true → ∃ k, chancellaw08_ViewAddress.f k l0 a1 = some true := by
  intro l a1 hl _
  obtain ⟨t, ht, h3, h4⟩ := va_three
  refine ⟨l.length + 10, ?_⟩
  unfold chancellaw08_ViewAddress.f
  rw [ht]; simp only [Option.bind_some]
  rw [at_rounds (view_Address.mono t 3) (show 8 ≤ l.length + 10 by omega) h3, at_rounds (view_Width.mono t) (show 8 ≤ l.length + 10 by omega) h4]
  simp only [Option.bind_some, if_true]
  rw [show l.length + 10 = (l.length + 9) + 1 from rfl]
  simp only [chancellaw08_ViewAddress.j0]
  obtain ⟨b, hb, hp⟩ := va_right l l hl.1 l.length (l.length + 9) 0 (by omega) (by omega) (by omega)
  have hb' : chancellaw08_right.f (l.length + 9) l = some b := hb
  rw [hb']
  cases b with
  | false => simp
  | true =>
    have hx : vaOk l := ⟨(hp rfl).1, (hp rfl).2⟩
    obtain ⟨w, hw, hw0, hw1⟩ := va_width l hx l.length (l.length + 9) 0 0 (by omega) (by omega) (by omega) (by omega) (by omega)
    have e1 : view_Width.f (l.length + 9) l = some w := (va_width_same l _ 0 0).trans hw
    have e2 : chancelref08_Width.f (l.length + 9) l = some w := hw
    obtain ⟨r, hr, hr'⟩ := va_address l hx (mn (mx a1 0) w) (by unfold mn mx; split <;> split <;> omega) (by unfold mn mx; split <;> split <;> omega) l.length (l.length + 9) 0 0 (by omega) (by omega) (by omega) (by omega) (by omega)
    have f1 : view_Address.f (l.length + 9) l a1 = some r := by
      unfold view_Address.f
      rw [e1, Option.bind_some]
      rw [show mn (mx a1 0) w = mn (mx a1 0) w - 0 by omega]
      exact hr'
    have f2 : chancelref08_Address.f (l.length + 9) l a1 = some r := by
      unfold chancelref08_Address.f
      rw [e2, Option.bind_some]
      exact hr
    rw [f1, f2, e1, e2]
    simp

end Go.Proofs.Ytlcfhmnjdkhkoaa.Pure
