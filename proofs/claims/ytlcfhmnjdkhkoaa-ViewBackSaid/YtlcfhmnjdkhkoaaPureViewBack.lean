/- The pure law ViewBack: what the callees answer (GViewBack's 'Answers'). Conditions: the sizes that every row has. -/
import Derived.Test.YtlcfhmnjdkhkoaaGViewBack
namespace Go.Proofs.Ytlcfhmnjdkhkoaa.Pure
open Go.RowKit Go.Proofs.Ytlcfhmnjdkhkoaa.PViewBack Go.Proofs.YtlcfhmnjdkhkoaaW.PrintWords Go.Proofs.YtlcfhmnjdkhkoaaW.PrintLast Go.Proofs.YtlcfhmnjdkhkoaaW.PrintMore

def vaW (p : S35) : Int := if p.f3 = true then p.f2 else 1
theorem va_wide1 (p : S35) : view_wide.f p.f0 p.f1 p.f2 p.f3 = some (vaW p) := by
  unfold view_wide.f vaW; split <;> rfl
theorem va_id {x : Int} (h0 : -2305843009213693952 ≤ x) (h1 : x ≤ 2305843009213693952) : wrap64 x = x := by
  unfold wrap64
  omega
def vaOk (xs : List S35) : Prop := xs.length ≤ 1000 ∧ ∀ p ∈ xs, 0 ≤ vaW p ∧ vaW p ≤ 1099511627776
theorem rd_mid (pre r : List S35) (p : S35) : rd_T35 (pre ++ p :: r) (pre.length : Int) = p := by simp [rd_T35]
theorem len_mid (pre r : List S35) (p : S35) (h : (pre ++ p :: r).length ≤ 1000) : ((pre.length : Int) < ((pre ++ p :: r).length : Int)) ∧ wrap64 ((pre.length : Int) + 1) = ((pre ++ [p]).length : Int) := by
  simp only [List.length_append, List.length_cons, List.length_nil] at h ⊢
  refine ⟨by omega, ?_⟩
  rw [va_id (by omega) (by omega)]
  omega
def offL (x1 x2 : Int) : Int → List S35 → Int × Bool
  | _, [] => (0, false)
  | s, p :: r => if p.f0 = x1 then (s + mn (mx x2 0) (vaW p), true) else offL x1 x2 (s + vaW p) r
def addrL : Int → List S35 → Int × Int × Bool
  | _, [] => (0, 0, false)
  | o, p :: r => if o ≤ vaW p then (p.f0, o, true) else addrL (o - vaW p) r
def sumL : List S35 → Int
  | [] => 0
  | p :: r => vaW p + sumL r

theorem mn_bd (x v : Int) (h : 0 ≤ v) : 0 ≤ mn (mx x 0) v ∧ mn (mx x 0) v ≤ v := by unfold mn mx; split <;> split <;> omega

theorem right_eq (l : List S35) : ∀ (suf pre : List S35) (k : Nat), suf.length < k → (pre ++ suf).length * 32 ≤ 140737488351232 →
    ∃ b, chancellaw08_right.l0 k l (pre ++ suf) ((pre ++ suf).length : Int) (pre.length : Int) = some b ∧ (b = true → l.length ≤ 1000 ∧ ∀ p ∈ suf, 0 ≤ vaW p ∧ vaW p ≤ 1099511627776)
  | [], pre, k, hk, hn => by
    obtain ⟨k, rfl⟩ : ∃ m, k = m + 1 := ⟨k - 1, by simp at hk; omega⟩
    simp only [chancellaw08_right.l0, List.append_nil]
    rw [if_neg (by omega)]
    exact ⟨_, rfl, fun h => ⟨by have := of_decide_eq_true h; omega, fun p hp => by cases hp⟩⟩
  | p :: r, pre, k, hk, hn => by
    obtain ⟨k, rfl⟩ : ∃ m, k = m + 1 := ⟨k - 1, by simp at hk; omega⟩
    simp only [chancellaw08_right.l0, rd_mid]
    have hn' := hn
    simp only [List.length_append, List.length_cons] at hn'
    have h1 : (pre.length : Int) < ((pre ++ p :: r).length : Int) := by simp only [List.length_append, List.length_cons]; omega
    have h2 : wrap64 ((pre.length : Int) + 1) = ((pre ++ [p]).length : Int) := by
      simp only [List.length_append, List.length_cons, List.length_nil]
      unfold wrap64
      omega
    have hc : pre ++ p :: r = (pre ++ [p]) ++ r := by simp
    rw [if_pos h1, if_pos (by omega), if_pos h1, h2]
    obtain ⟨b, hb, hb'⟩ := right_eq l r (pre ++ [p]) k (by simp at hk; omega) (by rw [← hc]; exact hn)
    rw [← hc] at hb
    by_cases e1 : p.f2 < 0
    · rw [if_pos e1]; exact ⟨_, rfl, fun h => by cases h⟩
    · rw [if_neg e1]
      by_cases e2 : p.f2 > 1099511627776
      · rw [if_pos e2]; exact ⟨_, rfl, fun h => by cases h⟩
      · rw [if_neg e2]
        refine ⟨_, hb, fun h => ⟨(hb' h).1, fun q hq => ?_⟩⟩
        rcases List.mem_cons.1 hq with rfl | hq
        · unfold vaW; split <;> omega
        · exact (hb' h).2 q hq

theorem off_eq (x1 x2 : Int) (B : Int) (hB : B = 1099511627776) : ∀ (suf pre : List S35) (k : Nat) (s : Int), vaOk (pre ++ suf) → suf.length < k → 0 ≤ s → s ≤ (pre.length : Int) * B →
    view_Offset.l0 k x1 x2 s (pre ++ suf) ((pre ++ suf).length : Int) (pre.length : Int) = some (offL x1 x2 s suf)
  | [], pre, k, s, hx, hk, h0, h1 => by
    have h1' := h1
    rw [hB] at h1'
    clear h1
    obtain ⟨k, rfl⟩ : ∃ m, k = m + 1 := ⟨k - 1, by simp at hk; omega⟩
    simp only [view_Offset.l0, List.append_nil]
    rw [if_neg (by omega)]
    rfl
  | p :: r, pre, k, s, hx, hk, h0, h1 => by
    have h1' := h1
    rw [hB] at h1'
    clear h1
    obtain ⟨k, rfl⟩ : ∃ m, k = m + 1 := ⟨k - 1, by simp at hk; omega⟩
    have hm := len_mid pre r p hx.1
    have hc : pre ++ p :: r = (pre ++ [p]) ++ r := by simp
    have hp := hx.2 p (by simp)
    have hl : (pre.length : Int) ≤ 1000 := by have := hx.1; simp only [List.length_append, List.length_cons] at this; omega
    have hb := mn_bd x2 (vaW p) hp.1
    simp only [view_Offset.l0, rd_mid, va_wide1, Option.bind_some]
    rw [if_pos hm.1, if_pos (by omega), if_pos hm.1, hm.2, va_id (x := s + mn _ _) (by omega) (by omega), va_id (x := s + vaW p) (by omega) (by omega)]
    unfold offL
    by_cases e : p.f0 = x1
    · rw [if_pos e, if_pos e]
    · rw [if_neg e, if_neg e]
      have ih := off_eq x1 x2 B hB r (pre ++ [p]) k (s + vaW p) (by rw [← hc]; exact hx) (by simp at hk; omega) (by omega) (by rw [hB]; simp only [List.length_append, List.length_cons, List.length_nil]; omega)
      rw [← hc] at ih
      exact ih

theorem sum_eq (B : Int) (hB : B = 1099511627776) : ∀ (suf pre : List S35) (k : Nat) (s : Int), vaOk (pre ++ suf) → suf.length < k → 0 ≤ s → s ≤ (pre.length : Int) * B →
    view_Width.l0 k s (pre ++ suf) ((pre ++ suf).length : Int) (pre.length : Int) = some (s + sumL suf)
  | [], pre, k, s, hx, hk, h0, h1 => by
    have h1' := h1
    rw [hB] at h1'
    clear h1
    obtain ⟨k, rfl⟩ : ∃ m, k = m + 1 := ⟨k - 1, by simp at hk; omega⟩
    simp only [view_Width.l0, List.append_nil]
    rw [if_neg (by omega)]
    simp [sumL]
  | p :: r, pre, k, s, hx, hk, h0, h1 => by
    have h1' := h1
    rw [hB] at h1'
    clear h1
    obtain ⟨k, rfl⟩ : ∃ m, k = m + 1 := ⟨k - 1, by simp at hk; omega⟩
    have hm := len_mid pre r p hx.1
    have hc : pre ++ p :: r = (pre ++ [p]) ++ r := by simp
    have hp := hx.2 p (by simp)
    have hl : (pre.length : Int) ≤ 1000 := by have := hx.1; simp only [List.length_append, List.length_cons] at this; omega
    simp only [view_Width.l0, rd_mid, va_wide1, Option.bind_some]
    rw [if_pos hm.1, if_pos (by omega), if_pos hm.1, hm.2, va_id (x := s + vaW p) (by omega) (by omega)]
    have ih := sum_eq B hB r (pre ++ [p]) k (s + vaW p) (by rw [← hc]; exact hx) (by simp at hk; omega) (by omega) (by rw [hB]; simp only [List.length_append, List.length_cons, List.length_nil]; omega)
    rw [← hc] at ih
    rw [ih]
    simp [sumL, Int.add_assoc]

theorem addr_eq : ∀ (suf pre : List S35) (k : Nat) (o : Int), vaOk (pre ++ suf) → suf.length < k → 0 ≤ o → o ≤ 2199023255552000 →
    view_Address.l0 k o (pre ++ suf) ((pre ++ suf).length : Int) (pre.length : Int) = some (addrL o suf)
  | [], pre, k, o, hx, hk, h0, h1 => by
    obtain ⟨k, rfl⟩ : ∃ m, k = m + 1 := ⟨k - 1, by simp at hk; omega⟩
    simp only [view_Address.l0, List.append_nil]
    rw [if_neg (by omega)]
    rfl
  | p :: r, pre, k, o, hx, hk, h0, h1 => by
    obtain ⟨k, rfl⟩ : ∃ m, k = m + 1 := ⟨k - 1, by simp at hk; omega⟩
    have hm := len_mid pre r p hx.1
    have hc : pre ++ p :: r = (pre ++ [p]) ++ r := by simp
    have hp := hx.2 p (by simp)
    simp only [view_Address.l0, rd_mid, va_wide1, Option.bind_some]
    rw [if_pos hm.1, if_pos (by omega), if_pos hm.1, hm.2, va_id (x := o - vaW p) (by omega) (by omega)]
    unfold addrL
    by_cases e : o ≤ vaW p
    · rw [if_pos e, if_pos e]
    · rw [if_neg e, if_neg e]
      have ih := addr_eq r (pre ++ [p]) k (o - vaW p) (by rw [← hc]; exact hx) (by simp at hk; omega) (by omega) (by omega)
      rw [← hc] at ih
      exact ih

theorem sum_nonneg : ∀ l : List S35, (∀ p ∈ l, 0 ≤ vaW p ∧ vaW p ≤ 1099511627776) → 0 ≤ sumL l ∧ sumL l ≤ (l.length : Int) * 1099511627776
  | [], _ => by simp [sumL]
  | p :: r, h => by
    have h1 := sum_nonneg r (fun q hq => h q (List.mem_cons_of_mem _ hq))
    have h2 := h p (by simp)
    simp only [sumL, List.length_cons]
    omega
theorem addr_mem : ∀ (l : List S35) (o id_ at_ : Int), addrL o l = (id_, at_, true) → id_ ∈ l.map (·.f0)
  | [], o, id_, at_, h => by simp [addrL] at h
  | p :: r, o, id_, at_, h => by
    unfold addrL at h
    split at h
    · cases h; simp
    · exact List.mem_cons_of_mem _ (addr_mem r _ _ _ h)
theorem addr_off : ∀ (l : List S35) (o id_ at_ s : Int), 0 ≤ o → (l.map (·.f0)).Nodup → addrL o l = (id_, at_, true) → offL id_ at_ s l = (s + o, true)
  | [], o, id_, at_, s, h0, hn, h => by simp [addrL] at h
  | p :: r, o, id_, at_, s, h0, hn, h => by
    simp only [List.map_cons, List.nodup_cons] at hn
    unfold addrL at h
    split at h
    · cases h
      simp only [offL, if_true]
      congr 2
      unfold mn mx
      split <;> split <;> omega
    · have hm := addr_mem r _ _ _ h
      have hne : ¬ p.f0 = id_ := fun e => hn.1 (e ▸ hm)
      simp only [offL, if_neg hne]
      rw [addr_off r _ _ _ (s + vaW p) (by omega) hn.2 h]
      congr 1
      omega
theorem addr_true : ∀ (l : List S35) (o : Int), l ≠ [] → o ≤ sumL l → ∃ a b, addrL o l = (a, b, true)
  | [], o, hl, h => absurd rfl hl
  | p :: r, o, hl, h => by
    unfold addrL
    split
    · exact ⟨_, _, rfl⟩
    · simp only [sumL] at h
      refine addr_true r _ ?_ (by omega)
      rintro rfl
      simp only [sumL] at h
      omega
theorem off_bd (x1 x2 : Int) : ∀ (l : List S35) (s n : Int), (∀ p ∈ l, 0 ≤ vaW p ∧ vaW p ≤ 1099511627776) → offL x1 x2 s l = (n, true) → s ≤ n ∧ n ≤ s + sumL l
  | [], s, n, hx, h => by simp [offL] at h
  | p :: r, s, n, hx, h => by
    have h2 := hx p (by simp)
    have h3 := sum_nonneg r (fun q hq => hx q (List.mem_cons_of_mem _ hq))
    unfold offL at h
    split at h
    · cases h
      have := mn_bd x2 (vaW p) h2.1
      simp only [sumL]
      omega
    · have := off_bd x1 x2 r _ _ (fun q hq => hx q (List.mem_cons_of_mem _ hq)) h
      simp only [sumL]
      omega
theorem off_none (x1 x2 : Int) : ∀ (l : List S35) (s n : Int), offL x1 x2 s l = (n, false) → ¬ x1 ∈ l.map (·.f0)
  | [], s, n, h => by simp
  | p :: r, s, n, h => by
    unfold offL at h
    split at h
    · cases h
    · rename_i hne
      have ih := off_none x1 x2 r _ _ h
      simp only [List.map_cons, List.mem_cons, not_or]
      exact ⟨fun e => hne e.symm, ih⟩

theorem vb_three (k : Nat) (h : 5 ≤ k) : view_Offset.f k L3 2 9 = some (4, true) := at_rounds (view_Offset.mono L3 2 9) h (by decide +kernel)

theorem ViewBack (l : List S35) (a1 i0 i1 : Int) (hl : l.length * 32 ≤ 140737488351232) :
    ∃ k b, view_Offset.f k L3 2 9 = some (4, true) ∧ chancellaw08_right.f k l = some b ∧ (b = true → l.length ≤ 1000 ∧ ((l.map S35.f0).Nodup → Answers k l a1 i0 i1)) := by
  obtain ⟨b, hb, hb'⟩ := right_eq l l [] (l.length + 9) (by omega) (by simpa using hl)
  refine ⟨l.length + 9, b, vb_three _ (by omega), by simpa [chancellaw08_right.f] using hb, fun h => ⟨(hb' h).1, fun hnd => ?_⟩⟩
  have hx : vaOk l := ⟨(hb' h).1, (hb' h).2⟩
  have hs := sum_nonneg l hx.2
  have hW : view_Width.f (l.length + 9) l = some (sumL l) := by simpa [view_Width.f] using sum_eq _ rfl l [] (l.length + 9) 0 (by simpa using hx) (by omega) (by omega) (by simp)
  have hO : ∀ x1 x2 : Int, view_Offset.f (l.length + 9) l x1 x2 = some (offL x1 x2 0 l) := fun x1 x2 => by simpa [view_Offset.f] using off_eq x1 x2 _ rfl l [] (l.length + 9) 0 (by simpa using hx) (by omega) (by omega) (by simp)
  have hA : ∀ x : Int, view_Address.f (l.length + 9) l x = some (addrL (mn (mx x 0) (sumL l)) l) := fun x => by
    have hb := mn_bd x (sumL l) hs.1
    have := hx.1
    unfold view_Address.f
    rw [hW, Option.bind_some]
    simpa using addr_eq l [] (l.length + 9) (mn (mx x 0) (sumL l)) (by simpa using hx) (by omega) (by omega) (by omega)
  obtain ⟨id_, at_, ok, e1⟩ : ∃ a b c, addrL (mn (mx a1 0) (sumL l)) l = (a, b, c) := ⟨_, _, _, rfl⟩
  obtain ⟨n1, yes1, e2⟩ : ∃ a b, offL id_ at_ 0 l = (a, b) := ⟨_, _, rfl⟩
  obtain ⟨n2, ok2, e3⟩ : ∃ a b, offL i0 i1 0 l = (a, b) := ⟨_, _, rfl⟩
  have hbd := mn_bd a1 (sumL l) hs.1
  refine ⟨sumL l, id_, at_, n1, n2, ok, yes1, ok2, hW, by rw [hA, e1], by rw [hO, e2], by rw [hO, e3], ?_, fun ho => ?_, fun ho => ?_, fun ho => ?_⟩
  · cases l with
    | nil => simp only [addrL] at e1; cases e1; rfl
    | cons p r =>
      obtain ⟨a, b', h2⟩ := addr_true (p :: r) (mn (mx a1 0) (sumL (p :: r))) (by simp) hbd.2
      rw [h2] at e1
      cases e1
      simp
  · subst ho
    have := addr_off l _ _ _ 0 hbd.1 hnd e1
    rw [this] at e2
    cases e2
    refine ⟨rfl, ?_⟩
    rw [Int.zero_add]
    rfl
  · subst ho
    exact off_none _ _ _ _ _ e3
  · subst ho
    have hb2 := off_bd _ _ _ _ _ hx.2 e3
    have hne : l ≠ [] := by
      rintro rfl
      simp [offL] at e3
    have hm : mn (mx n2 0) (sumL l) = n2 := by unfold mn mx; split <;> split <;> omega
    obtain ⟨a, b', h2⟩ := addr_true l n2 hne (by omega)
    refine ⟨a, b', by rw [hA, hm, h2], ?_, by omega, by omega⟩
    rw [hO, addr_off l _ _ _ 0 (by omega) hnd h2, Int.zero_add]
end Go.Proofs.Ytlcfhmnjdkhkoaa.Pure
