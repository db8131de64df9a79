/- Plain laws on right texts: a text is right just where it is letters one behind the other; how many there are, and where each begins. No condition. -/
import Derived.Test.YtdbdcnpajeflkaaDoorGRope10
import Derived.Lib.MapLaws
namespace Go.Proofs.YtdbdcnpajeflkaaDoor.Rope
open Go.RowKit
set_option linter.unusedVariables false
set_option linter.unusedSimpArgs false
/-- The bytes of one letter. -/
def Lett (c : List UInt8) : Prop := (Lib.decodeL c).2 = c.length ∧ c ≠ [] ∧ ¬ ((Lib.decodeL c).1 = 65533 ∧ (Lib.decodeL c).2 = 1)
def Letts (cs : List (List UInt8)) : Prop := ∀ c ∈ cs, Lett c
theorem getD_app {c t : List UInt8} {i : Nat} (h : i < c.length) : (c ++ t).getD i 0 = c.getD i 0 := by
  simp [List.getD, List.getElem?_append_left h]
theorem getD_tk {c : List UInt8} {i n : Nat} (h : i < n) : (c.take n).getD i 0 = c.getD i 0 := by
  simp [List.getD, List.getElem?_take, h]
/-- A decoding that is right hangs on its own bytes alone. -/
theorem decode_own (l : List UInt8) (n : Nat) (b0 b1 b2 b3 : UInt8) (hne : l ≠ []) (hv : ¬ ((Lib.decodeL l).1 = 65533 ∧ (Lib.decodeL l).2 = 1)) (hn : (Lib.decodeL l).2 ≤ n)
    (h0 : b0 = l.getD 0 0) (h1 : 1 < (Lib.decodeL l).2 → b1 = l.getD 1 0) (h2 : 2 < (Lib.decodeL l).2 → b2 = l.getD 2 0) (h3 : 3 < (Lib.decodeL l).2 → b3 = l.getD 3 0) :
    Lib.decodeN n b0.toNat b1.toNat b2.toNat b3.toNat = Lib.decodeL l := by
  subst h0
  rw [Lib.decodeL_N] at *
  rcases Lib.decodeN_shape l.length (l.getD 0 0).toNat (l.getD 1 0).toNat (l.getD 2 0).toNat (l.getD 3 0).toNat with ⟨c, e⟩ | ⟨c1, c2, c3, cv, e⟩ | ⟨c1, c2, c3, c4, cv, cs, e⟩ | ⟨c1, c2, c3, c4, c5, cv, cw, e⟩ | e
  · rw [e]; unfold Lib.decodeN; rw [if_pos c]
  · rw [e] at hn h1 ⊢
    have e1 := h1 (by show 1 < 2; omega)
    subst e1
    have hn' : 2 ≤ n := hn
    unfold Lib.decodeN
    rw [if_neg (by omega), if_pos ⟨c1, by omega, c3⟩, if_pos cv]
  · rw [e] at hn h1 h2 ⊢
    have e1 := h1 (by show 1 < 3; omega)
    have e2 := h2 (by show 2 < 3; omega)
    subst e1; subst e2
    have hn' : 3 ≤ n := hn
    have k0 := (l.getD 0 0).toNat_lt
    unfold Lib.decodeN
    rw [if_neg (by omega), if_neg (by omega), if_pos ⟨c1, ⟨by omega, c3⟩, by omega, c4⟩, if_pos ⟨cv, by omega⟩]
  · rw [e] at hn h1 h2 h3 ⊢
    have e1 := h1 (by show 1 < 4; omega)
    have e2 := h2 (by show 2 < 4; omega)
    have e3 := h3 (by show 3 < 4; omega)
    subst e1; subst e2; subst e3
    have hn' : 4 ≤ n := hn
    have k0 := (l.getD 0 0).toNat_lt
    unfold Lib.decodeN
    rw [if_neg (by omega), if_neg (by omega), if_neg (by omega), if_pos ⟨c1, ⟨by omega, c3⟩, ⟨by omega, c4⟩, by omega, c5⟩, if_pos ⟨cv, by omega⟩]
  · rw [e] at hv; exact absurd ⟨rfl, rfl⟩ hv
theorem lett_append {c : List UInt8} (h : Lett c) (t : List UInt8) : Lib.decodeL (c ++ t) = Lib.decodeL c := by
  obtain ⟨h1, h2, h3⟩ := h
  have hl : 0 < c.length := List.length_pos_iff.2 h2
  rw [Lib.decodeL_N (c ++ t)]
  refine decode_own c _ _ _ _ _ h2 h3 (by rw [h1, List.length_append]; omega) (getD_app hl) (fun k => getD_app (by omega)) (fun k => getD_app (by omega)) (fun k => getD_app (by omega))
/-- The first letter of bytes that begin with one. -/
theorem lett_take {l : List UInt8} (hne : l ≠ []) (hv : ¬ ((Lib.decodeL l).1 = 65533 ∧ (Lib.decodeL l).2 = 1)) : Lett (l.take (Lib.decodeL l).2) ∧ Lib.decodeL (l.take (Lib.decodeL l).2) = Lib.decodeL l := by
  have hw := Lib.decodeL_le l hne
  have hp := Lib.decodeL_width l
  have hlen : (l.take (Lib.decodeL l).2).length = (Lib.decodeL l).2 := by rw [List.length_take]; omega
  have e : Lib.decodeL (l.take (Lib.decodeL l).2) = Lib.decodeL l := by
    rw [Lib.decodeL_N (l.take _), hlen]
    exact decode_own l _ _ _ _ _ hne hv (Nat.le_refl _) (getD_tk (by omega)) (fun k => getD_tk k) (fun k => getD_tk k) (fun k => getD_tk k)
  refine ⟨⟨by rw [e, hlen], ?_, by rw [e]; exact hv⟩, e⟩
  intro h; rw [h] at hlen; simp at hlen; omega
theorem validGo_letts : ∀ (n : Nat) (l : List UInt8), l.length ≤ n → Lib.validGoD n l = true → ∃ cs, Letts cs ∧ l = cs.flatten
  | 0, l, hn, _ => ⟨[], fun _ h => by simp at h, by simp [List.eq_nil_of_length_eq_zero (Nat.le_zero.1 hn)]⟩
  | n + 1, l, hn, h => by
    by_cases hne : l = []
    · exact ⟨[], fun _ h => by simp at h, by simp [hne]⟩
    · rw [Lib.validGoD, if_neg hne] at h
      by_cases hb : (Lib.decodeL l).1 = 65533 ∧ (Lib.decodeL l).2 = 1
      · rw [if_pos hb] at h; cases h
      · rw [if_neg hb] at h
        have hw := Lib.decodeL_le l hne
        have hp := Lib.decodeL_width l
        obtain ⟨cs, h1, h2⟩ := validGo_letts n (l.drop (Lib.decodeL l).2) (by rw [List.length_drop]; omega) h
        refine ⟨l.take (Lib.decodeL l).2 :: cs, fun c hc => ?_, ?_⟩
        · rcases List.mem_cons.1 hc with rfl | hc
          · exact (lett_take hne hb).1
          · exact h1 c hc
        · rw [List.flatten_cons, ← h2, List.take_append_drop]
theorem Lett.pos {c : List UInt8} (h : Lett c) : 0 < c.length := List.length_pos_iff.2 h.2.1
theorem Lett.le {c : List UInt8} (h : Lett c) : c.length ≤ 4 := by
  rw [← h.1, Lib.decodeL_N]
  rcases Lib.decodeN_shape c.length (c.getD 0 0).toNat (c.getD 1 0).toNat (c.getD 2 0).toNat (c.getD 3 0).toNat with ⟨_, e⟩ | ⟨_, _, _, _, e⟩ | ⟨_, _, _, _, _, _, e⟩ | ⟨_, _, _, _, _, _, _, e⟩ | e <;> rw [e] <;> simp
theorem letts_validGo : ∀ (n : Nat) (cs : List (List UInt8)), Letts cs → cs.flatten.length ≤ n → Lib.validGoD n cs.flatten = true
  | 0, _, _, _ => rfl
  | n + 1, [], _, _ => by simp [Lib.validGoD]
  | n + 1, c :: r, h, hn => by
    have hc := h c (by simp)
    have hp := hc.pos
    rw [List.flatten_cons] at *
    rw [Lib.validGoD, if_neg (by intro e; rw [List.append_eq_nil_iff] at e; exact hc.2.1 e.1), lett_append hc, if_neg hc.2.2, hc.1, List.drop_left]
    exact letts_validGo n r (fun d hd => h d (by simp [hd])) (by rw [List.length_append] at hn; omega)
theorem validD_iff (l : List UInt8) : Lib.validD l = true ↔ ∃ cs, Letts cs ∧ l = cs.flatten :=
  ⟨fun h => validGo_letts _ l (Nat.le_refl _) h, fun ⟨cs, h, e⟩ => by rw [e]; exact letts_validGo _ cs h (Nat.le_refl _)⟩
/-! what stands at a place -/
theorem decode_at_letts {s : ByteArray} {pos : Nat} {c : List UInt8} {r : List (List UInt8)} (h : s.data.toList.drop pos = (c :: r).flatten) (hc : Lett c) : (Utf8.decode s pos).2 = c.length ∧ Utf8.decode s pos = Lib.decodeL c := by
  rw [← Lib.decodeL_drop, h, List.flatten_cons, lett_append hc]
  exact ⟨hc.1, rfl⟩
theorem drop_letts {s : ByteArray} {pos : Nat} {c : List UInt8} {r : List (List UInt8)} (h : s.data.toList.drop pos = (c :: r).flatten) : s.data.toList.drop (pos + c.length) = r.flatten := by
  rw [← List.drop_drop, h, List.flatten_cons, List.drop_left]
theorem pos_lt {s : ByteArray} {pos : Nat} {c : List UInt8} {r : List (List UInt8)} (h : s.data.toList.drop pos = (c :: r).flatten) (hc : Lett c) : pos < s.size := by
  have := congrArg List.length h
  rw [List.length_drop, List.flatten_cons, List.length_append] at this
  have := hc.pos
  have e : s.data.toList.length = s.size := by simp
  omega
theorem pos_end {s : ByteArray} {pos : Nat} (h : s.data.toList.drop pos = ([] : List (List UInt8)).flatten) : ¬ pos < s.size := by
  have := congrArg List.length h
  rw [List.length_drop] at this
  have e : s.data.toList.length = s.size := by simp
  simp at this
  omega
theorem count_letts (s : ByteArray) : ∀ (cs : List (List UInt8)) (f pos : Nat), Letts cs → s.data.toList.drop pos = cs.flatten → cs.length ≤ f → Lib.runeCountFrom s f pos = cs.length
  | [], f, pos, _, h, _ => Lib.runeCountFrom_end s f pos (pos_end h)
  | c :: r, 0, pos, _, _, hf => by simp at hf
  | c :: r, f + 1, pos, hl, h, hf => by
    have hc := hl c (by simp)
    rw [Lib.runeCountFrom, if_pos (pos_lt h hc), (decode_at_letts h hc).1, count_letts s r f _ (fun d hd => hl d (by simp [hd])) (drop_letts h) (by simpa using hf)]
    simp; omega
theorem letts_le : ∀ cs : List (List UInt8), Letts cs → cs.length ≤ cs.flatten.length
  | [], _ => Nat.le_refl _
  | c :: r, h => by
    have := letts_le r (fun d hd => h d (by simp [hd]))
    have := (h c (by simp)).pos
    rw [List.flatten_cons, List.length_append, List.length_cons]; omega
theorem runeCount_letts {s : ByteArray} {cs : List (List UInt8)} (hl : Letts cs) (h : s.data.toList = cs.flatten) : Lib.runeCount s = cs.length := by
  have e : s.data.toList.length = s.size := by simp
  have k := letts_le cs hl
  rw [← h, e] at k
  exact count_letts s cs s.size 0 hl (by simpa using h) k
theorem byte_letts (s : ByteArray) : ∀ (cs : List (List UInt8)) (f k pos : Nat), Letts cs → s.data.toList.drop pos = cs.flatten → pos ≤ s.size → cs.length ≤ f → byteFrom s f k pos = pos + (cs.take k).flatten.length
  | [], f, k, pos, _, h, hp, _ => by
    have := pos_end h
    have e : byteFrom s f k pos = s.size := by cases f <;> simp [byteFrom, this]
    rw [e]; simp; omega
  | c :: r, 0, k, pos, _, _, _, hf => by simp at hf
  | c :: r, f + 1, k, pos, hl, h, hp, hf => by
    have hc := hl c (by simp)
    have hlt := pos_lt h hc
    rw [byteFrom, if_pos hlt]
    cases k with
    | zero => simp
    | succ k =>
      have hle : pos + c.length ≤ s.size := by
        have := congrArg List.length h
        rw [List.length_drop, List.flatten_cons, List.length_append] at this
        have e : s.data.toList.length = s.size := by simp
        omega
      rw [if_neg (by omega), (decode_at_letts h hc).1, Nat.add_sub_cancel, byte_letts s r f k _ (fun d hd => hl d (by simp [hd])) (drop_letts h) hle (by simpa using hf)]
      rw [List.take_succ_cons, List.flatten_cons, List.length_append]; omega
theorem byteAt_letts {s : ByteArray} {cs : List (List UInt8)} (hl : Letts cs) (h : s.data.toList = cs.flatten) (a : Int) : byteAt s a = (cs.take a.toNat).flatten.length := by
  unfold byteAt
  split
  · rename_i h0
    have : a.toNat = 0 := by omega
    rw [this]; simp
  · have e : s.data.toList.length = s.size := by simp
    have k := letts_le cs hl
    rw [← h, e] at k
    rw [byte_letts s cs s.size a.toNat 0 hl (by simpa using h) (Nat.zero_le _) k, Nat.zero_add]
theorem flatten_take_drop (cs : List (List UInt8)) (k : Nat) : cs.flatten = (cs.take k).flatten ++ (cs.drop k).flatten := by
  rw [← List.flatten_append, List.take_append_drop]
theorem extract_head {s : ByteArray} {cs : List (List UInt8)} (h : s.data.toList = cs.flatten) (k : Nat) : (s.extract 0 (cs.take k).flatten.length).data.toList = (cs.take k).flatten := by
  rw [Lib.extract_data, h, List.drop_zero, Nat.sub_zero]
  rw [flatten_take_drop cs k, List.take_left]
theorem extract_tail {s : ByteArray} {cs : List (List UInt8)} (h : s.data.toList = cs.flatten) (k : Nat) : (s.extract (cs.take k).flatten.length s.size).data.toList = (cs.drop k).flatten := by
  have e : s.data.toList.length = s.size := by simp
  rw [Lib.extract_data, h]
  rw [flatten_take_drop cs k, List.drop_left]
  apply List.take_of_length_le
  rw [← e, h, flatten_take_drop cs k, List.length_append]
  omega
end Go.Proofs.YtdbdcnpajeflkaaDoor.Rope
