/- Plain laws: what the document's Right, Count, Byte, Cut, Put and Drop answer of texts that are letters. Conditions: texts of at most 2^40 bytes. -/
import Derived.Test.YtdbdcnpajeflkaaDoorGRopeU10
namespace Go.Proofs.YtdbdcnpajeflkaaDoor.Rope
open Go.RowKit Go.Proofs.YtdbdcnpajeflkaaDoorPl Go.Proofs.YtdbdcnpajeflkaaDoor.PRopeRuns Go.Proofs.YtdbdcnpajeflkaaDoorW.PrintWords Go.Proofs.YtdbdcnpajeflkaaDoorW.PrintLast Go.Proofs.YtdbdcnpajeflkaaDoorW.PrintMore
set_option linter.unusedVariables false
set_option linter.unusedSimpArgs false
theorem nil_iff (s : ByteArray) : s.toList = ([] : List UInt8) ↔ s.size = 0 := by
  rw [toList_nil_iff_emptyBytes]
  constructor
  · intro h; rw [h]; rfl
  · intro h
    apply ByteArray.ext
    exact Array.eq_empty_of_size_eq_zero h
theorem toList_size (s : ByteArray) : s.data.toList.length = s.size := by simp
theorem decode_zero (s : ByteArray) : Utf8.decode s 0 = Lib.decodeL s.data.toList := by rw [← Lib.decodeL_drop, List.drop_zero]
theorem ext_tail (s : ByteArray) (w : Nat) : (s.extract w s.size).data.toList = s.data.toList.drop w := by
  rw [Lib.extract_data]; apply List.take_of_length_le; rw [List.length_drop, toList_size]; omega
theorem valid_bad {l : List UInt8} (hne : l ≠ []) (hb : (Lib.decodeL l).1 = 65533 ∧ (Lib.decodeL l).2 = 1) : Lib.validD l = false := by
  rw [Bool.eq_false_iff]
  intro h
  obtain ⟨cs, h1, rfl⟩ := (validD_iff l).1 h
  cases cs with
  | nil => exact hne rfl
  | cons c r =>
    have hc := h1 c (by simp)
    rw [List.flatten_cons, lett_append hc] at hb
    exact hc.2.2 hb
theorem valid_step {l : List UInt8} (hne : l ≠ []) (hb : ¬ ((Lib.decodeL l).1 = 65533 ∧ (Lib.decodeL l).2 = 1)) : Lib.validD l = Lib.validD (l.drop (Lib.decodeL l).2) := by
  rw [Bool.eq_iff_iff, validD_iff, validD_iff]
  constructor
  · rintro ⟨cs, h1, rfl⟩
    cases cs with
    | nil => exact absurd rfl hne
    | cons c r =>
      have hc := h1 c (by simp)
      refine ⟨r, fun d hd => h1 d (by simp [hd]), ?_⟩
      rw [List.flatten_cons, lett_append hc, hc.1, List.drop_left]
  · rintro ⟨cs, h1, h2⟩
    refine ⟨l.take (Lib.decodeL l).2 :: cs, fun d hd => ?_, ?_⟩
    · rcases List.mem_cons.1 hd with rfl | hd
      · exact (lett_take hne hb).1
      · exact h1 d hd
    · rw [List.flatten_cons, ← h2, List.take_append_drop]
theorem Right_l0 (n : Nat) : ∀ s : ByteArray, s.size ≤ n → s.size ≤ 1099511627776 → Ev (fun k => chancelref01_Right.l0 k s) (Lib.validD s.data.toList) := by
  induction n with
  | zero =>
    intro s hn _
    have h0 : s.toList = ([] : List UInt8) := (nil_iff s).2 (by omega)
    have e : s.data.toList = [] := List.eq_nil_of_length_eq_zero (by rw [toList_size]; omega)
    rw [e]
    exact ev_next (f := fun _ => some true) (fun k => by simp only [chancelref01_Right.l0]; rw [if_pos h0]) (Ev.now _)
  | succ n ih =>
    intro s hn hs
    by_cases h0 : s.size = 0
    · have h1 : s.toList = ([] : List UInt8) := (nil_iff s).2 h0
      have e : s.data.toList = [] := List.eq_nil_of_length_eq_zero (by rw [toList_size]; omega)
      rw [e]
      exact ev_next (f := fun _ => some true) (fun k => by simp only [chancelref01_Right.l0]; rw [if_pos h1]) (Ev.now _)
    · have h1 : ¬ s.toList = ([] : List UInt8) := fun h => h0 ((nil_iff s).1 h)
      have hne : s.data.toList ≠ [] := fun h => h0 (by rw [← toList_size, h]; rfl)
      have hsz := size_ev s (by omega) hs
      have hle := Lib.decodeL_le _ hne
      have hp := Lib.decodeL_width s.data.toList
      rw [toList_size] at hle
      rw [decode_zero] at hsz
      have hi := ih (s.extract (Lib.decodeL s.data.toList).2 s.size) (by rw [ByteArray.size_extract]; omega) (by rw [ByteArray.size_extract]; omega)
      rw [ext_tail] at hi
      refine ev_next (fun k => by simp only [chancelref01_Right.l0]; rw [if_neg h1]) (Ev.bind hsz ?_)
      dsimp only
      by_cases hb : (Lib.decodeL s.data.toList).1 = 65533 ∧ (Lib.decodeL s.data.toList).2 = 1
      · rw [valid_bad hne hb]
        simp only [hb.1, hb.2]
        exact ev_rfl fun k => by simp
      · rw [valid_step hne hb]
        generalize (Lib.decodeL s.data.toList).2 = w at *
        generalize (Lib.decodeL s.data.toList).1 = r at *
        have hw : ((w : Nat) : Int).toNat = w := Int.toNat_natCast w
        by_cases c1 : (w : Int) = 1
        · have c2 : ¬ (r : Int) = 65533 := by omega
          simp only [if_pos c1, if_neg c2, if_pos (show (0 : Int) ≤ (w : Int) by omega), if_pos (show (w : Int) ≤ (s.size : Int) by omega), hw]
          exact hi
        · simp only [if_neg c1, if_pos (show (0 : Int) ≤ (w : Int) by omega), if_pos (show (w : Int) ≤ (s.size : Int) by omega), hw]
          exact hi
theorem Right_ev (s : ByteArray) (hs : s.size ≤ 1099511627776) : Ev (fun k => chancelref01_Right.f k s) (Lib.validD s.data.toList) := Right_l0 _ s (Nat.le_refl _) hs
theorem size_letts {s : ByteArray} {c : List UInt8} {r : List (List UInt8)} (h : s.data.toList = (c :: r).flatten) (hc : Lett c) (hs : s.size ≤ 1099511627776) : 0 < s.size ∧ c.length ≤ s.size ∧ (s.extract c.length s.size).data.toList = r.flatten ∧ ∃ x : Int, Ev (fun k => chancelref01_size.f k s) ((c.length : Int), x) := by
  have hl := congrArg List.length h
  rw [toList_size, List.flatten_cons, List.length_append] at hl
  have hp := hc.pos
  refine ⟨by omega, by omega, by rw [ext_tail, h, List.flatten_cons, List.drop_left], ((Lib.decodeL c).1 : Int), ?_⟩
  have := size_ev s (by omega) hs
  rw [decode_zero, h, List.flatten_cons, lett_append hc, hc.1] at this
  exact this
theorem Letters_l0 : ∀ (cs : List (List UInt8)) (s : ByteArray) (acc : List Int), Letts cs → s.data.toList = cs.flatten → s.size ≤ 1099511627776 → acc.length + cs.length ≤ 1099511627776 →
    ∃ r, Ev (fun k => chancelref01_Letters.l0 k s acc) r ∧ r.length = acc.length + cs.length
  | [], s, acc, _, h, hs, _ => by
    have h1 : s.toList = ([] : List UInt8) := (nil_iff s).2 (by rw [← toList_size, h]; rfl)
    exact ⟨acc, ev_next (f := fun _ => some acc) (fun k => by simp only [chancelref01_Letters.l0]; rw [if_pos h1]) (Ev.now _), by simp⟩
  | c :: r, s, acc, hl, h, hs, hb => by
    obtain ⟨h0, h1, h2, x, hx⟩ := size_letts h (hl c (by simp)) hs
    have h3 : ¬ s.toList = ([] : List UInt8) := fun h => by have := (nil_iff s).1 h; omega
    obtain ⟨q, hq, hq2⟩ := Letters_l0 r (s.extract c.length s.size) (acc ++ [x]) (fun d hd => hl d (by simp [hd])) h2 (by rw [ByteArray.size_extract]; omega) (by simp at *; omega)
    refine ⟨q, ev_next (fun k => by simp only [chancelref01_Letters.l0]; rw [if_neg h3]) (Ev.bind hx ?_), by rw [hq2]; simp; omega⟩
    simp only [List.length_cons] at hb
    simp only [if_pos (show acc.length < 35184372088832 by omega), if_pos (show (0 : Int) ≤ (c.length : Int) by omega), if_pos (show (c.length : Int) ≤ (s.size : Int) by omega), Int.toNat_natCast]
    exact hq
theorem Count_ev {s : ByteArray} {cs : List (List UInt8)} (hl : Letts cs) (h : s.data.toList = cs.flatten) (hs : s.size ≤ 1099511627776) : Ev (fun k => chancelref01_Count.f k s) (cs.length : Int) := by
  have k := letts_le cs hl
  rw [← h, toList_size] at k
  obtain ⟨r, hr, hr2⟩ := Letters_l0 cs s [] hl h hs (by simp; omega)
  unfold chancelref01_Count.f
  refine Ev.bind (g := fun k => chancelref01_Letters.f k s) hr ?_
  rw [hr2]
  simp only [List.length_nil, Nat.zero_add]
  exact Ev.now _
theorem flat_take_le (cs : List (List UInt8)) (j : Nat) : (cs.take j).flatten.length ≤ cs.flatten.length := by rw [flatten_take_drop cs j, List.length_append]; omega
theorem Byte_l0 {s : ByteArray} {cs : List (List UInt8)} (hl : Letts cs) (h : s.data.toList = cs.flatten) (hs : s.size ≤ 1099511627776) (at_ : Int) : ∀ (rest : List (List UInt8)) (j : Nat), rest = cs.drop j → j ≤ at_.toNat → j ≤ cs.length →
    Ev (fun k => chancelref01_Byte.l0 k s at_ ((cs.take j).flatten.length : Int) (j : Int)) ((cs.take at_.toNat).flatten.length : Int)
  | [], j, hr, hj, hjl => by
    have hlen : cs.length = j := by have := congrArg List.length hr; simp at this; omega
    have e1 : cs.take j = cs := List.take_of_length_le (by omega)
    have e2 : cs.take at_.toNat = cs := List.take_of_length_le (by omega)
    have e3 : cs.flatten.length = s.size := by rw [← h, toList_size]
    rw [e1, e2]
    refine ev_next (f := fun _ => some (cs.flatten.length : Int)) (fun k => ?_) (Ev.now _)
    simp only [chancelref01_Byte.l0]
    by_cases c : (j : Int) < at_
    · rw [if_pos c, if_neg (by omega)]
    · rw [if_neg c]
  | c :: r, j, hr, hj, hjl => by
    have hc : Lett c := hl c (by have : c ∈ cs.drop j := by rw [← hr]; simp
                                 exact List.mem_of_mem_drop this)
    have hjlt : j < cs.length := by have := congrArg List.length hr; simp at this; omega
    have e4 : cs.take (j + 1) = cs.take j ++ [c] := by
      rw [List.take_succ_eq_append_getElem hjlt]
      congr 2
      have := List.drop_eq_getElem_cons hjlt
      rw [← hr] at this
      injection this with h1 h2
      exact h1.symm
    have e5 : r = cs.drop (j + 1) := by
      have := List.drop_eq_getElem_cons hjlt
      rw [← hr] at this
      injection this with h1 h2
    have e6 : cs.flatten.length = s.size := by rw [← h, toList_size]
    have e7 := flat_take_le cs (j + 1)
    rw [e4, List.flatten_append, List.length_append] at e7
    have e8 : ([c] : List (List UInt8)).flatten.length = c.length := by simp
    have hcp := hc.pos
    have hll := letts_le cs hl
    by_cases hlt : (j : Int) < at_
    · have hx : (s.extract (cs.take j).flatten.length s.size).data.toList = (c :: r).flatten := by rw [hr]; exact extract_tail h j
      obtain ⟨h0, h1, h2, x, hx⟩ := size_letts hx hc (by rw [ByteArray.size_extract]; omega)
      have ih := Byte_l0 hl h hs at_ r (j + 1) e5 (by omega) (by omega)
      have w1 : wrap64 ((j : Int) + 1) = ((j + 1 : Nat) : Int) := wrap_succ (by omega)
      have w2 : wrap64 (((cs.take j).flatten.length : Int) + (c.length : Int)) = ((cs.take (j + 1)).flatten.length : Int) := by
        rw [e4, List.flatten_append, List.length_append, e8]
        rw [wrap_id (by omega) (by omega)]; omega
      refine ev_next (f := fun k => (chancelref01_size.f k (s.extract (cs.take j).flatten.length s.size)).bind fun bt122 => chancelref01_Byte.l0 k s at_ (wrap64 (((cs.take j).flatten.length : Int) + bt122.1)) ((j + 1 : Nat) : Int)) (fun k => ?_) (Ev.bind hx ?_)
      · simp only [chancelref01_Byte.l0]
        rw [if_pos hlt, if_pos (by omega), if_pos (by omega), if_pos (by omega), Int.toNat_natCast, w1]
      · dsimp only
        rw [w2]
        exact ih
    · have e9 : at_.toNat = j := by omega
      rw [e9]
      refine ev_next (f := fun _ => some ((cs.take j).flatten.length : Int)) (fun k => ?_) (Ev.now _)
      simp only [chancelref01_Byte.l0]
      rw [if_neg hlt]
theorem Byte_ev {s : ByteArray} {cs : List (List UInt8)} (hl : Letts cs) (h : s.data.toList = cs.flatten) (hs : s.size ≤ 1099511627776) (at_ : Int) : Ev (fun k => chancelref01_Byte.f k s at_) ((cs.take at_.toNat).flatten.length : Int) := by
  have := Byte_l0 hl h hs at_ cs 0 (by simp) (Nat.zero_le _) (Nat.zero_le _)
  simpa [chancelref01_Byte.f] using this
theorem take_lt {cs : List (List UInt8)} (hl : Letts cs) {a b : Nat} (h : (cs.take b).flatten.length ≤ (cs.take a).flatten.length) : (cs.take b).drop a = [] := by
  by_cases hab : b ≤ a
  · apply List.drop_eq_nil_of_le; rw [List.length_take]; omega
  · have e : cs.take b = cs.take a ++ (cs.take b).drop a := by
      have h1 := (List.take_append_drop a (cs.take b)).symm
      rw [List.take_take, Nat.min_eq_left (by omega)] at h1
      exact h1
    have k := letts_le ((cs.take b).drop a) (fun d hd => hl d (List.mem_of_mem_take (List.mem_of_mem_drop hd)))
    rw [e, List.flatten_append, List.length_append] at h
    exact List.eq_nil_of_length_eq_zero (by omega)
theorem cut_bytes {s : ByteArray} {cs : List (List UInt8)} (h : s.data.toList = cs.flatten) (a b : Nat) : (s.extract (cs.take a).flatten.length (cs.take b).flatten.length).data.toList = ((cs.take b).drop a).flatten := by
  rw [Lib.extract_data, h]
  by_cases hab : b ≤ a
  · have e : (cs.take b).drop a = [] := by apply List.drop_eq_nil_of_le; rw [List.length_take]; omega
    have e2 : (cs.take b).flatten.length ≤ (cs.take a).flatten.length := by
      have := flat_take_le (cs.take a) b
      rw [List.take_take, Nat.min_eq_left hab] at this; exact this
    rw [e, show (cs.take b).flatten.length - (cs.take a).flatten.length = 0 by omega]; simp
  · have e : cs.take b = cs.take a ++ (cs.take b).drop a := by
      have h1 := (List.take_append_drop a (cs.take b)).symm
      rw [List.take_take, Nat.min_eq_left (by omega)] at h1
      exact h1
    have e2 : cs.flatten = (cs.take a).flatten ++ (((cs.take b).drop a).flatten ++ (cs.drop b).flatten) := by
      rw [← List.append_assoc, ← List.flatten_append, ← e, ← flatten_take_drop]
    have e3 : (cs.take b).flatten.length - (cs.take a).flatten.length = ((cs.take b).drop a).flatten.length := by
      have := congrArg (fun l => l.flatten.length) e
      simp only [List.flatten_append, List.length_append] at this
      omega
    rw [e3, e2, List.drop_left, List.take_left]
theorem Cut_ev {s : ByteArray} {cs : List (List UInt8)} (hl : Letts cs) (h : s.data.toList = cs.flatten) (hs : s.size ≤ 1099511627776) (a b : Int) :
    ∃ r, Ev (fun k => chancelref01_Cut.f k s a b) r ∧ r.data.toList = ((cs.take b.toNat).drop a.toNat).flatten := by
  have e6 : cs.flatten.length = s.size := by rw [← h, toList_size]
  have q1 := flat_take_le cs a.toNat
  have q2 := flat_take_le cs b.toNat
  by_cases c : (cs.take b.toNat).flatten.length ≤ (cs.take a.toNat).flatten.length
  · refine ⟨⟨#[]⟩, Ev.bind (Byte_ev hl h hs a) (Ev.bind (Byte_ev hl h hs b) (ev_rfl fun k => by rw [if_pos (by omega)])), by rw [take_lt hl c]; rfl⟩
  · refine ⟨s.extract (cs.take a.toNat).flatten.length (cs.take b.toNat).flatten.length, Ev.bind (Byte_ev hl h hs a) (Ev.bind (Byte_ev hl h hs b) (ev_rfl fun k => ?_)), cut_bytes h _ _⟩
    rw [if_neg (by omega), if_pos (by omega), if_pos (by omega), if_pos (by omega), Int.toNat_natCast, Int.toNat_natCast]
theorem head_size {s : ByteArray} {cs : List (List UInt8)} (h : s.data.toList = cs.flatten) (a : Nat) : (s.extract 0 (cs.take a).flatten.length).size ≤ s.size ∧ (s.extract (cs.take a).flatten.length s.size).size ≤ s.size := by
  rw [ByteArray.size_extract, ByteArray.size_extract]; omega
theorem Drop_ev {s : ByteArray} {cs : List (List UInt8)} (hl : Letts cs) (h : s.data.toList = cs.flatten) (hs : s.size ≤ 1099511627776) (a b : Int) :
    ∃ r, Ev (fun k => chancelref02_Drop.f k s a b) r ∧ r.data.toList = (if b.toNat ≤ a.toNat then cs else cs.take a.toNat ++ cs.drop b.toNat).flatten := by
  have e6 : cs.flatten.length = s.size := by rw [← h, toList_size]
  have q1 := flat_take_le cs a.toNat
  have q2 := flat_take_le cs b.toNat
  have h1 := head_size h a.toNat
  have h2 := head_size h b.toNat
  by_cases c : (cs.take b.toNat).flatten.length ≤ (cs.take a.toNat).flatten.length
  · refine ⟨s, Ev.bind (Byte_ev hl h hs a) (Ev.bind (Byte_ev hl h hs b) (ev_rfl fun k => by rw [if_pos (by omega)])), ?_⟩
    split
    · exact h
    · have e := take_lt hl c
      rename_i hab
      have e1 : cs.take b.toNat = cs.take a.toNat := by
        have h1 := (List.take_append_drop a.toNat (cs.take b.toNat)).symm
        rw [List.take_take, Nat.min_eq_left (by omega), e, List.append_nil] at h1
        exact h1
      rw [← e1, List.take_append_drop]
      exact h
  · refine ⟨s.extract 0 (cs.take a.toNat).flatten.length ++ s.extract (cs.take b.toNat).flatten.length s.size, Ev.bind (Byte_ev hl h hs a) (Ev.bind (Byte_ev hl h hs b) (ev_rfl fun k => ?_)), ?_⟩
    · rw [if_neg (by omega), if_pos (by omega), if_pos (by omega), if_pos (by omega), if_pos (by omega), Int.toNat_natCast, Int.toNat_natCast, if_pos (by omega)]
    · have hab : ¬ b.toNat ≤ a.toNat := by
        intro hab
        have := flat_take_le (cs.take a.toNat) b.toNat
        rw [List.take_take, Nat.min_eq_left hab] at this
        exact c this
      rw [if_neg hab, List.flatten_append, ← extract_head h a.toNat, ← extract_tail h b.toNat]
      simp
theorem app_data (x y : ByteArray) : (x ++ y).data.toList = x.data.toList ++ y.data.toList := by simp
theorem Put_ev {s t : ByteArray} {cs ds : List (List UInt8)} (hl : Letts cs) (h : s.data.toList = cs.flatten) (hs : s.size ≤ 1099511627776) (ht : t.data.toList = ds.flatten) (hts : t.size ≤ 1099511627776) (a : Int) :
    ∃ r, Ev (fun k => chancelref01_Put.f k s a t) r ∧ r.data.toList = (cs.take a.toNat ++ ds ++ cs.drop a.toNat).flatten := by
  have e6 : cs.flatten.length = s.size := by rw [← h, toList_size]
  have q1 := flat_take_le cs a.toNat
  have h1 := head_size h a.toNat
  have z1 := ByteArray.size_append (a := s.extract 0 (cs.take a.toNat).flatten.length) (b := t)
  refine ⟨s.extract 0 (cs.take a.toNat).flatten.length ++ t ++ s.extract (cs.take a.toNat).flatten.length s.size, Ev.bind (Byte_ev hl h hs a) (ev_rfl fun k => ?_), ?_⟩
  · rw [if_pos (by omega), if_pos (by omega), Int.toNat_natCast, if_pos (by omega), if_pos (by omega)]
  · rw [app_data, app_data, List.flatten_append, List.flatten_append, extract_head h a.toNat, extract_tail h a.toNat, ht]
end Go.Proofs.YtdbdcnpajeflkaaDoor.Rope
