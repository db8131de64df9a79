/- Plain laws on ropes: what is made of them has the letters that it should have, in a tree as it may be. No condition. -/
import Derived.Test.YtdbdcnpajeflkaaDoorGRopeU8
namespace Go.Proofs.YtdbdcnpajeflkaaDoor.Rope
open Go.RowKit Go.Proofs.YtdbdcnpajeflkaaDoorW.PrintWords Go.Proofs.YtdbdcnpajeflkaaDoorW.PrintLast Go.Proofs.YtdbdcnpajeflkaaDoorW.PrintMore
set_option linter.unusedVariables false
set_option linter.unusedSimpArgs false
/-- A rope as it may be, of these letters. -/
def Good : T → List (List UInt8) → Prop
  | .leaf s, cs => s.data.toList = cs.flatten ∧ Letts cs ∧ 0 < s.size ∧ s.size ≤ 64
  | .node l r, cs => ∃ c1 c2, cs = c1 ++ c2 ∧ Good l c1 ∧ Good r c2 ∧ l.h ≤ r.h + 1 ∧ r.h ≤ l.h + 1
def GoodO : Option T → List (List UInt8) → Prop
  | none, cs => cs = []
  | some t, cs => Good t cs
theorem Good.ne : ∀ {t : T} {cs : List (List UInt8)}, Good t cs → t.Ne
  | .leaf s, cs, h => h.2.2.1
  | .node l r, cs, ⟨c1, c2, _, h1, h2, _, _⟩ => ⟨h1.ne, h2.ne⟩
theorem GoodO.ne {t : Option T} {cs : List (List UInt8)} (h : GoodO t cs) : NeO t := by
  cases t with
  | none => trivial
  | some t => exact Good.ne (t := t) h
theorem Good.letts : ∀ {t : T} {cs : List (List UInt8)}, Good t cs → Letts cs
  | .leaf s, cs, h => h.2.1
  | .node l r, cs, ⟨c1, c2, e, h1, h2, _, _⟩ => fun c hc => by
    rw [e] at hc
    rcases List.mem_append.1 hc with hc | hc
    · exact h1.letts c hc
    · exact h2.letts c hc
theorem GoodO.letts {t : Option T} {cs : List (List UInt8)} (h : GoodO t cs) : Letts cs := by
  cases t with
  | none => have : cs = [] := h; subst this; intro c hc; simp at hc
  | some t => exact Good.letts (t := t) h
theorem Good.runes : ∀ {t : T} {cs : List (List UInt8)}, Good t cs → t.runes = cs.length
  | .leaf s, cs, h => runeCount_letts h.2.1 h.1
  | .node l r, cs, ⟨c1, c2, e, h1, h2, _, _⟩ => by rw [e, List.length_append, ← h1.runes, ← h2.runes]; rfl
theorem GoodO.runes {t : Option T} {cs : List (List UInt8)} (h : GoodO t cs) : runesO t = cs.length := by
  cases t with
  | none => have : cs = [] := h; subst this; rfl
  | some t => exact Good.runes (t := t) h
theorem Good.text : ∀ {t : T} {cs : List (List UInt8)}, Good t cs → (t.parts.map (·.data.toList)).flatten = cs.flatten
  | .leaf s, cs, h => by simp [T.parts, h.1]
  | .node l r, cs, ⟨c1, c2, e, h1, h2, _, _⟩ => by rw [e, List.flatten_append, ← h1.text, ← h2.text]; simp [T.parts]
theorem GoodO.text {t : Option T} {cs : List (List UInt8)} (h : GoodO t cs) : textL t = cs.flatten := by
  cases t with
  | none => have : cs = [] := h; subst this; rfl
  | some t => exact Good.text (t := t) h
/-- two, of heights that differ by 1 at most. -/
theorem two_h (left : Bool) (a b : T) : (two left a b).h = max a.h b.h + 1 := by cases left <;> simp [two, T.h, Nat.max_comm]
def cat (left : Bool) (a b : List (List UInt8)) : List (List UInt8) := if left then b ++ a else a ++ b
theorem two_good {left : Bool} {a b : T} {ca cb : List (List UInt8)} (ha : Good a ca) (hb : Good b cb) (h1 : a.h ≤ b.h + 1) (h2 : b.h ≤ a.h + 1) : Good (two left a b) (cat left ca cb) := by
  cases left
  · exact ⟨ca, cb, rfl, ha, hb, h1, h2⟩
  · exact ⟨cb, ca, rfl, hb, ha, h2, h1⟩
theorem two_inv {left : Bool} {a b : T} {c : List (List UInt8)} (h : Good (two left a b) c) : ∃ ca cb, c = cat left ca cb ∧ Good a ca ∧ Good b cb ∧ a.h ≤ b.h + 1 ∧ b.h ≤ a.h + 1 := by
  cases left
  · obtain ⟨c1, c2, e, h1, h2, h3, h4⟩ := h; exact ⟨c1, c2, e, h1, h2, h3, h4⟩
  · obtain ⟨c1, c2, e, h1, h2, h3, h4⟩ := h; exact ⟨c2, c1, e, h2, h1, h4, h3⟩
theorem cat_assoc (left : Bool) (a b c : List (List UInt8)) : cat left (cat left a b) c = cat left a (cat left b c) := by cases left <;> simp [cat]
/-- A side s that stays, and t, that is as high as the side r was, or 1 higher (r: 1 higher or lower than s at most). -/
theorem fix_good {s t : T} {left : Bool} {cs ct : List (List UInt8)} {r : Nat} (hs : Good s cs) (ht : Good t ct) (h1 : s.h ≤ r + 1) (h2 : r ≤ s.h + 1) (h3 : r ≤ t.h) (h4 : t.h ≤ r + 1) :
    Good (fix s t left) (cat left cs ct) ∧ max s.h r + 1 ≤ (fix s t left).h ∧ (fix s t left).h ≤ max s.h r + 2 := by
  rcases fix_cases s t left with ⟨h5, e⟩ | ⟨n, f, rfl, h5, h6, e⟩ | ⟨n, o, f, rfl, h5, h6, e⟩ <;> rw [e]
  · exact ⟨two_good hs ht (by omega) (by omega), by rw [two_h]; omega, by rw [two_h]; omega⟩
  · obtain ⟨cn, cf, rfl, hn, hf, k1, k2⟩ := two_inv ht
    rw [two_h] at h3 h4 h5
    rw [← cat_assoc]
    have hx := two_h left s n
    exact ⟨two_good (two_good hs hn (by omega) (by omega)) hf (by omega) (by omega), by rw [two_h]; omega, by rw [two_h]; omega⟩
  · obtain ⟨cn, cf, rfl, hn, hf, k1, k2⟩ := two_inv ht
    obtain ⟨ci, co, rfl, hi, ho, k3, k4⟩ := two_inv hn
    rw [two_h, two_h] at h3 h4 h5
    rw [two_h] at h6 k1 k2
    have hx := two_h left s n
    have hy := two_h left o f
    rw [cat_assoc, ← cat_assoc]
    exact ⟨two_good (two_good hs hi (by omega) (by omega)) (two_good ho hf (by omega) (by omega)) (by omega) (by omega), by rw [two_h]; omega, by rw [two_h]; omega⟩
theorem leaf_of_h {t : T} (h : t.h = 0) : ∃ s, t = .leaf s := by
  cases t with
  | leaf s => exact ⟨s, rfl⟩
  | node l r => simp [T.h] at h
theorem join_good (n : Nat) : ∀ (a b : T) (ca cb : List (List UInt8)), a.h + b.h ≤ n → Good a ca → Good b cb → Good (join a b) (ca ++ cb) ∧ max a.h b.h ≤ (join a b).h ∧ (join a b).h ≤ max a.h b.h + 1 := by
  induction n with
  | zero =>
    intro a b ca cb hn ha hb
    obtain ⟨x, rfl⟩ := leaf_of_h (t := a) (by omega)
    obtain ⟨y, rfl⟩ := leaf_of_h (t := b) (by omega)
    rw [join.eq_def, if_neg (by omega), if_neg (by omega)]
    split
    · rename_i h0
      simp only [T.bytes] at h0
      refine ⟨⟨?_, fun c hc => ?_, ?_, ?_⟩, by simp [T.h], by simp [T.h]⟩
      · simp only [T.text]; rw [List.flatten_append, ← ha.1, ← hb.1]; simp
      · rcases List.mem_append.1 hc with hc | hc
        · exact ha.2.1 c hc
        · exact hb.2.1 c hc
      · simp only [T.text, ByteArray.size_append]; have := ha.2.2.1; omega
      · simp only [T.text, ByteArray.size_append]; omega
    · exact ⟨⟨ca, cb, rfl, ha, hb, by simp [T.h], by simp [T.h]⟩, by simp [T.h], by simp [T.h]⟩
  | succ n ih =>
    intro a b ca cb hn ha hb
    rw [join.eq_def]
    split
    · rename_i h1
      cases a with
      | leaf x => simp [T.h] at h1
      | node al ar =>
        have hh : (T.node al ar).h = max al.h ar.h + 1 := rfl
        obtain ⟨c1, c2, rfl, g1, g2, k1, k2⟩ := ha
        obtain ⟨j1, j2, j3⟩ := ih ar b c2 cb (by omega) g2 hb
        have := fix_good (left := false) (r := ar.h) g1 j1 (by omega) (by omega) (by omega) (by omega)
        refine ⟨by rw [List.append_assoc]; exact this.1, ?_, ?_⟩
        · show max (T.node al ar).h b.h ≤ (fix al (join ar b) false).h; omega
        · show (fix al (join ar b) false).h ≤ max (T.node al ar).h b.h + 1; omega
    · rename_i h1
      split
      · rename_i h2
        cases b with
        | leaf x => simp [T.h] at h2
        | node bl br =>
          have hh : (T.node bl br).h = max bl.h br.h + 1 := rfl
          obtain ⟨c1, c2, rfl, g1, g2, k1, k2⟩ := hb
          obtain ⟨j1, j2, j3⟩ := ih a bl ca c1 (by omega) ha g1
          have := fix_good (left := true) (r := bl.h) g2 j1 (by omega) (by omega) (by omega) (by omega)
          refine ⟨by rw [← List.append_assoc]; exact this.1, ?_, ?_⟩
          · show max a.h (T.node bl br).h ≤ (fix br (join a bl) true).h; omega
          · show (fix br (join a bl) true).h ≤ max a.h (T.node bl br).h + 1; omega
      · rename_i h2
        split
        · rename_i h0
          obtain ⟨x, rfl⟩ := leaf_of_h h0.1
          obtain ⟨y, rfl⟩ := leaf_of_h h0.2.1
          simp only [T.bytes] at h0
          refine ⟨⟨?_, fun c hc => ?_, ?_, ?_⟩, by simp [T.h], by simp [T.h]⟩
          · simp only [T.text]; rw [List.flatten_append, ← ha.1, ← hb.1]; simp
          · rcases List.mem_append.1 hc with hc | hc
            · exact ha.2.1 c hc
            · exact hb.2.1 c hc
          · simp only [T.text, ByteArray.size_append]; have := ha.2.2.1; omega
          · simp only [T.text, ByteArray.size_append]; omega
        · exact ⟨⟨ca, cb, rfl, ha, hb, by omega, by omega⟩, by simp only [T.h]; omega, by simp only [T.h]; omega⟩
theorem joinO_good {a b : Option T} {ca cb : List (List UInt8)} (ha : GoodO a ca) (hb : GoodO b cb) : GoodO (joinO a b) (ca ++ cb) := by
  cases a with
  | none => have : ca = [] := ha; subst this; exact hb
  | some a =>
    cases b with
    | none => have : cb = [] := hb; subst this; rw [List.append_nil]; exact ha
    | some b => exact (join_good _ a b ca cb (Nat.le_refl _) ha hb).1
theorem mem_take' {α : Type} {l : List α} {k : Nat} {x : α} (h : x ∈ l.take k) : x ∈ l := List.mem_of_mem_take h
theorem split_good : ∀ (t : T) (cs : List (List UInt8)) (a : Int), Good t cs → GoodO (splitT t a).1 (cs.take a.toNat) ∧ GoodO (splitT t a).2 (cs.drop a.toNat)
  | .leaf s, cs, a, h => by
    have hr := Good.runes (t := .leaf s) h
    have hr' : Lib.runeCount s = cs.length := hr
    unfold splitT
    by_cases h0 : a ≤ 0
    · rw [if_pos h0]
      have : a.toNat = 0 := by omega
      rw [this]; exact ⟨rfl, h⟩
    · by_cases h1 : (Lib.runeCount s : Int) ≤ a
      · rw [if_neg h0, if_pos h1, List.take_of_length_le (by omega), List.drop_eq_nil_of_le (by omega)]
        exact ⟨h, rfl⟩
      · rw [if_neg h0, if_neg h1]
        have bm := byteAt_mid h0 h1
        obtain ⟨h2, h3, h4, h5⟩ := h
        have eb := byteAt_letts h3 h2 a
        refine ⟨⟨?_, fun c hc => h3 c (List.mem_of_mem_take hc), ?_, ?_⟩, ⟨?_, fun c hc => h3 c (List.mem_of_mem_drop hc), ?_, ?_⟩⟩
        · rw [eb]; exact extract_head h2 _
        · rw [ByteArray.size_extract]; omega
        · rw [ByteArray.size_extract]; omega
        · rw [eb]; exact extract_tail h2 _
        · rw [ByteArray.size_extract]; omega
        · rw [ByteArray.size_extract]; omega
  | .node l r, cs, a, h => by
    have hr := Good.runes (t := .node l r) h
    unfold splitT
    by_cases h0 : a ≤ 0
    · rw [if_pos h0]
      have : a.toNat = 0 := by omega
      rw [this]; exact ⟨rfl, h⟩
    · by_cases h1 : ((T.node l r).runes : Int) ≤ a
      · rw [if_neg h0, if_pos h1, List.take_of_length_le (by omega), List.drop_eq_nil_of_le (by omega)]
        exact ⟨h, rfl⟩
      · rw [if_neg h0, if_neg h1]
        obtain ⟨c1, c2, rfl, g1, g2, k1, k2⟩ := h
        have rl := Good.runes g1
        by_cases h2 : a < (l.runes : Int)
        · rw [if_pos h2]
          obtain ⟨s1, s2⟩ := split_good l c1 a g1
          refine ⟨?_, ?_⟩
          · show GoodO (splitT l a).1 _
            rw [List.take_append_of_le_length (by omega)]; exact s1
          · show GoodO (joinO (splitT l a).2 (some r)) _
            rw [List.drop_append_of_le_length (by omega)]; exact joinO_good s2 g2
        · rw [if_neg h2]
          obtain ⟨s1, s2⟩ := split_good r c2 (a - (l.runes : Int)) g2
          have e : a.toNat = c1.length + (a - (l.runes : Int)).toNat := by omega
          refine ⟨?_, ?_⟩
          · show GoodO (joinO (some l) (splitT r (a - (l.runes : Int))).1) _
            rw [e, List.take_append, List.take_of_length_le (by omega), Nat.add_sub_cancel_left]; exact joinO_good (a := some l) g1 s1
          · show GoodO (splitT r (a - (l.runes : Int))).2 _
            rw [e, List.drop_append, List.drop_eq_nil_of_le (by omega), List.nil_append, Nat.add_sub_cancel_left]; exact s2
theorem splitO_good {t : Option T} {cs : List (List UInt8)} (h : GoodO t cs) (a : Int) : GoodO (splitO t a).1 (cs.take a.toNat) ∧ GoodO (splitO t a).2 (cs.drop a.toNat) := by
  cases t with
  | none => have : cs = [] := h; subst this; simp [splitO, GoodO]
  | some t => exact split_good t cs a h
theorem putO_good {t x : Option T} {cs xs : List (List UInt8)} (h : GoodO t cs) (hx : GoodO x xs) (a : Int) : GoodO (putO t a x) (cs.take a.toNat ++ xs ++ cs.drop a.toNat) :=
  joinO_good (joinO_good (splitO_good h a).1 hx) (splitO_good h a).2
theorem mx0 (a : Int) : (mx a 0).toNat = a.toNat ∧ 0 ≤ mx a 0 ∧ (mx a 0 = a ∨ (a < 0 ∧ mx a 0 = 0)) := by unfold mx; split <;> omega
theorem cutO_good {t : Option T} {cs : List (List UInt8)} (h : GoodO t cs) (a b : Int) : GoodO (cutO t a b) ((cs.take b.toNat).drop a.toNat) := by
  unfold cutO
  obtain ⟨m1, m2, m3⟩ := mx0 a
  split
  · have : (cs.take b.toNat).drop a.toNat = [] := by apply List.drop_eq_nil_of_le; rw [List.length_take]; omega
    rw [this]; rfl
  · have := (splitO_good (splitO_good h b).1 (mx a 0)).2
    rw [m1] at this; exact this
theorem dropO_good {t : Option T} {cs : List (List UInt8)} (h : GoodO t cs) (a b : Int) : GoodO (dropO t a b) (if b.toNat ≤ a.toNat then cs else cs.take a.toNat ++ cs.drop b.toNat) := by
  unfold dropO
  obtain ⟨m1, m2, m3⟩ := mx0 a
  by_cases c : b ≤ mx a 0
  · rw [if_pos c, if_pos (by omega)]; exact h
  · rw [if_neg c, if_neg (by omega)]
    have := joinO_good (splitO_good h (mx a 0)).1 (splitO_good h b).2
    rw [m1] at this; exact this
/-! the parts of a new rope -/
def GoodsL : List T → List (List UInt8) → Prop
  | [], cs => cs = []
  | t :: r, cs => ∃ c1 c2, cs = c1 ++ c2 ∧ Good t c1 ∧ GoodsL r c2
theorem GoodsL.snoc : ∀ {ts : List T} {cs : List (List UInt8)} {t : T} {c : List (List UInt8)}, GoodsL ts cs → Good t c → GoodsL (ts ++ [t]) (cs ++ c)
  | [], cs, t, c, h, ht => by have : cs = [] := h; subst this; exact ⟨c, [], by simp, ht, rfl⟩
  | x :: r, cs, t, c, ⟨c1, c2, e, hx, hr⟩, ht => ⟨c1, c2 ++ c, by rw [e, List.append_assoc], hx, hr.snoc ht⟩
theorem GoodsL.split : ∀ {ts : List T} {cs : List (List UInt8)} (k : Nat), GoodsL ts cs → ∃ c1 c2, cs = c1 ++ c2 ∧ GoodsL (ts.take k) c1 ∧ GoodsL (ts.drop k) c2
  | ts, cs, 0, h => ⟨[], cs, rfl, rfl, h⟩
  | [], cs, k + 1, h => ⟨[], cs, rfl, rfl, h⟩
  | t :: r, cs, k + 1, ⟨c1, c2, e, ht, hr⟩ => by
    obtain ⟨d1, d2, e2, h1, h2⟩ := hr.split k
    exact ⟨c1 ++ d1, d2, by rw [e, e2, List.append_assoc], ⟨c1, d1, rfl, ht, h1⟩, h2⟩
theorem GoodsL.ne : ∀ {ts : List T} {cs : List (List UInt8)}, GoodsL ts cs → AllNe ts
  | [], _, _ => fun _ h => by simp at h
  | t :: r, _, ⟨c1, c2, _, ht, hr⟩ => fun x hx => by
    rcases List.mem_cons.1 hx with rfl | hx
    · exact ht.ne
    · exact hr.ne x hx
theorem Good.bytes {t : T} {cs : List (List UInt8)} (h : Good t cs) : t.bytes = cs.flatten.length := by rw [← h.text, T.text_length]
theorem GoodO.bytes {t : Option T} {cs : List (List UInt8)} (h : GoodO t cs) : bytesO t = cs.flatten.length := by rw [← h.text, textL_length]
theorem GoodsL.sum : ∀ {ts : List T} {cs : List (List UInt8)}, GoodsL ts cs → sumB ts = cs.flatten.length
  | [], cs, h => by have : cs = [] := h; subst this; rfl
  | t :: r, cs, ⟨c1, c2, e, ht, hr⟩ => by
    have := hr.sum
    rw [e, List.flatten_append, List.length_append, ← this, ← ht.bytes]
    simp [sumB]
theorem build_good (n : Nat) : ∀ (ts : List T) (cs : List (List UInt8)), ts.length ≤ n → GoodsL ts cs → GoodO (buildL ts) cs := by
  induction n with
  | zero =>
    intro ts cs hn h
    have : ts = [] := List.eq_nil_of_length_eq_zero (by omega)
    subst this
    rw [buildL, dif_pos (by simp)]
    exact h
  | succ n ih =>
    intro ts cs hn h
    rw [buildL]
    split
    · cases ts with
      | nil => exact h
      | cons t r =>
        have : r = [] := List.eq_nil_of_length_eq_zero (by simp at *; omega)
        subst this
        obtain ⟨c1, c2, e, ht, hr⟩ := h
        have : c2 = [] := hr
        subst this
        rw [e, List.append_nil]
        exact ht
    · obtain ⟨c1, c2, e, h1, h2⟩ := h.split (ts.length / 2)
      rw [e]
      exact joinO_good (ih _ _ (by rw [List.length_take]; omega) h1) (ih _ _ (by rw [List.length_drop]; omega) h2)
theorem encode_size (r : Nat) (hr : r < 55296 ∨ (57344 ≤ r ∧ r ≤ 1114111)) : (Utf8.encode (r : Int)).size = if r < 128 then 1 else if r < 2048 then 2 else if r < 65536 then 3 else 4 := by
  have hv : Utf8.valid (r : Int) = true := by unfold Utf8.valid; simp; omega
  unfold Utf8.encode
  rw [hv]
  simp only [if_true, Int.toNat_natCast]
  repeat' split
  all_goals rfl
theorem encode_lett {c : List UInt8} (h : Lett c) : (Utf8.encode ((Lib.decodeL c).1 : Int)).size = c.length := by
  obtain ⟨h1, h2, h3⟩ := h
  rw [← h1]
  rw [Lib.decodeL_N] at *
  rcases Lib.decodeN_shape c.length (c.getD 0 0).toNat (c.getD 1 0).toNat (c.getD 2 0).toNat (c.getD 3 0).toNat with ⟨c, e⟩ | ⟨c1, c2, c3, cv, e⟩ | ⟨c1, c2, c3, c4, cv, cs, e⟩ | ⟨c1, c2, c3, c4, c5, cv, cw, e⟩ | e
  · rw [e, encode_size _ (by omega), if_pos c]
  · rw [e, encode_size _ (by omega), if_neg (by omega), if_pos (by omega)]
  · rw [e, encode_size _ (by omega), if_neg (by omega), if_neg (by omega), if_pos (by omega)]
  · rw [e, encode_size _ (by omega), if_neg (by omega), if_neg (by omega), if_neg (by omega)]
  · rw [e] at h3; exact absurd ⟨rfl, rfl⟩ h3
/-- The state of New's loop: a part of some letters is open. -/
theorem newGo_good (s : ByteArray) : ∀ (cs : List (List UInt8)) (f pos frm : Nat) (ts : List T) (done opn : List (List UInt8)), Letts cs → s.data.toList.drop pos = cs.flatten → cs.length ≤ f → frm ≤ pos → pos ≤ s.size →
    GoodsL ts done → Letts opn → (s.extract frm pos).data.toList = opn.flatten → pos - frm ≤ 64 →
    ∃ d2 o2, done ++ opn ++ cs = d2 ++ o2 ∧ GoodsL (newGo s f pos frm ts).1 d2 ∧ Letts o2 ∧ (newGo s f pos frm ts).2 ≤ s.size ∧ (s.extract (newGo s f pos frm ts).2 s.size).data.toList = o2.flatten ∧ s.size - (newGo s f pos frm ts).2 ≤ 64
  | [], f, pos, frm, ts, done, opn, _, h, _, h1, h2, h3, h4, h5, h6 => by
    have hp := pos_end h
    have e : newGo s f pos frm ts = (ts, frm) := by cases f <;> simp [newGo, hp]
    have ep : pos = s.size := by omega
    subst ep
    rw [e]
    exact ⟨done, opn, by simp, h3, h4, h1, h5, h6⟩
  | c :: r, 0, pos, frm, ts, done, opn, _, _, hf, _, _, _, _, _, _ => by simp at hf
  | c :: r, f + 1, pos, frm, ts, done, opn, hl, h, hf, h1, h2, h3, h4, h5, h6 => by
    have hc := hl c (by simp)
    have hlt := pos_lt h hc
    have hd := decode_at_letts h hc
    have hle : pos + c.length ≤ s.size := by
      have := congrArg List.length h
      rw [List.length_drop, List.flatten_cons, List.length_append] at this
      have e : s.data.toList.length = s.size := by simp
      omega
    have hen : encLen s pos = c.length := by unfold encLen; rw [hd.2]; exact encode_lett hc
    have hcut : ∀ q, q ≤ pos → (s.extract q (pos + c.length)).data.toList = (s.extract q pos).data.toList ++ c := by
      intro q hq
      rw [Lib.extract_data, Lib.extract_data]
      have e1 : pos + c.length - q = (pos - q) + c.length := by omega
      rw [e1, List.take_add, List.drop_drop, show q + (pos - q) = pos by omega, h, List.flatten_cons, List.take_left]
    have hlr : Letts r := fun d hd => hl d (by simp [hd])
    have hself : (s.extract pos (pos + c.length)).data.toList = c := by
      rw [hcut pos (Nat.le_refl _), Lib.extract_data]; simp
    rw [newGo, if_pos hlt, hd.1, hen]
    split
    · rename_i hflush
      have hlen : (s.extract frm pos).size = pos - frm := by rw [ByteArray.size_extract]; omega
      have hg : Good (.leaf (s.extract frm pos)) opn := ⟨h5, h4, by have := hc.le; omega, by omega⟩
      obtain ⟨d2, o2, e, g1, g2, g3, g4, g5⟩ := newGo_good s r f (pos + c.length) pos (ts ++ [.leaf (s.extract frm pos)]) (done ++ opn) [c] hlr (drop_letts h) (by simpa using hf) (by omega) hle (h3.snoc hg)
        (fun d hd => by simp at hd; subst hd; exact hc) (by rw [hself]; simp) (by have := hc.le; omega)
      exact ⟨d2, o2, by rw [← e]; simp, g1, g2, g3, g4, g5⟩
    · rename_i hstay
      obtain ⟨d2, o2, e, g1, g2, g3, g4, g5⟩ := newGo_good s r f (pos + c.length) frm ts done (opn ++ [c]) hlr (drop_letts h) (by simpa using hf) (by omega) hle h3
        (fun d hd => by rcases List.mem_append.1 hd with hd | hd; exact h4 d hd; simp at hd; subst hd; exact hc) (by rw [hcut frm h1, h5]; simp) (by omega)
      exact ⟨d2, o2, by rw [← e]; simp, g1, g2, g3, g4, g5⟩
theorem newL_good {s : ByteArray} {cs : List (List UInt8)} (hl : Letts cs) (h : s.data.toList = cs.flatten) : GoodsL (newL s) cs := by
  have e : s.data.toList.length = s.size := by simp
  have k := letts_le cs hl
  rw [← h, e] at k
  obtain ⟨d2, o2, e2, g1, g2, g3, g4, g5⟩ := newGo_good s cs s.size 0 0 [] [] [] hl (by simpa using h) k (Nat.le_refl _) (Nat.zero_le _) rfl (fun d hd => by simp at hd) (by rw [Lib.extract_data]; simp) (by omega)
  simp only [List.nil_append, List.append_nil] at e2
  unfold newL
  have hz : (s.extract (newGo s s.size 0 0 []).2 s.size).size = s.size - (newGo s s.size 0 0 []).2 := by rw [ByteArray.size_extract]; omega
  split
  · rw [e2]
    exact g1.snoc ⟨g4, g2, by omega, by omega⟩
  · have : o2 = [] := by
      have h0 : o2.flatten.length = 0 := by rw [← g4]; simp; omega
      have h1 := letts_le o2 g2
      exact List.eq_nil_of_length_eq_zero (by omega)
    rw [e2, this, List.append_nil]
    exact g1
theorem newO_good {s : ByteArray} {cs : List (List UInt8)} (hl : Letts cs) (h : s.data.toList = cs.flatten) : GoodO (newO s) cs := by
  unfold newO
  rw [if_pos ((validD_iff _).2 ⟨cs, hl, h⟩)]
  exact build_good _ _ _ (Nat.le_refl _) (newL_good hl h)
end Go.Proofs.YtdbdcnpajeflkaaDoor.Rope
