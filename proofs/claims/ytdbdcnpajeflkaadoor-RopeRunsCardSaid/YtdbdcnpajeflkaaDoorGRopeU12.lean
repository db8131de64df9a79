/- Plain law: of a rope as it may be the document's Laid answers true. Conditions: texts of at most 2^40 bytes. -/
import Derived.Test.YtdbdcnpajeflkaaDoorGRopeU11
namespace Go.Proofs.YtdbdcnpajeflkaaDoor.Rope
open Go.RowKit Go.Proofs.YtdbdcnpajeflkaaDoorPl Go.Proofs.YtdbdcnpajeflkaaDoor.PRopeRuns Go.Proofs.YtdbdcnpajeflkaaDoorW.PrintWords Go.Proofs.YtdbdcnpajeflkaaDoorW.PrintLast Go.Proofs.YtdbdcnpajeflkaaDoorW.PrintMore
set_option linter.unusedVariables false
set_option linter.unusedSimpArgs false
/-- The fewest parts of a tree. -/
def least : Nat → Nat
  | 0 => 1
  | 1 => 2
  | n + 2 => least n + least (n + 1)
theorem least_mono1 : ∀ n, least n ≤ least (n + 1) ∧ 1 ≤ least n
  | 0 => by simp [least]
  | 1 => by simp [least]
  | n + 2 => by
    have h1 := least_mono1 n
    have h2 := least_mono1 (n + 1)
    show least n + least (n + 1) ≤ least (n + 1) + least (n + 2) ∧ 1 ≤ least n + least (n + 1)
    have : least (n + 2) = least n + least (n + 1) := rfl
    omega
theorem least_mono {a b : Nat} (h : a ≤ b) : least a ≤ least b := by
  obtain ⟨d, rfl⟩ : ∃ d, b = a + d := ⟨b - a, by omega⟩
  clear h
  induction d with
  | zero => exact Nat.le_refl _
  | succ d ih => exact Nat.le_trans ih (least_mono1 (a + d)).1
def fibs : Nat → Nat × Nat
  | 0 => (1, 2)
  | n + 1 => ((fibs n).2, (fibs n).1 + (fibs n).2)
theorem fibs_eq : ∀ n, fibs n = (least n, least (n + 1))
  | 0 => rfl
  | n + 1 => by rw [fibs, fibs_eq n]; rfl
theorem least_fst (n : Nat) : least n = (fibs n).1 := by rw [fibs_eq]
theorem fibs_60 : 1099511627776 < (fibs 60).1 := by decide +kernel
theorem least_big {n : Nat} (h : 60 ≤ n) : 1099511627776 < least n := by
  have h1 := least_mono h
  rw [least_fst 60] at h1
  exact Nat.lt_of_lt_of_le fibs_60 h1
theorem Good.many : ∀ {t : T} {cs : List (List UInt8)}, Good t cs → least t.h ≤ t.parts.length ∧ t.parts.length ≤ 2 ^ t.h
  | .leaf s, cs, h => ⟨Nat.le_refl _, Nat.le_refl _⟩
  | .node l r, cs, ⟨c1, c2, e, h1, h2, k1, k2⟩ => by
    have m1 := h1.many
    have m2 := h2.many
    have hp : (T.node l r).parts.length = l.parts.length + r.parts.length := by simp [T.parts]
    have hh : (T.node l r).h = max l.h r.h + 1 := rfl
    rw [hp, hh]
    constructor
    · rcases Nat.le_total l.h r.h with c | c
      · rw [Nat.max_eq_right c]
        cases hr : r.h with
        | zero =>
          have := (least_mono1 l.h).2; have := (least_mono1 r.h).2
          show 2 ≤ _; omega
        | succ n =>
          have a1 : least n ≤ least l.h := least_mono (by omega)
          rw [hr] at m2
          show least n + least (n + 1) ≤ _
          omega
      · rw [Nat.max_eq_left c]
        cases hl : l.h with
        | zero =>
          have := (least_mono1 l.h).2; have := (least_mono1 r.h).2
          show 2 ≤ _; omega
        | succ n =>
          have a1 : least n ≤ least r.h := least_mono (by omega)
          rw [hl] at m1
          show least n + least (n + 1) ≤ _
          omega
    · have a1 : 2 ^ l.h ≤ 2 ^ max l.h r.h := Nat.pow_le_pow_right (by omega) (Nat.le_max_left _ _)
      have a2 : 2 ^ r.h ≤ 2 ^ max l.h r.h := Nat.pow_le_pow_right (by omega) (Nat.le_max_right _ _)
      rw [Nat.pow_succ]; omega
theorem Least_l0 (h : Nat) (hh : h ≤ 100) : ∀ (d i : Nat), h - i = d → i ≤ h → least i ≤ 1000000 → ∃ r : Int, Ev (fun k => chancelref02_Least.l0 k (h : Int) (least i : Int) (least (i + 1) : Int) (i : Int)) r ∧ r ≤ (least h : Int)
  | 0, i, hd, hi, hb => by
    have : i = h := by omega
    subst this
    exact ⟨(least i : Int), ev_next (f := fun _ => some (least i : Int)) (fun k => by simp only [chancelref02_Least.l0]; rw [if_neg (by omega)]) (Ev.now _), Int.le_refl _⟩
  | d + 1, i, hd, hi, hb => by
    by_cases c : (least (i + 1) : Int) > 1000000
    · exact ⟨(least (i + 1) : Int), ev_next (f := fun _ => some (least (i + 1) : Int)) (fun k => by simp only [chancelref02_Least.l0]; rw [if_pos (by omega), if_pos c]) (Ev.now _), by have := least_mono (show i + 1 ≤ h by omega); omega⟩
    · obtain ⟨r, h1, h2⟩ := Least_l0 h hh d (i + 1) (by omega) (by omega) (by omega)
      have W1 := Lib.hid (wrap_succ (i := i) (by omega))
      have w2 : wrap64 ((least i : Int) + (least (i + 1) : Int)) = (least (i + 1 + 1) : Int) := by
        rw [wrap_id (by omega) (by omega)]
        show _ = ((least i + least (i + 1) : Nat) : Int)
        omega
      have W2 := Lib.hid w2
      clear w2
      refine ⟨r, ev_next (fun k => ?_) h1, h2⟩
      simp only [chancelref02_Least.l0]
      rw [if_pos (by omega), if_neg c, W1.out, W2.out]
theorem Least_ev (h : Nat) (hh : h ≤ 100) : ∃ r : Int, Ev (fun k => chancelref02_Least.f k (h : Int)) r ∧ r ≤ (least h : Int) := Least_l0 h hh h 0 (by omega) (by omega) (by decide)
theorem Laid_l1 (ps : List ByteArray) (h : Nat) (hh : h ≤ 100) (h1 : least h ≤ ps.length) (h2 : ps.length ≤ 2 ^ h) (hb : ps.length ≤ 1099511627776) : ∀ (d i m : Nat), h - i = d → i ≤ h → (ps.length ≤ m ∨ m = 2 ^ i) → m ≤ 2199023255552 →
    Ev (fun k => chancelref02_Laid.l1 k ps (h : Int) (m : Int) (i : Int)) true
  | 0, i, m, hd, hi, hm, hmb => by
    have : i = h := by omega
    subst this
    obtain ⟨r, hr1, hr2⟩ := Least_ev i hh
    refine ev_next (fun k => by simp only [chancelref02_Laid.l1]; rw [if_neg (by omega)]) (Ev.bind hr1 (ev_rfl fun k => ?_))
    rw [if_pos (by omega)]
    congr 1
    rw [decide_eq_true_eq]
    rcases hm with hm | hm <;> omega
  | d + 1, i, m, hd, hi, hm, hmb => by
    have W1 := Lib.hid (wrap_succ (i := i) (by omega))
    by_cases c : (m : Int) < (ps.length : Int)
    · have w2 : wrap64 ((m : Int) * 2) = ((m * 2 : Nat) : Int) := by rw [wrap_id (by omega) (by omega)]; omega
      have W2 := Lib.hid w2
      clear w2
      refine ev_next (fun k => ?_) (Laid_l1 ps h hh h1 h2 hb d (i + 1) (m * 2) (by omega) (by omega) (Or.inr ?_) (by omega))
      · simp only [chancelref02_Laid.l1]
        rw [if_pos (by omega), if_pos c, W1.out, W2.out]
      · rcases hm with hm | hm
        · omega
        · rw [hm, Nat.pow_succ]
    · refine ev_next (fun k => ?_) (Laid_l1 ps h hh h1 h2 hb d (i + 1) m (by omega) (by omega) (Or.inl (by omega)) hmb)
      simp only [chancelref02_Laid.l1]
      rw [if_pos (by omega), if_neg c, W1.out]
/-- Parts that are right: not empty, not too long, each of letters. -/
def PartOk (p : ByteArray) : Prop := 0 < p.size ∧ p.size ≤ 64 ∧ Lib.validD p.data.toList = true
theorem Good.ok : ∀ {t : T} {cs : List (List UInt8)}, Good t cs → ∀ p ∈ t.parts, PartOk p
  | .leaf s, cs, h => fun p hp => by
    simp [T.parts] at hp
    subst hp
    exact ⟨h.2.2.1, h.2.2.2, (validD_iff _).2 ⟨cs, h.2.1, h.1⟩⟩
  | .node l r, cs, ⟨c1, c2, e, h1, h2, _, _⟩ => fun p hp => by
    simp only [T.parts, List.mem_append] at hp
    rcases hp with hp | hp
    · exact h1.ok p hp
    · exact h2.ok p hp
def flatB (ps : List ByteArray) : List UInt8 := (ps.map (·.data.toList)).flatten
theorem Laid_l0 (ps : List ByteArray) (s : ByteArray) (h : Nat) (hs : s.data.toList = flatB ps) (hsz : s.size ≤ 1099511627776) (hok : ∀ p ∈ ps, PartOk p) (hh : h ≤ 60) (hz : ps = [] → h = 0) (h1 : ps ≠ [] → least h ≤ ps.length) (h2 : ps.length ≤ 2 ^ h) (hb : ps.length ≤ 1099511627776) :
    ∀ (rest : List ByteArray) (i : Nat), rest = ps.drop i → i ≤ ps.length → Ev (fun k => chancelref02_Laid.l0 k ps s (h : Int) ((flatB (ps.take i)).length : Int) (i : Int)) true
  | [], i, hr, hi => by
    have hlen : ps.length = i := by have := congrArg List.length hr; simp at this; omega
    have e1 : ps.take i = ps := List.take_of_length_le (by omega)
    have e2 : (flatB ps).length = s.size := by rw [← hs, toList_size]
    rw [e1, e2]
    have d : decide ((h : Int) > 60) = false := by simp; omega
    have j1 : Ev (fun k => chancelref02_Laid.j1 k ps (h : Int) false) true := by
      by_cases hp : ps = []
      · refine ev_next (f := fun _ => some true) (fun k => ?_) (Ev.now _)
        simp only [chancelref02_Laid.j1, Bool.false_eq_true, if_false]
        rw [if_pos (by rw [hp]; rfl), hz hp]; rfl
      · have hpl : 0 < ps.length := List.length_pos_iff.2 hp
        refine ev_next (fun k => ?_) (Laid_l1 ps h (by omega) (h1 hp) h2 hb h 0 1 (by omega) (by omega) (Or.inr rfl) (by omega))
        simp only [chancelref02_Laid.j1, Bool.false_eq_true, if_false]
        rw [if_neg (by omega)]; rfl
    refine ev_next (fun k => ?_) j1
    simp only [chancelref02_Laid.l0, if_true]
    rw [if_neg (by omega), if_neg (by omega), d]
  | p :: r, i, hr, hi => by
    have hlt : i < ps.length := by have := congrArg List.length hr; simp at this; omega
    have e0 := List.drop_eq_getElem_cons hlt
    rw [← hr] at e0
    injection e0 with e1 e2
    have hrd : rdOf ByteArray.empty ps (i : Int) = p := by
      unfold rdOf
      rw [Int.toNat_natCast, List.getD_eq_getElem?_getD, List.getElem?_eq_getElem hlt, ← e1]; rfl
    obtain ⟨p1, p2, p3⟩ := hok p (by rw [e1]; exact List.getElem_mem hlt)
    have e3 : ps.take (i + 1) = ps.take i ++ [p] := by rw [List.take_succ_eq_append_getElem hlt, ← e1]
    have e4 : flatB (ps.take (i + 1)) = flatB (ps.take i) ++ p.data.toList := by rw [e3]; simp [flatB]
    have e5 : flatB ps = flatB (ps.take i) ++ (p.data.toList ++ flatB r) := by
      conv => lhs; rw [← List.take_append_drop i ps, ← hr]
      simp [flatB]
    have e6 : (flatB ps).length = s.size := by rw [← hs, toList_size]
    have e7 := congrArg List.length e5
    rw [List.length_append, List.length_append, toList_size] at e7
    have e8 := congrArg List.length e4
    rw [List.length_append, toList_size] at e8
    have W1 := Lib.hid (wrap_succ (i := i) (by omega))
    have w2 : wrap64 (((flatB (ps.take i)).length : Int) + (p.size : Int)) = ((flatB (ps.take (i + 1))).length : Int) := by rw [wrap_id (by omega) (by omega)]; omega
    have W2 := Lib.hid w2
    clear w2
    have W3 := Lib.hid (wrap_id (x := (s.size : Int) - ((flatB (ps.take i)).length : Int)) (by omega) (by omega))
    have ne : ¬ p.toList = ([] : List UInt8) := fun h => by have := (nil_iff p).1 h; omega
    have ex : (s.extract (flatB (ps.take i)).length (flatB (ps.take (i + 1))).length).toList = p.toList := by
      have : s.extract (flatB (ps.take i)).length (flatB (ps.take (i + 1))).length = p := by
        apply ByteArray.ext
        apply Array.ext'
        rw [Lib.extract_data, hs, e5, List.drop_left, e8, Nat.add_sub_cancel_left, ← toList_size p, List.take_left]
      rw [this]
    have ih := Laid_l0 ps s h hs hsz hok hh hz h1 h2 hb r (i + 1) e2 (by omega)
    have hR := Right_ev p (by omega)
    rw [p3] at hR
    refine ev_next (fun k => ?_) (Ev.bind hR (f := fun k t113 => if t113 = true then chancelref02_Laid.l0 k ps s (h : Int) ((flatB (ps.take (i + 1))).length : Int) ((i + 1 : Nat) : Int) else some false) ?_)
    · simp only [chancelref02_Laid.l0]
      rw [if_pos (by omega), if_pos (by omega), hrd, if_neg ne, if_neg (by omega)]
      congr 1
      funext t
      cases t with
      | false => simp
      | true =>
        simp only [if_true]
        rw [W3.out, W2.out, W1.out, if_neg (by omega), if_pos (by omega), if_pos (by omega), if_pos (by omega), Int.toNat_natCast, Int.toNat_natCast, if_pos ex]
    · simp only [if_true]
      exact ih
theorem Laid_ev {t : Option T} {cs : List (List UInt8)} (h : GoodO t cs) (hsz : bytesO t ≤ 1099511627776) : Ev (fun k => chancelref02_Laid.f k (partsO t) (textO t) (hO t : Int)) true := by
  have hn := h.ne
  have hl := partsO_le t hn
  have htx : (textO t).data.toList = flatB (partsO t) := rfl
  have hts : (textO t).size = bytesO t := by rw [← toList_size]; exact textL_length t
  have main : ∀ (hok : ∀ p ∈ partsO t, PartOk p) (hh : hO t ≤ 60) (hz : partsO t = [] → hO t = 0) (h1 : partsO t ≠ [] → least (hO t) ≤ (partsO t).length) (h2 : (partsO t).length ≤ 2 ^ hO t), Ev (fun k => chancelref02_Laid.f k (partsO t) (textO t) (hO t : Int)) true := by
    intro hok hh hz h1 h2
    have := Laid_l0 (partsO t) (textO t) (hO t) htx (by omega) hok hh hz h1 h2 (by omega) (partsO t) 0 (by simp) (Nat.zero_le _)
    exact this
  cases t with
  | none => exact main (fun p hp => by simp [partsO] at hp) (Nat.zero_le _) (fun _ => rfl) (fun hx => absurd rfl hx) (Nat.zero_le _)
  | some t =>
    have hg : Good t cs := h
    have m := hg.many
    refine main hg.ok ?_ (fun hp => ?_) (fun _ => m.1) m.2
    · apply Nat.le_of_lt_succ
      apply Nat.lt_of_not_le
      intro hc
      have h4 := least_big (n := t.h) (by have : hO (some t) = t.h := rfl; omega)
      have h5 : (partsO (some t)).length = t.parts.length := rfl
      omega
    · have h5 : t.parts = [] := hp
      have := (least_mono1 t.h).2
      rw [h5] at m
      simp at m
      omega
end Go.Proofs.YtdbdcnpajeflkaaDoor.Rope
