/- Marks: the walk of slices.Compact at a row of sites of a call's own. Conditions: at most 2^40 sites. -/
import Derived.Test.YtdgjjdpeaohebaaGMarksK3
import Derived.Test.YtdgjjdpeaohebaaOwn
import Derived.BigQuiet
namespace Go.Proofs.Ytdgjjdpeaohebaa.Mk
open Go.RowKit Go.Proofs.YtdgjjdpeaohebaaOwn Go.Proofs.YtdgjjdpeaohebaaW.PrintWords Go.Proofs.YtdgjjdpeaohebaaW.PrintLast Go.Proofs.YtdgjjdpeaohebaaW.PrintMore Go.Proofs.Ytdgjjdpeaohebaa.PMarksTake Go.Proofs.Ytdgjjdpeaohebaa.Pure
set_option linter.unusedVariables false
set_option linter.unusedSimpArgs false
instance : DecidableEq SY := fun a b => if h : a.f0 = b.f0 ∧ a.f1 = b.f1 then isTrue (by cases a; cases b; simp only at h; rw [h.1, h.2]) else isFalse (fun e => h (by rw [e]; exact ⟨rfl, rfl⟩))
/-- The first j, without those that are like the one ahead of them. -/
def ddT (l : List SY) : Nat → List SY
 | 0 => []
 | j + 1 => match l[j]? with
  | none => ddT l j
  | some x => if 0 < j ∧ l[j - 1]? = some x then ddT l j else ddT l j ++ [x]
theorem ddT_same {l : List SY} {j : Nat} {x : SY} (h0 : 0 < j) (h : l[j]? = some x) (h1 : l[j - 1]? = some x) : ddT l (j + 1) = ddT l j := by simp only [ddT, h]; rw [if_pos ⟨h0, h1⟩]
theorem ddT_more {l : List SY} {j : Nat} {x : SY} (h : l[j]? = some x) (h1 : 0 < j → l[j - 1]? ≠ some x) : ddT l (j + 1) = ddT l j ++ [x] := by simp only [ddT, h]; rw [if_neg (fun k => h1 k.1 k.2)]
theorem ddT_len (l : List SY) : ∀ j, (ddT l j).length ≤ j
 | 0 => by simp [ddT]
 | j + 1 => by
  have ih := ddT_len l j
  simp only [ddT]
  split
  ·omega
  ·split
   ·omega
   ·simp; omega
theorem ddT_mem (l : List SY) : ∀ j z, z ∈ ddT l j ↔ z ∈ l.take j
 | 0, z => by simp [ddT]
 | j + 1, z => by
  have ih := ddT_mem l j z
  cases hx : l[j]? with
  | none =>
   have e : l.take (j + 1) = l.take j := by rw [List.getElem?_eq_none_iff] at hx; rw [List.take_of_length_le (by omega), List.take_of_length_le hx]
   simp only [ddT, hx]
   rw [e, ih]
  | some x =>
   obtain ⟨hl, e⟩ := List.getElem?_eq_some_iff.1 hx
   rw [List.take_succ_eq_append_getElem hl, e, List.mem_append, List.mem_singleton, ← ih]
   by_cases c : 0 < j ∧ l[j - 1]? = some x
   ·rw [ddT_same c.1 hx c.2]
    constructor
    ·exact fun h => .inl h
    ·rintro (h | rfl)
     ·exact h
     ·rw [ih, List.mem_iff_getElem?]
      exact ⟨j - 1, by rw [List.getElem?_take, if_pos (by omega)]; exact c.2⟩
   ·rw [ddT_more hx (fun h0 h1 => c ⟨h0, h1⟩)]
    simp
/-- Of a sorted row: strictly in order, and the last one is the last. -/
theorem ddT_sorted {l : List SY} (h : SortedY l) : ∀ j, j ≤ l.length → (ddT l j).Pairwise siteLt ∧ ∀ z ∈ ddT l j, ∀ x, 0 < j → l[j - 1]? = some x → ¬ siteLt x z
 | 0, _ => by simp [ddT]
 | j + 1, hj => by
  obtain ⟨i1, i2⟩ := ddT_sorted h j (by omega)
  have hx : l[j]? = some l[j] := List.getElem?_eq_getElem (by omega)
  have le : ∀ z ∈ l.take j, ¬ siteLt l[j] z := by
   intro z hz
   obtain ⟨k, hk⟩ := List.mem_iff_getElem?.1 hz
   rw [List.getElem?_take] at hk
   split at hk
   ·rename_i hkj
    obtain ⟨hl, e⟩ := List.getElem?_eq_some_iff.1 hk
    have := (List.pairwise_iff_getElem.1 h) k j hl (by omega) hkj
    rw [e] at this
    exact this
   ·cases hk
  by_cases c : 0 < j ∧ l[j - 1]? = some l[j]
  ·rw [ddT_same c.1 hx c.2]
   refine ⟨i1, fun z hz x _ hx2 => ?_⟩
   rw [Nat.add_sub_cancel, hx] at hx2
   rw [← Option.some.inj hx2]
   exact le z ((ddT_mem l j z).1 hz)
  ·rw [ddT_more hx (fun h0 h1 => c ⟨h0, h1⟩)]
   refine ⟨List.pairwise_append.2 ⟨i1, List.pairwise_singleton _ _, fun z hz y hy => ?_⟩, fun z hz x _ hx2 => ?_⟩
   ·rw [List.mem_singleton] at hy
    subst hy
    have n1 := le z ((ddT_mem l j z).1 hz)
    rcases siteLt_total z l[j] with k1 | k1 | k1
    ·exact k1
    ·exfalso
     rcases Nat.eq_zero_or_pos j with h0 | h0
     ·subst h0
      simp [ddT] at hz
     ·have hp : l[j - 1]? = some l[j - 1] := List.getElem?_eq_getElem (by omega)
      have n2 := i2 z hz _ h0 hp
      have n3 : ¬ siteLt l[j] l[j - 1] := (List.pairwise_iff_getElem.1 h) (j - 1) j (by omega) (by omega) (by omega)
      rw [k1] at n2
      rcases siteLt_total l[j - 1] l[j] with k2 | k2 | k2
      ·exact n2 k2
      ·exact c ⟨h0, by rw [hp, k2]⟩
      ·exact n3 k2
    ·exact absurd k1 n1
   ·rw [Nat.add_sub_cancel, hx] at hx2
    rw [← Option.some.inj hx2]
    rcases List.mem_append.1 hz with hz | hz
    ·exact le z ((ddT_mem l j z).1 hz)
    ·rw [List.mem_singleton] at hz
     rw [hz]
     exact siteLt_irr _
theorem ddT_norm {l : List SY} (h : SortedY l) : ddT l l.length = normY l := normY_uniq (ddT_sorted h _ (Nat.le_refl _)).1 (fun z => by rw [ddT_mem, List.take_length])
theorem normY_perm {l r : List SY} (h : l.Perm r) : normY l = normY r := normY_uniq (normY_ok l).1 (fun z => by rw [(normY_ok l).2, h.mem_iff])
theorem at_Y {w : World} {A : Option Addr} {n : Nat} {ys : List SY} (h : Kd.C kY w A n ys) {j : Nat} {y : SY} (hx : ys[j]? = some y) (hj : j < n) : ∃ ad, A = some ad ∧ w.cell? (ad.add (j * 2)) = some (.int .i64 y.f0) ∧ w.cell? ⟨(ad.add (j * 2)).block, (ad.add (j * 2)).off + 1, none⟩ = some (.int .i64 y.f1) := by
 have e2 : rd_T38 ys (j : Int) = y := by unfold rd_T38; rw [Int.toNat_natCast, List.getD_eq_getElem?_getD, hx]; rfl
 obtain ⟨ad, e, h0, h1⟩ := at_T38 h (j : Int) (by omega) (by omega)
 rw [e2, Int.toNat_natCast] at h0 h1
 exact ⟨ad, e, h0, h1⟩
/-- The cells of one element of a row of the call's own. -/
theorem own_at {W : World} {base : Nat} {ok : Nat → Prop} {g n c : Nat} {ys : List SY} (h : Kd.R kY 38 W base ok (.slice (some ⟨g, 0, none⟩) n c) ys) {j : Nat} {y : SY} (hx : ys[j]? = some y) : W.cell? ⟨g, j * 2, none⟩ = some (.int .i64 y.f0) ∧ W.cell? ⟨g, j * 2 + 1, none⟩ = some (.int .i64 y.f1) := by
 have hr := Kd.R_reads' h
 obtain ⟨ad, e0, y0, y1⟩ := at_Y hr.2.2 hx (List.getElem?_eq_some_iff.1 hx).1
 cases e0
 rw [add_plain] at y0 y1
 simp only [Nat.zero_add] at y0 y1
 exact ⟨y0, y1⟩
theorem own_fr {W : World} {base : Nat} {ok : Nat → Prop} {g n c : Nat} {ys : List SY} (h : Kd.R kY 38 W base ok (.slice (some ⟨g, 0, none⟩) n c) ys) (k : Nat) : W.frozen? ⟨g, k, none⟩ = false := by
 obtain ⟨iu, ou⟩ := Kd.R_own h
 obtain ⟨cu, hcu⟩ := own_typed ou g rfl
 exact blk_frozen hcu _
/-- A site written into a row of the call's own. -/
theorem own_set {W : World} {base : Nat} {g n c : Nat} {ys : List SY} (h : Kd.R kY 38 W base (fun _ => True) (.slice (some ⟨g, 0, none⟩) n c) ys) {i : Nat} (hi : i < n) (x : SY) :
  Kd.R kY 38 ((W.setCell ⟨g, i * 2, none⟩ (.int .i64 x.f0)).setCell ⟨g, i * 2 + 1, none⟩ (.int .i64 x.f1)) base (fun _ => True) (.slice (some ⟨g, 0, none⟩) n c) (ys.set i x) ∧ W.grownBy ((W.setCell ⟨g, i * 2, none⟩ (.int .i64 x.f0)).setCell ⟨g, i * 2 + 1, none⟩ (.int .i64 x.f1)) (some g) := by
 have hn := (Kd.R_reads' h).1
 obtain ⟨y, hy⟩ : ∃ y, ys[i]? = some y := ⟨_, List.getElem?_eq_getElem (by omega)⟩
 obtain ⟨y0, y1⟩ := own_at h hy
 have hcc : ∀ j u, ([.int .i64 y.f0, .int .i64 y.f1] : List Value)[j]? = some u → W.cell? ⟨g, (i : Int).toNat * kY.sz + j, none⟩ = some u := by
  intro j u hu
  have e : (i : Int).toNat * kY.sz = i * 2 := by rw [Int.toNat_natCast]; rfl
  rw [e]
  rcases j with _ | _ | j
  ·simp at hu; rw [← hu]; exact y0
  ·simp at hu; rw [← hu]; exact y1
  ·simp at hu
 have hs := Kd.R_seg (j := 0) (seg := [.int .i64 x.f0, .int .i64 x.f1]) (c := [.int .i64 y.f0, .int .i64 y.f1]) h (i : Int) (by omega) (by omega) rfl hcc (show (2 : Nat) ≤ 2 from Nat.le_refl _) (x' := x) (okp := fun k => True ∧ k ≠ g) (k38_mkM _ _ _ _) (fun _ h => h)
 have e : W.setCells g ((i : Int).toNat * kY.sz + 0) [.int .i64 x.f0, .int .i64 x.f1] = (W.setCell ⟨g, i * 2, none⟩ (.int .i64 x.f0)).setCell ⟨g, i * 2 + 1, none⟩ (.int .i64 x.f1) := by rw [Int.toNat_natCast]; rfl
 rw [e, Int.toNat_natCast] at hs
 exact hs
end Go.Proofs.Ytdgjjdpeaohebaa.Mk
