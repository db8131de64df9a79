/- Plain laws on loops that are told in rounds: a loop over a list is a fold, or stops early. -/
import Derived.Test.YtjphmebhofkhcaaDoorWWords
namespace Go.Proofs.YtjphmebhofkhcaaDoorPl
open Go.RowKit Go.Proofs.YtjphmebhofkhcaaDoorW.PrintWords

theorem wrap_id {x : Int} (h0 : -9223372036854775808 ≤ x) (h1 : x < 9223372036854775808) : wrap64 x = x := by unfold wrap64; omega
theorem wrap_succ {i : Nat} (h : i < 9223372036854775807) : wrap64 ((i : Int) + 1) = ((i + 1 : Nat) : Int) := by unfold wrap64; omega
theorem ev_rfl {α : Type} {g : Nat → Option α} {r : α} (h : ∀ k, g k = some r) : Ev g r := ⟨0, fun k _ => h k⟩
/-- One round of a loop whose next round is told by f. -/
theorem ev_next {α : Type} {g f : Nat → Option α} (h : ∀ k, g (k + 1) = f k) {r : α} (k : Ev f r) : Ev g r := Ev.step h k
/-- A loop over a list, from i on: a fold, where each round is one step. -/
theorem ev_fold {α σ ρ : Type} (xs : List α) (L : σ → Nat → Nat → Option ρ) (Inv : σ → Nat → Prop) (f : σ → α → σ)
  (hstep : ∀ s i (h : i < xs.length), Inv s i → Inv (f s xs[i]) (i + 1) ∧ ∀ r, Ev (L (f s xs[i]) (i + 1)) r → Ev (L s i) r) (s : σ) (i : Nat) (hi : i ≤ xs.length) (hI : Inv s i) :
  Inv ((xs.drop i).foldl f s) xs.length ∧ ∀ r, Ev (L ((xs.drop i).foldl f s) xs.length) r → Ev (L s i) r := by
 obtain ⟨d, hd⟩ : ∃ d, xs.length - i = d := ⟨_, rfl⟩
 induction d generalizing s i with
 | zero =>
  have : i = xs.length := by omega
  subst this
  rw [List.drop_length]
  exact ⟨hI, fun _ h => h⟩
 | succ d ih =>
  have hlt : i < xs.length := by omega
  obtain ⟨h1, h2⟩ := hstep s i hlt hI
  obtain ⟨h3, h4⟩ := ih (f s xs[i]) (i + 1) (by omega) h1 (by omega)
  rw [List.drop_eq_getElem_cons hlt, List.foldl_cons]
  exact ⟨h3, fun r h => h2 r (h4 r h)⟩
theorem foldl_filter {α β : Type} (p : α → Bool) (g : α → β) (xs : List α) (s : List β) : xs.foldl (fun s x => if p x then s ++ [g x] else s) s = s ++ (xs.filter p).map g := by
 induction xs generalizing s with
 | nil => simp
 | cons x r ih =>
  rw [List.foldl_cons, ih]
  cases h : p x <;> simp [h]
end Go.Proofs.YtjphmebhofkhcaaDoorPl
