/- Small laws on rows of a call's own, of whatever kind of element: clear, cuts. -/
import Derived.Test.YtjphmebhofkhcaaDoorWMore
import Derived.Lib.SliceRun
import Derived.Lib.Hide
namespace Go.Proofs.YtjphmebhofkhcaaDoorOwn
open Go.RowKit Go.Proofs.YtjphmebhofkhcaaDoorW.PrintWords Go.Proofs.YtjphmebhofkhcaaDoorW.PrintLast

theorem zeroCells_length (z : Array Value) (n : Nat) : (Builtin.zeroCells z n).toList.length = n * z.size := by simp [Builtin.zeroCells]
theorem zeroCells_mem (z : Array Value) (hz : ∀ v ∈ z.toList, v.oneCell' = true) (n : Nat) : ∀ v ∈ (Builtin.zeroCells z n).toList, v.oneCell' = true := by
 intro v hv
 simp only [Builtin.zeroCells, Array.toList_map, List.mem_map, Array.toList_range, List.mem_range] at hv
 obtain ⟨i, hi, rfl⟩ := hv
 have h0 : 0 < z.size := by
  rcases Nat.eq_zero_or_pos z.size with h | h
  ·rw [h] at hi; simp at hi
  ·exact h
 have hlt : i % z.size < z.size := Nat.mod_lt _ h0
 rw [getElem!_pos z _ hlt]
 exact hz _ (by simp)

/-- clear(s[i:]) of a row of the call's own: what is ahead of i stays. -/
theorem run_clear_rows {P : Program} {α : Type} (d : Kd α) {w0 W : World} {base : Nat} (t e ty : TypeId) (z : Value) (ht : P.underlying t = some (.slice e)) (hv : ∀ w, (zeroValue e).run P w = .ok z w) (hz : z.cells.size = d.sz) (h1 : ∀ v ∈ z.cells.toList, v.oneCell' = true)
  {g n cap i : Nat} {xs : List α} {ok : Nat → Prop} {A : Option Addr} {c2 : Nat} (HO : d.R e W base ok (.slice (some ⟨g, 0, none⟩) n cap) xs) (hi : i ≤ n) (hA : i < n → A = some ⟨g, i * d.sz, none⟩) (HB : Below base w0 W) :
  ∃ w1, (Builtin.clear_ #[t] ty #[.slice A (n - i) c2]).run P W = .ok (.tuple #[]) w1 ∧ d.R e w1 base ok (.slice (some ⟨g, 0, none⟩) i cap) (xs.take i) ∧ W.grownBy w1 (some g) ∧ Below base w0 w1 := by
 have hx := Kd.R_reads' HO
 rcases Nat.lt_or_ge i n with hlt | hge
 ·obtain rfl := hA hlt
  obtain ⟨h0, inner, ⟨hil, ho⟩, hr⟩ := Kd.R_take HO (m := i) (by omega)
  obtain ⟨h0', inner', ⟨hil', ho'⟩, hr'⟩ := HO
  rcases ho' with ⟨he, _⟩ | ⟨g', cap', cur, he, hg, hh, hnc, hcm, hsz, htk⟩
  ·cases he
  injection he with e1 e2 e3
  injection e1 with e1
  injection e1 with e1
  subst e1; subst e3
  have hcap : n * d.sz ≤ cap * d.sz := Nat.mul_le_mul_right _ (by omega)
  have hin : i * d.sz + (n - i) * d.sz = n * d.sz := by rw [← Nat.add_mul]; congr 1; omega
  have hL : (Builtin.zeroCells z.cells (n - i)).toList.length = (n - i) * d.sz := by rw [zeroCells_length, hz]
  have hst := run_storeCells_cells (P := P) g (i * d.sz) (Builtin.zeroCells z.cells (n - i)).toList 0 W (fun j hj => by
   rw [Nat.add_zero, blk_cell hh]
   rw [hL] at hj
   rw [Array.getElem?_eq_getElem (by omega)]
   rfl) (fun j hj => blk_frozen hh _) (zeroCells_mem _ h1 _)
  rw [Nat.add_zero] at hst
  refine ⟨W.setCells g (i * d.sz) (Builtin.zeroCells z.cells (n - i)).toList, ?_, ?_, ?_, ?_⟩
  ·obtain ⟨m, hm⟩ : ∃ m, n - i = m + 1 := ⟨n - i - 1, by omega⟩
   rw [hm] at hst ⊢
   simp [Builtin.clear_, run_underlying ht, hv, hst]
  ·obtain ⟨cur', hh', hs', hc'⟩ := setCells_row (Builtin.zeroCells z.cells (n - i)).toList (i * d.sz) W cur hh (by rw [hL]; omega)
   have hob : (Value.slice (some (⟨g, 0, none⟩ : Addr)) i cap).ownBlock = some g := rfl
   have hti : (xs.take i).length = i := by rw [List.length_take]; omega
   refine ⟨h0, inner, ⟨hil, .inr ⟨g, cap, cur', by rw [hti], hg, hh', ?_, hcm, by rw [hs']; exact hsz, ?_⟩⟩, hr.imp_ (fun x c hM => Kd.M_step hM (fun k hk _ => setCells_far _ _ k (fun he => hk.2 (by rw [hob, he]))))⟩
   ·have := hx.2.1
    simp only [List.length_take]
    omega
   ·rcases ho with ⟨he, _⟩ | ⟨g'', cap'', cur'', he, _, hh'', _, _, _, htk''⟩
    ·cases he
    ·injection he with e1 e2 e3
     injection e1 with e1
     injection e1 with e1
     subst e1
     rw [hh] at hh''
     injection hh'' with hh''
     injection hh'' with hh''
     subst hh''
     rw [← htk'', hc']
     simp only [List.length_take]
     rw [Nat.min_eq_left (by omega)]
     rw [List.append_assoc, List.take_append_of_le_length (by rw [List.length_take, Array.length_toList]; omega), List.take_take, Nat.min_self]
  ·obtain ⟨s1, s2, s3, s4⟩ := setCells_same g (Builtin.zeroCells z.cells (n - i)).toList (i * d.sz) W
   exact ⟨s1, s2, s3, by rw [s4]; exact Nat.le_refl _, fun k _ hk => setCells_far _ _ k (fun he => hk (by rw [he]))⟩
  ·obtain ⟨s1, s2, s3, s4⟩ := setCells_same g (Builtin.zeroCells z.cells (n - i)).toList (i * d.sz) W
   exact ⟨by rw [s1]; exact HB.os, by rw [s2]; exact HB.tape, by rw [s3]; exact HB.output, by rw [s4]; exact HB.size, fun k hk => (setCells_far _ _ k (by omega)).trans (HB.block k hk)⟩
 ·obtain rfl : i = n := by omega
  refine ⟨W, ?_, ?_, ?_, HB⟩
  ·rw [Nat.sub_self]
   cases A <;> simp [Builtin.clear_, run_underlying ht]
  ·rw [hx.1, List.take_length]
   rw [hx.1] at HO
   exact HO
  ·exact ⟨rfl, rfl, rfl, Nat.le_refl _, fun _ _ _ => rfl⟩
end Go.Proofs.YtjphmebhofkhcaaDoorOwn
