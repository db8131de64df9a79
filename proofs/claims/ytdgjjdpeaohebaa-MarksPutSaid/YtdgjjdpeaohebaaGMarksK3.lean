/- Marks: the library's sort of a row of sites of a call's own: the same sites, in order. Conditions: fewer than 2^62 sites. -/
import Derived.Test.YtdgjjdpeaohebaaGMarksK2
import Derived.Test.YtdgjjdpeaohebaaGSort
namespace Go.Proofs.Ytdgjjdpeaohebaa.Mk
open Go.RowKit Go.Proofs.YtdgjjdpeaohebaaW.PrintWords Go.Proofs.YtdgjjdpeaohebaaW.PrintLast Go.Proofs.YtdgjjdpeaohebaaW.PrintMore Go.Proofs.Ytdgjjdpeaohebaa.PMarksTake Go.Proofs.Ytdgjjdpeaohebaa.Pure
set_option linter.unusedVariables false
set_option linter.unusedSimpArgs false
theorem eg_cmp : ∀ args w, (callFunc 25 args).run Try.prog w = .ok (.enter 25 args) w := fun args w => by kernel_rfl
set_option maxRecDepth 100000 in
set_option maxHeartbeats 800000 in
theorem ins_nil (f : Value) (w : World) : Calls Try.prog 53 #[.slice none 0 0, .int .i64 0, .int .i64 0, f] w fun e w' => e = .returned (.tuple #[]) ∧ Below w.heap.size w w' := by
 go_enter Try.func53, Try.ntmps53
 go_wp2
 go_loopw [8] (fun s wr => s = .int .i64 1 ∧ Hid (Below w.heap.size w wr)) (fun _ _ => 0)
 case atStart => exact ⟨rfl, Lib.hid (Below.refl _ _)⟩
 case round =>
  obtain ⟨rfl, BW⟩ := hrel
  go_wp2
  go_end0
  exact ⟨rfl, BW.out⟩
set_option maxRecDepth 100000 in
set_option maxHeartbeats 800000 in
theorem pdq_nil (f : Value) (n : Int) (w : World) : Calls Try.prog 50 #[.slice none 0 0, .int .i64 0, .int .i64 0, .int .i64 n, f] w fun e w' => e = .returned (.tuple #[]) ∧ Below w.heap.size w w' := by
 go_enter Try.func50, Try.ntmps50
 go_wp2
 go_loopw [1, 2, 3] (fun s1 s2 s3 wr => s1 = .int .i64 0 ∧ s2 = .int .i64 0 ∧ s3 = .int .i64 n ∧ Hid (Below w.heap.size w wr)) (fun _ _ _ _ => 0)
 case atStart => exact ⟨rfl, rfl, rfl, Lib.hid (Below.refl _ _)⟩
 case round =>
  obtain ⟨rfl, rfl, rfl, BW⟩ := hrel
  go_wp2_with fail
  (go_at_call 53; refine (ins_nil f _).mono ?_; rintro e w1 ⟨rfl, hb1⟩)
  have B1 := Lib.hid (below_step BW.out hb1)
  clear hb1 BW
  go_wp2
  refine bodyPost_ret (results_none rfl _ _ _) rfl ?_
  exact ⟨rfl, B1.out⟩
set_option maxRecDepth 100000 in
set_option maxHeartbeats 800000 in
theorem sort_nil (f : Value) (w : World) : Calls Try.prog 45 #[.slice none 0 0, f] w fun e w' => e = .returned (.tuple #[]) ∧ Below w.heap.size w w' := by
 have hl : ∀ W : World, Calls Try.prog 51 #[.int .u64 0] W fun e w' => e = .returned (.int .i64 (Lib.bitLen 0 : Nat)) ∧ w' = W := fun W => by
  have h := Any.bits_Len (Go.Proofs.SlLaysF0.n15.bits (P := Try.prog) (ρ := Try.sortY_ren) { Try.sortY with }) 0 W (by omega) (by omega)
  exact h
 generalize ((Lib.bitLen 0 : Nat) : Int) = bl at hl
 go_enter Try.func45, Try.ntmps45
 go_wp2_with fail
 (go_at_call 51; refine (hl _).mono ?_; rintro e w1 ⟨rfl, rfl⟩)
 go_wp2_with fail
 (go_at_call 50; refine (pdq_nil f bl _).mono ?_; rintro e w2 ⟨rfl, hb2⟩)
 have B2 := Lib.hid hb2
 clear hb2
 go_wp2
 go_end0
 exact ⟨rfl, B2.out⟩
/-- In order: none is ahead of one that is less. -/
def SortedY (l : List SY) : Prop := l.Pairwise fun a b => ¬ siteLt b a
def RetSort (v : Value) (ys : List SY) (base : Nat) (ok : Nat → Prop) (w : World) (e : Ending) (w' : World) : Prop := ∃ zs, e = .returned (.tuple #[]) ∧ zs.Perm ys ∧ SortedY zs ∧ Kd.R kY 38 w' base ok v zs ∧ w.grownBy w' v.ownBlock
theorem sort_calls (v : Value) (ys : List SY) (base : Nat) (ok : Nat → Prop) (w : World) (h : Kd.R kY 38 w base ok v ys) (hl : ys.length < 4611686018427387904) :
  Calls Try.prog 45 #[v, .func (.func 25) #[] #[]] w (RetSort v ys base ok w) := by
 have hf := h
 obtain ⟨_, inner, ⟨_, ho⟩, _⟩ := hf
 rcases ho with ⟨hv, h0⟩ | ⟨g, cap, cur, hv, _⟩
 ·subst hv
  obtain rfl := List.length_eq_zero_iff.1 h0
  refine (sort_nil _ w).mono ?_
  rintro e w' ⟨rfl, hb⟩
  exact ⟨[], rfl, List.Perm.refl _, List.Pairwise.nil, Kd.R_below h hb, grown_of_below hb _⟩
 ·subst hv
  obtain ⟨hH, hg, hn⟩ := holds_own h
  have hc := AnyQ.slices_SortFunc (P := Try.prog) (ρ := Try.sortY_ren) Try.sortY 2 Try.isAgg38 Try.sizeOf38 encY encY_len encY_one cfY swoY 25 #[] g 0 cap ys.toArray w eg_cmp (fun m os dk _ x y => compare_calls x y _) hH hg (by simpa using hl)
  refine Calls.mono (show Calls Try.prog 45 #[.slice (some ⟨g, 0, none⟩) ys.length cap, .func (.func 25) #[] #[]] w _ from hc) ?_
  rintro e w' ⟨rfl, d, m, os, hp, hs, rfl⟩
  obtain ⟨hsz, _, hperm⟩ := hp
  simp only [List.size_toArray] at hsz hs
  obtain ⟨r1, r2⟩ := own_sorted h m d os hsz
  refine ⟨d.toList, rfl, ?_, ?_, r1, r2⟩
  ·have e1 : (d.extract 0 ys.toArray.size).toList = d.toList := by simp [← hsz]
   have e2 : (ys.toArray.extract 0 ys.toArray.size).toList = ys := by simp
   rw [e1, e2] at hperm
   exact hperm
  ·unfold SortedY
   rw [List.pairwise_iff_getElem]
   intro i j hi hj hij
   have hj' : j < ys.length := by rw [← hsz]; simpa using hj
   have := hs i j (Nat.zero_le _) hij hj'
   rw [ltY, getElem!_pos d j (by omega), getElem!_pos d i (by omega)] at this
   simpa using this
end Go.Proofs.Ytdgjjdpeaohebaa.Mk
