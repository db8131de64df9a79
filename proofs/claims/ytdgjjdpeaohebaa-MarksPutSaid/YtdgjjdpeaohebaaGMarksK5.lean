/- Marks: the walk of slices.Compact at a row of sites of a call's own. Conditions: at most 2^40 sites. -/
import Derived.Test.YtdgjjdpeaohebaaGMarksK4
namespace Go.Proofs.Ytdgjjdpeaohebaa.Mk
open Go.RowKit Go.Proofs.YtdgjjdpeaohebaaOwn Go.Proofs.YtdgjjdpeaohebaaW.PrintWords Go.Proofs.YtdgjjdpeaohebaaW.PrintLast Go.Proofs.YtdgjjdpeaohebaaW.PrintMore Go.Proofs.Ytdgjjdpeaohebaa.PMarksTake Go.Proofs.Ytdgjjdpeaohebaa.Pure
set_option linter.unusedVariables false
set_option linter.unusedSimpArgs false
def cntM : Value → Nat
 | .int _ i => i.toNat
 | _ => 0
/-- A row of the call's own, and what it was. -/
structure CmZ (w : World) (base g n c : Nat) (cur : List SY) (W : World) : Prop where
 row : Kd.R kY 38 W base (fun _ => True) (.slice (some ⟨g, 0, none⟩) n c) cur
 grew : w.grownBy W (some g)
theorem CmZ.next {w W W' : World} {base g n c : Nat} {cur : List SY} (h : CmZ w base g n c cur W) (hb : Below W.heap.size W W') : CmZ w base g n c cur W' := ⟨Kd.R_below h.row hb, World.grownBy.trans h.grew (grown_of_below hb _)⟩
theorem CmZ.set {w W : World} {base g n c : Nat} {cur : List SY} (h : CmZ w base g n c cur W) {i : Nat} (hi : i < n) (x : SY) : CmZ w base g n c (cur.set i x) ((W.setCell ⟨g, i * 2, none⟩ (.int .i64 x.f0)).setCell ⟨g, i * 2 + 1, none⟩ (.int .i64 x.f1)) := ⟨(own_set h.row hi x).1, World.grownBy.trans h.grew (own_set h.row hi x).2⟩
abbrev Q4c (g a b : Nat) (u0 u1 v0 v1 : Value) (w' : World) : Prop := w'.cell? ⟨g, a, none⟩ = some u0 ∧ w'.cell? ⟨g, a + 1, none⟩ = some u1 ∧ w'.cell? ⟨g, b, none⟩ = some v0 ∧ w'.cell? ⟨g, b + 1, none⟩ = some v1
theorem Q4c.next {W W' : World} {g a b : Nat} {u0 u1 v0 v1 : Value} (h : Q4c g a b u0 u1 v0 v1 W) (hb : Below W.heap.size W W') : Q4c g a b u0 u1 v0 v1 W' := ⟨pw_cell_below hb h.1, pw_cell_below hb h.2.1, pw_cell_below hb h.2.2.1, pw_cell_below hb h.2.2.2⟩
theorem infoY : (Try.prog.info? 38).map (fun i => (i.zero, i.size, i.bytes)) = some (some (.agg #[.int .i64 0, .int .i64 0]), 2, 16) := by kernel_rfl
theorem infoY2 : ∃ i, Try.prog.info? 38 = some i ∧ i.size = 2 := by
 obtain ⟨i, h1, h2⟩ := Option.map_eq_some_iff.1 infoY
 simp only [Prod.mk.injEq] at h2
 exact ⟨i, h1, h2.2.1⟩
theorem cutTo (g n c i : Nat) (hi : i ≤ n) (hnc : n ≤ c) (W : World) : (Instr.slice 23 (.slice (some ⟨g, 0, none⟩) n c) none (some (.int .i64 (i : Int))) none).run Try.prog W = .ok (.slice (some ⟨g, 0, none⟩) i c) W := by
 obtain ⟨i5, hi5, hs5⟩ := infoY2
 have := cut_to (P := Try.prog) 23 38 .i64 Try.underlying23 hi5 (some ⟨g, 0, none⟩) n c (i : Int) (by omega) (by omega) hnc W
 rw [Int.toNat_natCast] at this
 exact this
set_option maxRecDepth 100000 in
theorem cutFrom (g n c i : Nat) (hi : i ≤ n) (W : World) : (Instr.slice 23 (.slice (some ⟨g, 0, none⟩) n c) (some (.int .i64 (i : Int))) none none).run Try.prog W = .ok (.slice (if c = i then some ⟨g, 0, none⟩ else some ⟨g, i * 2, none⟩) (n - i) (c - i)) W := by
 obtain ⟨i5, hi5, hs5⟩ := infoY2
 have := cut_from (P := Try.prog) 23 38 .i64 Try.underlying23 hi5 2 hs5 (some ⟨g, 0, none⟩) n c (i : Int) (by omega) (by omega) W
 rw [Int.toNat_natCast] at this
 rw [this]
 congr 2
 split <;> simp [add_plain]
theorem get_dropM {cur l : List SY} {i j : Nat} (h : cur.drop i = l.drop i) (hij : i ≤ j) : cur[j]? = l[j]? := by
 have h1 : (cur.drop i)[j - i]? = (l.drop i)[j - i]? := by rw [h]
 rwa [List.getElem?_drop, List.getElem?_drop, show i + (j - i) = j by omega] at h1
/-- What holds all along the inner loop. -/
structure InZ (w : World) (base g c : Nat) (l : List SY) (i j : Nat) (cur : List SY) (W : World) : Prop where
 len : cur.length = l.length
 got : cur.take i = ddT l j
 rest : cur.drop (j - 1) = l.drop (j - 1)
 z : CmZ w base g l.length c cur W
theorem take_set_M {cur : List SY} {i : Nat} {x : SY} (h : i < cur.length) : (cur.set i x).take (i + 1) = cur.take i ++ [x] := by
 rw [List.take_succ_eq_append_getElem (by rw [List.length_set]; exact h), List.getElem_set_self, List.take_set_of_le (Nat.le_refl _)]
def RetCm (l : List SY) (base : Nat) (v : Value) (w : World) (e : Ending) (w' : World) : Prop := ∃ v', e = .returned v' ∧ Kd.R kY 38 w' base (fun _ => True) v' (ddT l l.length) ∧ w.grownBy w' v.ownBlock
theorem ddT_one (l : List SY) (h : l.length < 2) : ddT l l.length = l := by
 match l, h with
 | [], _ => rfl
 | [x], _ => rfl
set_option maxRecDepth 1000000 in
set_option maxHeartbeats 8000000 in
theorem compact_calls (v : Value) (l : List SY) (base : Nat) (w : World) (h : Kd.R kY 38 w base (fun _ => True) v l) (hl : l.length ≤ 1099511627776) : Calls Try.prog 46 #[v] w (RetCm l base v w) := by
 have HR := Lib.hid h
 obtain ⟨A, c, rfl⟩ := Kd.R_slice h
 by_cases h2 : l.length < 2
 ·have d1 : decide ((l.length : Int) < 2) = true := by simp; omega
  have E := Lib.hid (ddT_one l h2)
  clear h
  go_enter Try.func46, Try.ntmps46
  go_wp2
  go_ret
  exact ⟨_, rfl, by rw [E.out]; exact HR.out, grown_of_below (Below.refl _ _) _⟩
 ·have d1 : decide ((l.length : Int) < 2) = false := by simp; omega
  obtain ⟨g, cap, he, hbase, hgl, _⟩ := Kd.R_form h (by omega)
  injection he with e1 e2 e3
  subst e1; subst e3
  have C0 := Lib.hid (show CmZ w base g l.length c l w from ⟨h, grown_of_below (Below.refl _ _) _⟩)
  have D1 : Hid (ddT l 1 = l.take 1) := Lib.hid (by
   obtain ⟨x, hx⟩ : ∃ x, l[0]? = some x := ⟨_, List.getElem?_eq_getElem (by omega)⟩
   rw [ddT_more hx (fun h => absurd h (Nat.lt_irrefl 0)), List.take_one]
   simp [ddT, List.head?_eq_getElem?, hx])
  have HC : Hid (l.length ≤ c) := Lib.hid (by have := (Kd.R_reads' h).2.1; omega)
  clear h e2 hbase hgl HR
  go_enter Try.func46, Try.ntmps46
  go_wp2
  go_loopw [3] (fun s3 wr => ∃ k : Nat, 1 ≤ k ∧ k ≤ l.length ∧ s3 = .int .i64 (k : Int) ∧ Hid (ddT l k = l.take k) ∧ Hid (CmZ w base g l.length c l wr)) (fun s3 _ => l.length - cntM s3)
  case atStart => exact ⟨1, Nat.le_refl _, by omega, rfl, D1, C0⟩
  case round =>
   obtain ⟨k, hk1, hk2, rfl, DK, CW⟩ := hrel
   by_cases hlt : k < l.length
   ·have d2 : decide ((k : Int) < (l.length : Int)) = true := by simp; omega
    have b1 : (0 : Int) ≤ (k : Int) := by omega
    have b2 : (k : Int) < (l.length : Int) := by omega
    have w1_ : IntKind.i64.wrap ((k : Int) + 1) = (k : Int) + 1 := IntWalk.i64_in _ (by omega)
    obtain ⟨y, hy⟩ : ∃ y, l[k]? = some y := ⟨_, List.getElem?_eq_getElem hlt⟩
    obtain ⟨p, hp⟩ : ∃ p, l[k - 1]? = some p := ⟨_, List.getElem?_eq_getElem (by omega)⟩
    obtain ⟨y0, y1⟩ := own_at CW.out.row hy
    obtain ⟨p0, p1⟩ := own_at CW.out.row hp
    obtain ⟨j, hj⟩ : ∃ j, j = k - 1 := ⟨_, rfl⟩
    have w2_ : IntKind.i64.wrap ((k : Int) - 1) = (j : Int) := by rw [show (k : Int) - 1 = (j : Int) by omega]; exact IntWalk.i64_in _ (by omega)
    have b3 : (0 : Int) ≤ (j : Int) := by omega
    have b4 : (j : Int) < (l.length : Int) := by omega
    rw [← hj] at hp p0 p1
    have HY := Lib.hid hy
    have HP := Lib.hid hp
    have HJ := Lib.hid hj
    clear hy hp hj
    obtain ⟨a0, ha0⟩ : ∃ a, a = y.f0 := ⟨_, rfl⟩
    obtain ⟨a1, ha1⟩ : ∃ a, a = y.f1 := ⟨_, rfl⟩
    obtain ⟨c0, hc0⟩ : ∃ a, a = p.f0 := ⟨_, rfl⟩
    obtain ⟨c1, hc1⟩ : ∃ a, a = p.f1 := ⟨_, rfl⟩
    rw [← ha0] at y0
    rw [← ha1] at y1
    rw [← hc0] at p0
    rw [← hc1] at p1
    have EA := Lib.hid (And.intro ha0 (And.intro ha1 (And.intro hc0 hc1)))
    clear ha0 ha1 hc0 hc1
    by_cases q0 : a0 = c0
    ·subst q0
     by_cases q1 : a1 = c1
     ·subst q1
      have EQ := Lib.hid (show y = p by obtain ⟨z0, z1, z2, z3⟩ := EA.out; cases y; cases p; simp only at z0 z1 z2 z3; rw [← z0, ← z1, ← z2, ← z3])
      clear EA
      go_upto_region 6 with (fail)
      refine wp_region_noPanic ?_
      refine wp_region_held_drew (S := fun w' => Q4c g (k * 2) (j * 2) (.int .i64 a0) (.int .i64 a1) (.int .i64 a0) (.int .i64 a1) w') ?hm_ra ?hS_ra (fun hHeld => ?_)
      case hm_ra => kernel_rfl
      case hS_ra => exact Q4c.next ⟨y0, y1, p0, p1⟩ (by with_reducible repeat (first | exact Below.refl _ _ | apply pw_below_drewN | apply Below.drew | apply below_alloc))
      refine wpAnyH_take (i := 0) (oi := ?ora0) (v := ?vra0) ?hi_ra0 ?k1_ra0 ?k2_ra0 ?k3_ra0 (fun _ _ _ h => h) (Or.inl ⟨?g_ra0, ?y_ra0⟩) (by assumption) ?r_ra0
      case hi_ra0 => (simp only [List.getElem?_toArray, List.getElem?_cons_succ, List.getElem?_cons_zero]; rfl)
      case k1_ra0 => kernel_rfl
      case k2_ra0 => kernel_rfl
      case k3_ra0 => kernel_rfl
      case g_ra0 => rfl
      case y_ra0 => (intro w hSw; (try dsimp only at hSw); first | (go_simp; done) | (go_simp; with_reducible rfl))
      (try simp only [Act.put, List.setIfInBounds_toArray, List.set_cons_zero, List.set_cons_succ])
      refine wpAnyH_take (i := 1) (oi := ?ora1) (v := ?vra1) ?hi_ra1 ?k1_ra1 ?k2_ra1 ?k3_ra1 (fun _ _ _ h => h) (Or.inl ⟨?g_ra1, ?y_ra1⟩) (by assumption) ?r_ra1
      case hi_ra1 => (simp only [List.getElem?_toArray, List.getElem?_cons_succ, List.getElem?_cons_zero]; rfl)
      case k1_ra1 => kernel_rfl
      case k2_ra1 => kernel_rfl
      case k3_ra1 => kernel_rfl
      case g_ra1 => rfl
      case y_ra1 => (intro w hSw; (try dsimp only at hSw); first | (go_simp; done) | (go_simp; with_reducible rfl))
      (try simp only [Act.put, List.setIfInBounds_toArray, List.set_cons_zero, List.set_cons_succ])
      refine wpAnyH_take (i := 2) (oi := ?ora2) (v := ?vra2) ?hi_ra2 ?k1_ra2 ?k2_ra2 ?k3_ra2 (fun _ _ _ h => h) (Or.inl ⟨?g_ra2, ?y_ra2⟩) (by assumption) ?r_ra2
      case hi_ra2 => (simp only [List.getElem?_toArray, List.getElem?_cons_succ, List.getElem?_cons_zero]; rfl)
      case k1_ra2 => kernel_rfl
      case k2_ra2 => kernel_rfl
      case k3_ra2 => kernel_rfl
      case g_ra2 => rfl
      case y_ra2 => (intro w hSw; (try dsimp only at hSw); first | (go_simp; done) | (go_simp; with_reducible rfl))
      (try simp only [Act.put, List.setIfInBounds_toArray, List.set_cons_zero, List.set_cons_succ])
      refine wpAnyH_take (i := 3) (oi := ?ora3) (v := ?vra3) ?hi_ra3 ?k1_ra3 ?k2_ra3 ?k3_ra3 (fun _ _ _ h => h) (Or.inl ⟨?g_ra3, ?y_ra3⟩) (by assumption) ?r_ra3
      case hi_ra3 => (simp only [List.getElem?_toArray, List.getElem?_cons_succ, List.getElem?_cons_zero]; rfl)
      case k1_ra3 => kernel_rfl
      case k2_ra3 => kernel_rfl
      case k3_ra3 => kernel_rfl
      case g_ra3 => rfl
      case y_ra3 => (intro w hSw; (try dsimp only at hSw); first | (go_simp; done) | (go_simp; with_reducible rfl))
      (try simp only [Act.put, List.setIfInBounds_toArray, List.set_cons_zero, List.set_cons_succ])
      refine wpAnyH_take (i := 4) (oi := ?ora4) (v := ?vra4) ?hi_ra4 ?k1_ra4 ?k2_ra4 ?k3_ra4 (fun _ _ _ h => h) (Or.inl ⟨?g_ra4, ?y_ra4⟩) (by assumption) ?r_ra4
      case hi_ra4 => (simp only [List.getElem?_toArray, List.getElem?_cons_succ, List.getElem?_cons_zero]; rfl)
      case k1_ra4 => kernel_rfl
      case k2_ra4 => kernel_rfl
      case k3_ra4 => kernel_rfl
      case g_ra4 => rfl
      case y_ra4 => (intro w hSw; (try dsimp only at hSw); first | (go_simp; done) | (go_simp; with_reducible rfl))
      (try simp only [Act.put, List.setIfInBounds_toArray, List.set_cons_zero, List.set_cons_succ])
      refine wpAnyH_take (i := 5) (oi := ?ora5) (v := ?vra5) ?hi_ra5 ?k1_ra5 ?k2_ra5 ?k3_ra5 (fun _ _ _ h => h) (Or.inl ⟨?g_ra5, ?y_ra5⟩) (by assumption) ?r_ra5
      case hi_ra5 => (simp only [List.getElem?_toArray, List.getElem?_cons_succ, List.getElem?_cons_zero]; rfl)
      case k1_ra5 => kernel_rfl
      case k2_ra5 => kernel_rfl
      case k3_ra5 => kernel_rfl
      case g_ra5 => rfl
      case y_ra5 => (intro w hSw; (try dsimp only at hSw); first | (go_simp; done) | (go_simp; with_reducible rfl))
      (try simp only [Act.put, List.setIfInBounds_toArray, List.set_cons_zero, List.set_cons_succ])
      refine wpAnyH_take (i := 6) (oi := ?ora6) (v := ?vra6) ?hi_ra6 ?k1_ra6 ?k2_ra6 ?k3_ra6 (fun _ _ _ h => h) (Or.inl ⟨?g_ra6, ?y_ra6⟩) (by assumption) ?r_ra6
      case hi_ra6 => (simp only [List.getElem?_toArray, List.getElem?_cons_succ, List.getElem?_cons_zero]; rfl)
      case k1_ra6 => kernel_rfl
      case k2_ra6 => kernel_rfl
      case k3_ra6 => kernel_rfl
      case g_ra6 => rfl
      case y_ra6 => (intro w hSw; (try dsimp only at hSw); first | (go_simp; done) | (go_simp; with_reducible rfl))
      (try simp only [Act.put, List.setIfInBounds_toArray, List.set_cons_zero, List.set_cons_succ])
      refine wpAnyH_take (i := 7) (oi := ?ora7) (v := ?vra7) ?hi_ra7 ?k1_ra7 ?k2_ra7 ?k3_ra7 (fun _ _ _ h => h) (Or.inl ⟨?g_ra7, ?y_ra7⟩) (by assumption) ?r_ra7
      case hi_ra7 => (simp only [List.getElem?_toArray, List.getElem?_cons_succ, List.getElem?_cons_zero]; rfl)
      case k1_ra7 => kernel_rfl
      case k2_ra7 => kernel_rfl
      case k3_ra7 => kernel_rfl
      case g_ra7 => rfl
      case y_ra7 => (intro w hSw; (try dsimp only at hSw); first | (go_simp; done) | (go_simp; with_reducible rfl))
      (try simp only [Act.put, List.setIfInBounds_toArray, List.set_cons_zero, List.set_cons_succ])
      refine wpAnyH_take (i := 8) (oi := ?ora8) (v := ?vra8) ?hi_ra8 ?k1_ra8 ?k2_ra8 ?k3_ra8 (fun _ _ _ h => h) (Or.inl ⟨?g_ra8, ?y_ra8⟩) (by assumption) ?r_ra8
      case hi_ra8 => (simp only [List.getElem?_toArray, List.getElem?_cons_succ, List.getElem?_cons_zero]; rfl)
      case k1_ra8 => kernel_rfl
      case k2_ra8 => kernel_rfl
      case k3_ra8 => kernel_rfl
      case g_ra8 => rfl
      case y_ra8 => (intro w hSw; (try dsimp only at hSw); first | (go_simp; done) | (go_simp; with_reducible rfl))
      (try simp only [Act.put, List.setIfInBounds_toArray, List.set_cons_zero, List.set_cons_succ])
      refine wpAnyH_take (i := 9) (oi := ?ora9) (v := ?vra9) ?hi_ra9 ?k1_ra9 ?k2_ra9 ?k3_ra9 (fun _ _ _ h => h) (Or.inl ⟨?g_ra9, ?y_ra9⟩) (by assumption) ?r_ra9
      case hi_ra9 => (simp only [List.getElem?_toArray, List.getElem?_cons_succ, List.getElem?_cons_zero]; rfl)
      case k1_ra9 => kernel_rfl
      case k2_ra9 => kernel_rfl
      case k3_ra9 => kernel_rfl
      case g_ra9 => rfl
      case y_ra9 => (intro w hSw; (try dsimp only at hSw); first | (go_simp; done) | (go_simp; with_reducible rfl))
      (try simp only [Act.put, List.setIfInBounds_toArray, List.set_cons_zero, List.set_cons_succ])
      refine wpAnyH_done (by kernel_rfl) ?_ _
      refine NoPanic.normal ?_
      clear y0 y1 p0 p1 hHeld
      refine gen2 (φ := fun W => Exit.then _ _ Exit.normal _ W) (P := fun W => Below wr.heap.size wr W) (by with_reducible repeat (first | exact Below.refl _ _ | apply pw_below_drewN | apply Below.drew)) ?_
      rintro V hV
      have C1 := Lib.hid (CW.out.next hV)
      clear hV CW
      have S0 : Hid (l.take k = ddT l (k + 1)) := Lib.hid (by rw [ddT_same (by have := HJ.out; omega) HY.out (by rw [← HJ.out, HP.out, EQ.out]), DK.out])
      have hf0 : ∀ W, (Instr.slice 23 (.slice (some ⟨g, 0, none⟩) l.length c) (some (.int .i64 (k : Int))) none none).run Try.prog W = .ok (.slice (some ⟨g, k * 2, none⟩) (l.length - k) (c - k)) W := fun W => by
       rw [cutFrom g l.length c k (by omega) W, if_neg (by have := HC.out; omega)]
      have JK : Hid (k = j + 1) := Lib.hid (by have := HJ.out; have := b3; omega)
      clear EQ HY HP HJ DK b3 b4 w2_
      go_wp2
      clear hf0
      go_loopw [3, 5] (fun s3 s5 wr => ∃ (i m : Nat) (cur : List SY), 1 ≤ m ∧ k + m ≤ l.length ∧ i < k + m ∧ s3 = .int .i64 (i : Int) ∧ s5 = .int .i64 (m : Int) ∧ Hid (InZ w base g c l i (k + m) cur wr)) (fun _ s5 _ => l.length - k - cntM s5)
      case atStart => exact ⟨k, 1, l, Nat.le_refl _, by omega, by omega, rfl, rfl, Lib.hid ⟨rfl, S0.out, rfl, C1.out⟩⟩
      case round =>
       obtain ⟨i, m, cur, hm1, hm2, him, rfl, rfl, ZW⟩ := hrel
       by_cases hlt2 : m < l.length - k
       ·have d3 : decide ((m : Int) < ((l.length - k : Nat) : Int)) = true := by simp; omega
        have f1 : (0 : Int) ≤ (m : Int) := by omega
        have f2 : (m : Int) < ((l.length - k : Nat) : Int) := by omega
        have w3_ : IntKind.i64.wrap ((m : Int) + 1) = (m : Int) + 1 := IntWalk.i64_in _ (by omega)
        have w4_ : IntKind.i64.wrap ((i : Int) + 1) = (i : Int) + 1 := IntWalk.i64_in _ (by omega)
        obtain ⟨t, ht⟩ : ∃ t, t = m - 1 := ⟨_, rfl⟩
        have w5_ : IntKind.i64.wrap ((m : Int) - 1) = (t : Int) := by rw [show (m : Int) - 1 = (t : Int) by omega]; exact IntWalk.i64_in _ (by omega)
        have f3 : (0 : Int) ≤ (t : Int) := by omega
        have f4 : (t : Int) < ((l.length - k : Nat) : Int) := by omega
        obtain ⟨y, hy⟩ : ∃ y, l[k + m]? = some y := ⟨_, List.getElem?_eq_getElem (by omega)⟩
        obtain ⟨p, hp⟩ : ∃ p, l[k + t]? = some p := ⟨_, List.getElem?_eq_getElem (by omega)⟩
        obtain ⟨y0, y1⟩ := own_at ZW.out.z.row ((get_dropM ZW.out.rest (by omega)).trans hy)
        obtain ⟨p0, p1⟩ := own_at ZW.out.z.row ((get_dropM ZW.out.rest (by omega)).trans hp)
        rw [show (k + m) * 2 = k * 2 + m * 2 by omega] at y0 y1
        rw [show (k + t) * 2 = k * 2 + t * 2 by omega] at p0 p1
        have HY := Lib.hid hy
        have HP : Hid (l[k + m - 1]? = some p) := Lib.hid (by rw [show k + m - 1 = k + t by omega]; exact hp)
        clear hy hp ht
        obtain ⟨a0, a1⟩ := y
        obtain ⟨c0, c1⟩ := p
        simp only at y0 y1 p0 p1
        by_cases q0 : a0 = c0
        ·subst q0
         by_cases q1 : a1 = c1
         ·subst q1
          go_upto_region 11 with (fail)
          refine wp_region_noPanic ?_
          refine wp_region_held_drew (S := fun w' => Q4c g (k * 2 + m * 2) (k * 2 + t * 2) (.int .i64 a0) (.int .i64 a1) (.int .i64 a0) (.int .i64 a1) w') ?hm_ia ?hS_ia (fun hHeld => ?_)
          case hm_ia => kernel_rfl
          case hS_ia => exact Q4c.next ⟨y0, y1, p0, p1⟩ (by with_reducible repeat (first | exact Below.refl _ _ | apply pw_below_drewN | apply Below.drew | apply below_alloc))
          refine wpAnyH_take (i := 0) (oi := ?oia0) (v := ?via0) ?hi_ia0 ?k1_ia0 ?k2_ia0 ?k3_ia0 (fun _ _ _ h => h) (Or.inl ⟨?g_ia0, ?y_ia0⟩) (by assumption) ?r_ia0
          case hi_ia0 => (simp only [List.getElem?_toArray, List.getElem?_cons_succ, List.getElem?_cons_zero]; rfl)
          case k1_ia0 => kernel_rfl
          case k2_ia0 => kernel_rfl
          case k3_ia0 => kernel_rfl
          case g_ia0 => rfl
          case y_ia0 => (intro w hSw; (try dsimp only at hSw); first | (go_simp; done) | (go_simp; with_reducible rfl))
          (try simp only [Act.put, List.setIfInBounds_toArray, List.set_cons_zero, List.set_cons_succ])
          refine wpAnyH_take (i := 1) (oi := ?oia1) (v := ?via1) ?hi_ia1 ?k1_ia1 ?k2_ia1 ?k3_ia1 (fun _ _ _ h => h) (Or.inl ⟨?g_ia1, ?y_ia1⟩) (by assumption) ?r_ia1
          case hi_ia1 => (simp only [List.getElem?_toArray, List.getElem?_cons_succ, List.getElem?_cons_zero]; rfl)
          case k1_ia1 => kernel_rfl
          case k2_ia1 => kernel_rfl
          case k3_ia1 => kernel_rfl
          case g_ia1 => rfl
          case y_ia1 => (intro w hSw; (try dsimp only at hSw); first | (go_simp; done) | (go_simp; with_reducible rfl))
          (try simp only [Act.put, List.setIfInBounds_toArray, List.set_cons_zero, List.set_cons_succ])
          refine wpAnyH_take (i := 2) (oi := ?oia2) (v := ?via2) ?hi_ia2 ?k1_ia2 ?k2_ia2 ?k3_ia2 (fun _ _ _ h => h) (Or.inl ⟨?g_ia2, ?y_ia2⟩) (by assumption) ?r_ia2
          case hi_ia2 => (simp only [List.getElem?_toArray, List.getElem?_cons_succ, List.getElem?_cons_zero]; rfl)
          case k1_ia2 => kernel_rfl
          case k2_ia2 => kernel_rfl
          case k3_ia2 => kernel_rfl
          case g_ia2 => rfl
          case y_ia2 => (intro w hSw; (try dsimp only at hSw); first | (go_simp; done) | (go_simp; with_reducible rfl))
          (try simp only [Act.put, List.setIfInBounds_toArray, List.set_cons_zero, List.set_cons_succ])
          refine wpAnyH_take (i := 3) (oi := ?oia3) (v := ?via3) ?hi_ia3 ?k1_ia3 ?k2_ia3 ?k3_ia3 (fun _ _ _ h => h) (Or.inl ⟨?g_ia3, ?y_ia3⟩) (by assumption) ?r_ia3
          case hi_ia3 => (simp only [List.getElem?_toArray, List.getElem?_cons_succ, List.getElem?_cons_zero]; rfl)
          case k1_ia3 => kernel_rfl
          case k2_ia3 => kernel_rfl
          case k3_ia3 => kernel_rfl
          case g_ia3 => rfl
          case y_ia3 => (intro w hSw; (try dsimp only at hSw); first | (go_simp; done) | (go_simp; with_reducible rfl))
          (try simp only [Act.put, List.setIfInBounds_toArray, List.set_cons_zero, List.set_cons_succ])
          refine wpAnyH_take (i := 4) (oi := ?oia4) (v := ?via4) ?hi_ia4 ?k1_ia4 ?k2_ia4 ?k3_ia4 (fun _ _ _ h => h) (Or.inl ⟨?g_ia4, ?y_ia4⟩) (by assumption) ?r_ia4
          case hi_ia4 => (simp only [List.getElem?_toArray, List.getElem?_cons_succ, List.getElem?_cons_zero]; rfl)
          case k1_ia4 => kernel_rfl
          case k2_ia4 => kernel_rfl
          case k3_ia4 => kernel_rfl
          case g_ia4 => rfl
          case y_ia4 => (intro w hSw; (try dsimp only at hSw); first | (go_simp; done) | (go_simp; with_reducible rfl))
          (try simp only [Act.put, List.setIfInBounds_toArray, List.set_cons_zero, List.set_cons_succ])
          refine wpAnyH_take (i := 5) (oi := ?oia5) (v := ?via5) ?hi_ia5 ?k1_ia5 ?k2_ia5 ?k3_ia5 (fun _ _ _ h => h) (Or.inl ⟨?g_ia5, ?y_ia5⟩) (by assumption) ?r_ia5
          case hi_ia5 => (simp only [List.getElem?_toArray, List.getElem?_cons_succ, List.getElem?_cons_zero]; rfl)
          case k1_ia5 => kernel_rfl
          case k2_ia5 => kernel_rfl
          case k3_ia5 => kernel_rfl
          case g_ia5 => rfl
          case y_ia5 => (intro w hSw; (try dsimp only at hSw); first | (go_simp; done) | (go_simp; with_reducible rfl))
          (try simp only [Act.put, List.setIfInBounds_toArray, List.set_cons_zero, List.set_cons_succ])
          refine wpAnyH_take (i := 6) (oi := ?oia6) (v := ?via6) ?hi_ia6 ?k1_ia6 ?k2_ia6 ?k3_ia6 (fun _ _ _ h => h) (Or.inl ⟨?g_ia6, ?y_ia6⟩) (by assumption) ?r_ia6
          case hi_ia6 => (simp only [List.getElem?_toArray, List.getElem?_cons_succ, List.getElem?_cons_zero]; rfl)
          case k1_ia6 => kernel_rfl
          case k2_ia6 => kernel_rfl
          case k3_ia6 => kernel_rfl
          case g_ia6 => rfl
          case y_ia6 => (intro w hSw; (try dsimp only at hSw); first | (go_simp; done) | (go_simp; with_reducible rfl))
          (try simp only [Act.put, List.setIfInBounds_toArray, List.set_cons_zero, List.set_cons_succ])
          refine wpAnyH_take (i := 7) (oi := ?oia7) (v := ?via7) ?hi_ia7 ?k1_ia7 ?k2_ia7 ?k3_ia7 (fun _ _ _ h => h) (Or.inl ⟨?g_ia7, ?y_ia7⟩) (by assumption) ?r_ia7
          case hi_ia7 => (simp only [List.getElem?_toArray, List.getElem?_cons_succ, List.getElem?_cons_zero]; rfl)
          case k1_ia7 => kernel_rfl
          case k2_ia7 => kernel_rfl
          case k3_ia7 => kernel_rfl
          case g_ia7 => rfl
          case y_ia7 => (intro w hSw; (try dsimp only at hSw); first | (go_simp; done) | (go_simp; with_reducible rfl))
          (try simp only [Act.put, List.setIfInBounds_toArray, List.set_cons_zero, List.set_cons_succ])
          refine wpAnyH_take (i := 8) (oi := ?oia8) (v := ?via8) ?hi_ia8 ?k1_ia8 ?k2_ia8 ?k3_ia8 (fun _ _ _ h => h) (Or.inl ⟨?g_ia8, ?y_ia8⟩) (by assumption) ?r_ia8
          case hi_ia8 => (simp only [List.getElem?_toArray, List.getElem?_cons_succ, List.getElem?_cons_zero]; rfl)
          case k1_ia8 => kernel_rfl
          case k2_ia8 => kernel_rfl
          case k3_ia8 => kernel_rfl
          case g_ia8 => rfl
          case y_ia8 => (intro w hSw; (try dsimp only at hSw); first | (go_simp; done) | (go_simp; with_reducible rfl))
          (try simp only [Act.put, List.setIfInBounds_toArray, List.set_cons_zero, List.set_cons_succ])
          refine wpAnyH_take (i := 9) (oi := ?oia9) (v := ?via9) ?hi_ia9 ?k1_ia9 ?k2_ia9 ?k3_ia9 (fun _ _ _ h => h) (Or.inl ⟨?g_ia9, ?y_ia9⟩) (by assumption) ?r_ia9
          case hi_ia9 => (simp only [List.getElem?_toArray, List.getElem?_cons_succ, List.getElem?_cons_zero]; rfl)
          case k1_ia9 => kernel_rfl
          case k2_ia9 => kernel_rfl
          case k3_ia9 => kernel_rfl
          case g_ia9 => rfl
          case y_ia9 => (intro w hSw; (try dsimp only at hSw); first | (go_simp; done) | (go_simp; with_reducible rfl))
          (try simp only [Act.put, List.setIfInBounds_toArray, List.set_cons_zero, List.set_cons_succ])
          refine wpAnyH_done (by kernel_rfl) ?_ _
          refine NoPanic.normal ?_
          clear y0 y1 p0 p1 hHeld
          refine gen2 (φ := fun W => Exit.then _ _ Exit.normal _ W) (P := fun W => Below wr.heap.size wr W) (by with_reducible repeat (first | exact Below.refl _ _ | apply pw_below_drewN | apply Below.drew)) ?_
          rintro V2 hV
          have Z2 := Lib.hid (ZW.out.z.next hV)
          clear hV
          go_wp2
          go_roundw
          case rel => exact ⟨i, m + 1, cur, by omega, by omega, by omega, rfl, by go_num, Lib.hid ⟨ZW.out.len, by rw [ZW.out.got, show k + (m + 1) = k + m + 1 by omega, ddT_same (by omega) HY.out HP.out], by rw [show k + (m + 1) - 1 = k + m - 1 + 1 by omega, ← List.drop_drop, ZW.out.rest, List.drop_drop], Z2.out⟩⟩
          case measure =>
           simp only [cntM]
           omega
         ·have NE : Hid ((⟨a0, a1⟩ : SY) ≠ ⟨a0, c1⟩) := Lib.hid (fun e => q1 (by injection e))
          go_upto_region 11 with (fail)
          refine wp_region_noPanic ?_
          refine wp_region_held_drew (S := fun w' => Q4c g (k * 2 + m * 2) (k * 2 + t * 2) (.int .i64 a0) (.int .i64 a1) (.int .i64 a0) (.int .i64 c1) w') ?hm_ib ?hS_ib (fun hHeld => ?_)
          case hm_ib => kernel_rfl
          case hS_ib => exact Q4c.next ⟨y0, y1, p0, p1⟩ (by with_reducible repeat (first | exact Below.refl _ _ | apply pw_below_drewN | apply Below.drew | apply below_alloc))
          refine wpAnyH_take (i := 0) (oi := ?oib0) (v := ?vib0) ?hi_ib0 ?k1_ib0 ?k2_ib0 ?k3_ib0 (fun _ _ _ h => h) (Or.inl ⟨?g_ib0, ?y_ib0⟩) (by assumption) ?r_ib0
          case hi_ib0 => (simp only [List.getElem?_toArray, List.getElem?_cons_succ, List.getElem?_cons_zero]; rfl)
          case k1_ib0 => kernel_rfl
          case k2_ib0 => kernel_rfl
          case k3_ib0 => kernel_rfl
          case g_ib0 => rfl
          case y_ib0 => (intro w hSw; (try dsimp only at hSw); first | (go_simp; done) | (go_simp; with_reducible rfl))
          (try simp only [Act.put, List.setIfInBounds_toArray, List.set_cons_zero, List.set_cons_succ])
          refine wpAnyH_take (i := 1) (oi := ?oib1) (v := ?vib1) ?hi_ib1 ?k1_ib1 ?k2_ib1 ?k3_ib1 (fun _ _ _ h => h) (Or.inl ⟨?g_ib1, ?y_ib1⟩) (by assumption) ?r_ib1
          case hi_ib1 => (simp only [List.getElem?_toArray, List.getElem?_cons_succ, List.getElem?_cons_zero]; rfl)
          case k1_ib1 => kernel_rfl
          case k2_ib1 => kernel_rfl
          case k3_ib1 => kernel_rfl
          case g_ib1 => rfl
          case y_ib1 => (intro w hSw; (try dsimp only at hSw); first | (go_simp; done) | (go_simp; with_reducible rfl))
          (try simp only [Act.put, List.setIfInBounds_toArray, List.set_cons_zero, List.set_cons_succ])
          refine wpAnyH_take (i := 2) (oi := ?oib2) (v := ?vib2) ?hi_ib2 ?k1_ib2 ?k2_ib2 ?k3_ib2 (fun _ _ _ h => h) (Or.inl ⟨?g_ib2, ?y_ib2⟩) (by assumption) ?r_ib2
          case hi_ib2 => (simp only [List.getElem?_toArray, List.getElem?_cons_succ, List.getElem?_cons_zero]; rfl)
          case k1_ib2 => kernel_rfl
          case k2_ib2 => kernel_rfl
          case k3_ib2 => kernel_rfl
          case g_ib2 => rfl
          case y_ib2 => (intro w hSw; (try dsimp only at hSw); first | (go_simp; done) | (go_simp; with_reducible rfl))
          (try simp only [Act.put, List.setIfInBounds_toArray, List.set_cons_zero, List.set_cons_succ])
          refine wpAnyH_take (i := 3) (oi := ?oib3) (v := ?vib3) ?hi_ib3 ?k1_ib3 ?k2_ib3 ?k3_ib3 (fun _ _ _ h => h) (Or.inl ⟨?g_ib3, ?y_ib3⟩) (by assumption) ?r_ib3
          case hi_ib3 => (simp only [List.getElem?_toArray, List.getElem?_cons_succ, List.getElem?_cons_zero]; rfl)
          case k1_ib3 => kernel_rfl
          case k2_ib3 => kernel_rfl
          case k3_ib3 => kernel_rfl
          case g_ib3 => rfl
          case y_ib3 => (intro w hSw; (try dsimp only at hSw); first | (go_simp; done) | (go_simp; with_reducible rfl))
          (try simp only [Act.put, List.setIfInBounds_toArray, List.set_cons_zero, List.set_cons_succ])
          refine wpAnyH_take (i := 4) (oi := ?oib4) (v := ?vib4) ?hi_ib4 ?k1_ib4 ?k2_ib4 ?k3_ib4 (fun _ _ _ h => h) (Or.inl ⟨?g_ib4, ?y_ib4⟩) (by assumption) ?r_ib4
          case hi_ib4 => (simp only [List.getElem?_toArray, List.getElem?_cons_succ, List.getElem?_cons_zero]; rfl)
          case k1_ib4 => kernel_rfl
          case k2_ib4 => kernel_rfl
          case k3_ib4 => kernel_rfl
          case g_ib4 => rfl
          case y_ib4 => (intro w hSw; (try dsimp only at hSw); first | (go_simp; done) | (go_simp; with_reducible rfl))
          (try simp only [Act.put, List.setIfInBounds_toArray, List.set_cons_zero, List.set_cons_succ])
          refine wpAnyH_take (i := 5) (oi := ?oib5) (v := ?vib5) ?hi_ib5 ?k1_ib5 ?k2_ib5 ?k3_ib5 (fun _ _ _ h => h) (Or.inl ⟨?g_ib5, ?y_ib5⟩) (by assumption) ?r_ib5
          case hi_ib5 => (simp only [List.getElem?_toArray, List.getElem?_cons_succ, List.getElem?_cons_zero]; rfl)
          case k1_ib5 => kernel_rfl
          case k2_ib5 => kernel_rfl
          case k3_ib5 => kernel_rfl
          case g_ib5 => rfl
          case y_ib5 => (intro w hSw; (try dsimp only at hSw); first | (go_simp; done) | (go_simp; with_reducible rfl))
          (try simp only [Act.put, List.setIfInBounds_toArray, List.set_cons_zero, List.set_cons_succ])
          refine wpAnyH_take (i := 6) (oi := ?oib6) (v := ?vib6) ?hi_ib6 ?k1_ib6 ?k2_ib6 ?k3_ib6 (fun _ _ _ h => h) (Or.inl ⟨?g_ib6, ?y_ib6⟩) (by assumption) ?r_ib6
          case hi_ib6 => (simp only [List.getElem?_toArray, List.getElem?_cons_succ, List.getElem?_cons_zero]; rfl)
          case k1_ib6 => kernel_rfl
          case k2_ib6 => kernel_rfl
          case k3_ib6 => kernel_rfl
          case g_ib6 => rfl
          case y_ib6 => (intro w hSw; (try dsimp only at hSw); first | (go_simp; done) | (go_simp; with_reducible rfl))
          (try simp only [Act.put, List.setIfInBounds_toArray, List.set_cons_zero, List.set_cons_succ])
          refine wpAnyH_take (i := 7) (oi := ?oib7) (v := ?vib7) ?hi_ib7 ?k1_ib7 ?k2_ib7 ?k3_ib7 (fun _ _ _ h => h) (Or.inl ⟨?g_ib7, ?y_ib7⟩) (by assumption) ?r_ib7
          case hi_ib7 => (simp only [List.getElem?_toArray, List.getElem?_cons_succ, List.getElem?_cons_zero]; rfl)
          case k1_ib7 => kernel_rfl
          case k2_ib7 => kernel_rfl
          case k3_ib7 => kernel_rfl
          case g_ib7 => rfl
          case y_ib7 => (intro w hSw; (try dsimp only at hSw); first | (go_simp; done) | (go_simp; with_reducible rfl))
          (try simp only [Act.put, List.setIfInBounds_toArray, List.set_cons_zero, List.set_cons_succ])
          refine wpAnyH_take (i := 8) (oi := ?oib8) (v := ?vib8) ?hi_ib8 ?k1_ib8 ?k2_ib8 ?k3_ib8 (fun _ _ _ h => h) (Or.inl ⟨?g_ib8, ?y_ib8⟩) (by assumption) ?r_ib8
          case hi_ib8 => (simp only [List.getElem?_toArray, List.getElem?_cons_succ, List.getElem?_cons_zero]; rfl)
          case k1_ib8 => kernel_rfl
          case k2_ib8 => kernel_rfl
          case k3_ib8 => kernel_rfl
          case g_ib8 => rfl
          case y_ib8 => (intro w hSw; (try dsimp only at hSw); first | (go_simp; done) | (go_simp; with_reducible rfl))
          (try simp only [Act.put, List.setIfInBounds_toArray, List.set_cons_zero, List.set_cons_succ])
          refine wpAnyH_take (i := 9) (oi := ?oib9) (v := ?vib9) ?hi_ib9 ?k1_ib9 ?k2_ib9 ?k3_ib9 (fun _ _ _ h => h) (Or.inl ⟨?g_ib9, ?y_ib9⟩) (by assumption) ?r_ib9
          case hi_ib9 => (simp only [List.getElem?_toArray, List.getElem?_cons_succ, List.getElem?_cons_zero]; rfl)
          case k1_ib9 => kernel_rfl
          case k2_ib9 => kernel_rfl
          case k3_ib9 => kernel_rfl
          case g_ib9 => rfl
          case y_ib9 => (intro w hSw; (try dsimp only at hSw); first | (go_simp; done) | (go_simp; with_reducible rfl))
          (try simp only [Act.put, List.setIfInBounds_toArray, List.set_cons_zero, List.set_cons_succ])
          refine wpAnyH_done (by kernel_rfl) ?_ _
          refine NoPanic.normal ?_
          clear y0 y1 p0 p1 hHeld
          refine gen2 (φ := fun W => Exit.then _ _ Exit.normal _ W) (P := fun W => Below wr.heap.size wr W) (by with_reducible repeat (first | exact Below.refl _ _ | apply pw_below_drewN | apply Below.drew)) ?_
          rintro V2 hV
          have Z2 := Lib.hid (ZW.out.z.next hV)
          clear hV
          obtain ⟨u, hu⟩ : ∃ u, cur[i]? = some u := ⟨_, List.getElem?_eq_getElem (by rw [ZW.out.len]; omega)⟩
          obtain ⟨u0, u1⟩ := own_at Z2.out.row hu
          obtain ⟨y0, y1⟩ := own_at Z2.out.row ((get_dropM ZW.out.rest (by omega)).trans HY.out)
          rw [show (k + m) * 2 = k * 2 + m * 2 by omega] at y0 y1
          have z0 := own_fr Z2.out.row (i * 2)
          have z1 := own_fr Z2.out.row (i * 2 + 1)
          have g1 : (0 : Int) ≤ (i : Int) := by omega
          have g2 : (i : Int) < (l.length : Int) := by omega
          clear hu
          simp only at y0 y1
          go_upto_region 13 with fail
          refine gen2 (φ := fun W => Code.wp _ _ _ _ W) (P := fun W => CmZ w base g l.length c (cur.set i ⟨a0, a1⟩) W) (Z2.out.set (by omega) ⟨a0, a1⟩) ?_
          rintro V3 hV3
          have Z3 := Lib.hid hV3
          clear hV3 Z2 u0 u1 y0 y1 z0 z1
          go_wp2
          go_roundw
          case rel => exact ⟨i + 1, m + 1, cur.set i ⟨a0, a1⟩, by omega, by omega, by omega, by go_num, by go_num, Lib.hid ⟨by rw [List.length_set, ZW.out.len], by rw [take_set_M (by rw [ZW.out.len]; omega), ZW.out.got, show k + (m + 1) = k + m + 1 by omega, ddT_more HY.out (fun _ h => by rw [HP.out] at h; exact NE.out (Option.some.inj h).symm)], by rw [show k + (m + 1) - 1 = k + m - 1 + 1 by omega, List.drop_set_of_lt (by omega), ← List.drop_drop, ZW.out.rest, List.drop_drop], Z3.out⟩⟩
          case measure =>
           simp only [cntM]
           omega
        ·have NE : Hid ((⟨a0, a1⟩ : SY) ≠ ⟨c0, c1⟩) := Lib.hid (fun e => q0 (by injection e))
         go_upto_region 11 with (fail)
         refine wp_region_noPanic ?_
         refine wp_region_held_drew (S := fun w' => Q4c g (k * 2 + m * 2) (k * 2 + t * 2) (.int .i64 a0) (.int .i64 a1) (.int .i64 c0) (.int .i64 c1) w') ?hm_ic ?hS_ic (fun hHeld => ?_)
         case hm_ic => kernel_rfl
         case hS_ic => exact Q4c.next ⟨y0, y1, p0, p1⟩ (by with_reducible repeat (first | exact Below.refl _ _ | apply pw_below_drewN | apply Below.drew | apply below_alloc))
         refine wpAnyH_take (i := 0) (oi := ?oic0) (v := ?vic0) ?hi_ic0 ?k1_ic0 ?k2_ic0 ?k3_ic0 (fun _ _ _ h => h) (Or.inl ⟨?g_ic0, ?y_ic0⟩) (by assumption) ?r_ic0
         case hi_ic0 => (simp only [List.getElem?_toArray, List.getElem?_cons_succ, List.getElem?_cons_zero]; rfl)
         case k1_ic0 => kernel_rfl
         case k2_ic0 => kernel_rfl
         case k3_ic0 => kernel_rfl
         case g_ic0 => rfl
         case y_ic0 => (intro w hSw; (try dsimp only at hSw); first | (go_simp; done) | (go_simp; with_reducible rfl))
         (try simp only [Act.put, List.setIfInBounds_toArray, List.set_cons_zero, List.set_cons_succ])
         refine wpAnyH_take (i := 1) (oi := ?oic1) (v := ?vic1) ?hi_ic1 ?k1_ic1 ?k2_ic1 ?k3_ic1 (fun _ _ _ h => h) (Or.inl ⟨?g_ic1, ?y_ic1⟩) (by assumption) ?r_ic1
         case hi_ic1 => (simp only [List.getElem?_toArray, List.getElem?_cons_succ, List.getElem?_cons_zero]; rfl)
         case k1_ic1 => kernel_rfl
         case k2_ic1 => kernel_rfl
         case k3_ic1 => kernel_rfl
         case g_ic1 => rfl
         case y_ic1 => (intro w hSw; (try dsimp only at hSw); first | (go_simp; done) | (go_simp; with_reducible rfl))
         (try simp only [Act.put, List.setIfInBounds_toArray, List.set_cons_zero, List.set_cons_succ])
         refine wpAnyH_take (i := 2) (oi := ?oic2) (v := ?vic2) ?hi_ic2 ?k1_ic2 ?k2_ic2 ?k3_ic2 (fun _ _ _ h => h) (Or.inl ⟨?g_ic2, ?y_ic2⟩) (by assumption) ?r_ic2
         case hi_ic2 => (simp only [List.getElem?_toArray, List.getElem?_cons_succ, List.getElem?_cons_zero]; rfl)
         case k1_ic2 => kernel_rfl
         case k2_ic2 => kernel_rfl
         case k3_ic2 => kernel_rfl
         case g_ic2 => rfl
         case y_ic2 => (intro w hSw; (try dsimp only at hSw); first | (go_simp; done) | (go_simp; with_reducible rfl))
         (try simp only [Act.put, List.setIfInBounds_toArray, List.set_cons_zero, List.set_cons_succ])
         refine wpAnyH_take (i := 3) (oi := ?oic3) (v := ?vic3) ?hi_ic3 ?k1_ic3 ?k2_ic3 ?k3_ic3 (fun _ _ _ h => h) (Or.inl ⟨?g_ic3, ?y_ic3⟩) (by assumption) ?r_ic3
         case hi_ic3 => (simp only [List.getElem?_toArray, List.getElem?_cons_succ, List.getElem?_cons_zero]; rfl)
         case k1_ic3 => kernel_rfl
         case k2_ic3 => kernel_rfl
         case k3_ic3 => kernel_rfl
         case g_ic3 => rfl
         case y_ic3 => (intro w hSw; (try dsimp only at hSw); first | (go_simp; done) | (go_simp; with_reducible rfl))
         (try simp only [Act.put, List.setIfInBounds_toArray, List.set_cons_zero, List.set_cons_succ])
         refine wpAnyH_take (i := 4) (oi := ?oic4) (v := ?vic4) ?hi_ic4 ?k1_ic4 ?k2_ic4 ?k3_ic4 (fun _ _ _ h => h) (Or.inl ⟨?g_ic4, ?y_ic4⟩) (by assumption) ?r_ic4
         case hi_ic4 => (simp only [List.getElem?_toArray, List.getElem?_cons_succ, List.getElem?_cons_zero]; rfl)
         case k1_ic4 => kernel_rfl
         case k2_ic4 => kernel_rfl
         case k3_ic4 => kernel_rfl
         case g_ic4 => rfl
         case y_ic4 => (intro w hSw; (try dsimp only at hSw); first | (go_simp; done) | (go_simp; with_reducible rfl))
         (try simp only [Act.put, List.setIfInBounds_toArray, List.set_cons_zero, List.set_cons_succ])
         refine wpAnyH_take (i := 5) (oi := ?oic5) (v := ?vic5) ?hi_ic5 ?k1_ic5 ?k2_ic5 ?k3_ic5 (fun _ _ _ h => h) (Or.inl ⟨?g_ic5, ?y_ic5⟩) (by assumption) ?r_ic5
         case hi_ic5 => (simp only [List.getElem?_toArray, List.getElem?_cons_succ, List.getElem?_cons_zero]; rfl)
         case k1_ic5 => kernel_rfl
         case k2_ic5 => kernel_rfl
         case k3_ic5 => kernel_rfl
         case g_ic5 => rfl
         case y_ic5 => (intro w hSw; (try dsimp only at hSw); first | (go_simp; done) | (go_simp; with_reducible rfl))
         (try simp only [Act.put, List.setIfInBounds_toArray, List.set_cons_zero, List.set_cons_succ])
         refine wpAnyH_take (i := 6) (oi := ?oic6) (v := ?vic6) ?hi_ic6 ?k1_ic6 ?k2_ic6 ?k3_ic6 (fun _ _ _ h => h) (Or.inl ⟨?g_ic6, ?y_ic6⟩) (by assumption) ?r_ic6
         case hi_ic6 => (simp only [List.getElem?_toArray, List.getElem?_cons_succ, List.getElem?_cons_zero]; rfl)
         case k1_ic6 => kernel_rfl
         case k2_ic6 => kernel_rfl
         case k3_ic6 => kernel_rfl
         case g_ic6 => rfl
         case y_ic6 => (intro w hSw; (try dsimp only at hSw); first | (go_simp; done) | (go_simp; with_reducible rfl))
         (try simp only [Act.put, List.setIfInBounds_toArray, List.set_cons_zero, List.set_cons_succ])
         refine wpAnyH_take (i := 7) (oi := ?oic7) (v := ?vic7) ?hi_ic7 ?k1_ic7 ?k2_ic7 ?k3_ic7 (fun _ _ _ h => h) (Or.inl ⟨?g_ic7, ?y_ic7⟩) (by assumption) ?r_ic7
         case hi_ic7 => (simp only [List.getElem?_toArray, List.getElem?_cons_succ, List.getElem?_cons_zero]; rfl)
         case k1_ic7 => kernel_rfl
         case k2_ic7 => kernel_rfl
         case k3_ic7 => kernel_rfl
         case g_ic7 => rfl
         case y_ic7 => (intro w hSw; (try dsimp only at hSw); first | (go_simp; done) | (go_simp; with_reducible rfl))
         (try simp only [Act.put, List.setIfInBounds_toArray, List.set_cons_zero, List.set_cons_succ])
         refine wpAnyH_take (i := 8) (oi := ?oic8) (v := ?vic8) ?hi_ic8 ?k1_ic8 ?k2_ic8 ?k3_ic8 (fun _ _ _ h => h) (Or.inl ⟨?g_ic8, ?y_ic8⟩) (by assumption) ?r_ic8
         case hi_ic8 => (simp only [List.getElem?_toArray, List.getElem?_cons_succ, List.getElem?_cons_zero]; rfl)
         case k1_ic8 => kernel_rfl
         case k2_ic8 => kernel_rfl
         case k3_ic8 => kernel_rfl
         case g_ic8 => rfl
         case y_ic8 => (intro w hSw; (try dsimp only at hSw); first | (go_simp; done) | (go_simp; with_reducible rfl))
         (try simp only [Act.put, List.setIfInBounds_toArray, List.set_cons_zero, List.set_cons_succ])
         refine wpAnyH_take (i := 9) (oi := ?oic9) (v := ?vic9) ?hi_ic9 ?k1_ic9 ?k2_ic9 ?k3_ic9 (fun _ _ _ h => h) (Or.inl ⟨?g_ic9, ?y_ic9⟩) (by assumption) ?r_ic9
         case hi_ic9 => (simp only [List.getElem?_toArray, List.getElem?_cons_succ, List.getElem?_cons_zero]; rfl)
         case k1_ic9 => kernel_rfl
         case k2_ic9 => kernel_rfl
         case k3_ic9 => kernel_rfl
         case g_ic9 => rfl
         case y_ic9 => (intro w hSw; (try dsimp only at hSw); first | (go_simp; done) | (go_simp; with_reducible rfl))
         (try simp only [Act.put, List.setIfInBounds_toArray, List.set_cons_zero, List.set_cons_succ])
         refine wpAnyH_done (by kernel_rfl) ?_ _
         refine NoPanic.normal ?_
         clear y0 y1 p0 p1 hHeld
         refine gen2 (φ := fun W => Exit.then _ _ Exit.normal _ W) (P := fun W => Below wr.heap.size wr W) (by with_reducible repeat (first | exact Below.refl _ _ | apply pw_below_drewN | apply Below.drew)) ?_
         rintro V2 hV
         have Z2 := Lib.hid (ZW.out.z.next hV)
         clear hV
         obtain ⟨u, hu⟩ : ∃ u, cur[i]? = some u := ⟨_, List.getElem?_eq_getElem (by rw [ZW.out.len]; omega)⟩
         obtain ⟨u0, u1⟩ := own_at Z2.out.row hu
         obtain ⟨y0, y1⟩ := own_at Z2.out.row ((get_dropM ZW.out.rest (by omega)).trans HY.out)
         rw [show (k + m) * 2 = k * 2 + m * 2 by omega] at y0 y1
         have z0 := own_fr Z2.out.row (i * 2)
         have z1 := own_fr Z2.out.row (i * 2 + 1)
         have g1 : (0 : Int) ≤ (i : Int) := by omega
         have g2 : (i : Int) < (l.length : Int) := by omega
         clear hu
         simp only at y0 y1
         go_upto_region 13 with fail
         refine gen2 (φ := fun W => Code.wp _ _ _ _ W) (P := fun W => CmZ w base g l.length c (cur.set i ⟨a0, a1⟩) W) (Z2.out.set (by omega) ⟨a0, a1⟩) ?_
         rintro V3 hV3
         have Z3 := Lib.hid hV3
         clear hV3 Z2 u0 u1 y0 y1 z0 z1
         go_wp2
         go_roundw
         case rel => exact ⟨i + 1, m + 1, cur.set i ⟨a0, a1⟩, by omega, by omega, by omega, by go_num, by go_num, Lib.hid ⟨by rw [List.length_set, ZW.out.len], by rw [take_set_M (by rw [ZW.out.len]; omega), ZW.out.got, show k + (m + 1) = k + m + 1 by omega, ddT_more HY.out (fun _ h => by rw [HP.out] at h; exact NE.out (Option.some.inj h).symm)], by rw [show k + (m + 1) - 1 = k + m - 1 + 1 by omega, List.drop_set_of_lt (by omega), ← List.drop_drop, ZW.out.rest, List.drop_drop], Z3.out⟩⟩
         case measure =>
          simp only [cntM]
          omega
       ·have d3 : decide ((m : Int) < ((l.length - k : Nat) : Int)) = false := by simp; omega
        have ekm : k + m = l.length := by omega
        have GOT := Lib.hid (by have e := ZW.out.got; rw [ekm] at e; exact e)
        have hil : i ≤ l.length := by omega
        have hic : i ≤ c := by have := HC.out; omega
        have z5 : ∀ v ∈ (Value.agg #[.int .i64 0, .int .i64 0]).cells.toList, v.oneCell' = true := by decide
        obtain ⟨w1, hrun, hR1, hg1, _⟩ := YtdgjjdpeaohebaaOwn.run_clear_rows kY 23 38 0 (.agg #[.int .i64 0, .int .i64 0]) Try.underlying23 (fun w => by kernel_rfl) rfl z5 ZW.out.z.row hil (A := if c = i then some ⟨g, 0, none⟩ else some ⟨g, i * 2, none⟩) (c2 := c - i) (fun h => by rw [if_neg (by have := HC.out; omega)]; rfl) (Below.refl base wr)
        have hfrom := cutFrom g l.length c i hil
        have hto := cutTo g l.length c i hil HC.out
        generalize (if c = i then some ⟨g, 0, none⟩ else some ⟨g, i * 2, none⟩ : Option Addr) = AC at hrun hfrom
        have HG1 := Lib.hid hg1
        have HR1 := Lib.hid hR1
        clear hg1 hR1 z5
        go_wp2
        go_ret
        refine ⟨_, rfl, ?_, World.grownBy.trans ZW.out.z.grew HG1.out⟩
        rw [← GOT.out]
        exact HR1.out
     ·have NE := Lib.hid (show y ≠ p from fun e => by obtain ⟨z0, z1, z2, z3⟩ := EA.out; exact q1 (by rw [z1, z3, e]))
      clear EA
      go_upto_region 6 with (fail)
      refine wp_region_noPanic ?_
      refine wp_region_held_drew (S := fun w' => Q4c g (k * 2) (j * 2) (.int .i64 a0) (.int .i64 a1) (.int .i64 a0) (.int .i64 c1) w') ?hm_rb ?hS_rb (fun hHeld => ?_)
      case hm_rb => kernel_rfl
      case hS_rb => exact Q4c.next ⟨y0, y1, p0, p1⟩ (by with_reducible repeat (first | exact Below.refl _ _ | apply pw_below_drewN | apply Below.drew | apply below_alloc))
      refine wpAnyH_take (i := 0) (oi := ?orb0) (v := ?vrb0) ?hi_rb0 ?k1_rb0 ?k2_rb0 ?k3_rb0 (fun _ _ _ h => h) (Or.inl ⟨?g_rb0, ?y_rb0⟩) (by assumption) ?r_rb0
      case hi_rb0 => (simp only [List.getElem?_toArray, List.getElem?_cons_succ, List.getElem?_cons_zero]; rfl)
      case k1_rb0 => kernel_rfl
      case k2_rb0 => kernel_rfl
      case k3_rb0 => kernel_rfl
      case g_rb0 => rfl
      case y_rb0 => (intro w hSw; (try dsimp only at hSw); first | (go_simp; done) | (go_simp; with_reducible rfl))
      (try simp only [Act.put, List.setIfInBounds_toArray, List.set_cons_zero, List.set_cons_succ])
      refine wpAnyH_take (i := 1) (oi := ?orb1) (v := ?vrb1) ?hi_rb1 ?k1_rb1 ?k2_rb1 ?k3_rb1 (fun _ _ _ h => h) (Or.inl ⟨?g_rb1, ?y_rb1⟩) (by assumption) ?r_rb1
      case hi_rb1 => (simp only [List.getElem?_toArray, List.getElem?_cons_succ, List.getElem?_cons_zero]; rfl)
      case k1_rb1 => kernel_rfl
      case k2_rb1 => kernel_rfl
      case k3_rb1 => kernel_rfl
      case g_rb1 => rfl
      case y_rb1 => (intro w hSw; (try dsimp only at hSw); first | (go_simp; done) | (go_simp; with_reducible rfl))
      (try simp only [Act.put, List.setIfInBounds_toArray, List.set_cons_zero, List.set_cons_succ])
      refine wpAnyH_take (i := 2) (oi := ?orb2) (v := ?vrb2) ?hi_rb2 ?k1_rb2 ?k2_rb2 ?k3_rb2 (fun _ _ _ h => h) (Or.inl ⟨?g_rb2, ?y_rb2⟩) (by assumption) ?r_rb2
      case hi_rb2 => (simp only [List.getElem?_toArray, List.getElem?_cons_succ, List.getElem?_cons_zero]; rfl)
      case k1_rb2 => kernel_rfl
      case k2_rb2 => kernel_rfl
      case k3_rb2 => kernel_rfl
      case g_rb2 => rfl
      case y_rb2 => (intro w hSw; (try dsimp only at hSw); first | (go_simp; done) | (go_simp; with_reducible rfl))
      (try simp only [Act.put, List.setIfInBounds_toArray, List.set_cons_zero, List.set_cons_succ])
      refine wpAnyH_take (i := 3) (oi := ?orb3) (v := ?vrb3) ?hi_rb3 ?k1_rb3 ?k2_rb3 ?k3_rb3 (fun _ _ _ h => h) (Or.inl ⟨?g_rb3, ?y_rb3⟩) (by assumption) ?r_rb3
      case hi_rb3 => (simp only [List.getElem?_toArray, List.getElem?_cons_succ, List.getElem?_cons_zero]; rfl)
      case k1_rb3 => kernel_rfl
      case k2_rb3 => kernel_rfl
      case k3_rb3 => kernel_rfl
      case g_rb3 => rfl
      case y_rb3 => (intro w hSw; (try dsimp only at hSw); first | (go_simp; done) | (go_simp; with_reducible rfl))
      (try simp only [Act.put, List.setIfInBounds_toArray, List.set_cons_zero, List.set_cons_succ])
      refine wpAnyH_take (i := 4) (oi := ?orb4) (v := ?vrb4) ?hi_rb4 ?k1_rb4 ?k2_rb4 ?k3_rb4 (fun _ _ _ h => h) (Or.inl ⟨?g_rb4, ?y_rb4⟩) (by assumption) ?r_rb4
      case hi_rb4 => (simp only [List.getElem?_toArray, List.getElem?_cons_succ, List.getElem?_cons_zero]; rfl)
      case k1_rb4 => kernel_rfl
      case k2_rb4 => kernel_rfl
      case k3_rb4 => kernel_rfl
      case g_rb4 => rfl
      case y_rb4 => (intro w hSw; (try dsimp only at hSw); first | (go_simp; done) | (go_simp; with_reducible rfl))
      (try simp only [Act.put, List.setIfInBounds_toArray, List.set_cons_zero, List.set_cons_succ])
      refine wpAnyH_take (i := 5) (oi := ?orb5) (v := ?vrb5) ?hi_rb5 ?k1_rb5 ?k2_rb5 ?k3_rb5 (fun _ _ _ h => h) (Or.inl ⟨?g_rb5, ?y_rb5⟩) (by assumption) ?r_rb5
      case hi_rb5 => (simp only [List.getElem?_toArray, List.getElem?_cons_succ, List.getElem?_cons_zero]; rfl)
      case k1_rb5 => kernel_rfl
      case k2_rb5 => kernel_rfl
      case k3_rb5 => kernel_rfl
      case g_rb5 => rfl
      case y_rb5 => (intro w hSw; (try dsimp only at hSw); first | (go_simp; done) | (go_simp; with_reducible rfl))
      (try simp only [Act.put, List.setIfInBounds_toArray, List.set_cons_zero, List.set_cons_succ])
      refine wpAnyH_take (i := 6) (oi := ?orb6) (v := ?vrb6) ?hi_rb6 ?k1_rb6 ?k2_rb6 ?k3_rb6 (fun _ _ _ h => h) (Or.inl ⟨?g_rb6, ?y_rb6⟩) (by assumption) ?r_rb6
      case hi_rb6 => (simp only [List.getElem?_toArray, List.getElem?_cons_succ, List.getElem?_cons_zero]; rfl)
      case k1_rb6 => kernel_rfl
      case k2_rb6 => kernel_rfl
      case k3_rb6 => kernel_rfl
      case g_rb6 => rfl
      case y_rb6 => (intro w hSw; (try dsimp only at hSw); first | (go_simp; done) | (go_simp; with_reducible rfl))
      (try simp only [Act.put, List.setIfInBounds_toArray, List.set_cons_zero, List.set_cons_succ])
      refine wpAnyH_take (i := 7) (oi := ?orb7) (v := ?vrb7) ?hi_rb7 ?k1_rb7 ?k2_rb7 ?k3_rb7 (fun _ _ _ h => h) (Or.inl ⟨?g_rb7, ?y_rb7⟩) (by assumption) ?r_rb7
      case hi_rb7 => (simp only [List.getElem?_toArray, List.getElem?_cons_succ, List.getElem?_cons_zero]; rfl)
      case k1_rb7 => kernel_rfl
      case k2_rb7 => kernel_rfl
      case k3_rb7 => kernel_rfl
      case g_rb7 => rfl
      case y_rb7 => (intro w hSw; (try dsimp only at hSw); first | (go_simp; done) | (go_simp; with_reducible rfl))
      (try simp only [Act.put, List.setIfInBounds_toArray, List.set_cons_zero, List.set_cons_succ])
      refine wpAnyH_take (i := 8) (oi := ?orb8) (v := ?vrb8) ?hi_rb8 ?k1_rb8 ?k2_rb8 ?k3_rb8 (fun _ _ _ h => h) (Or.inl ⟨?g_rb8, ?y_rb8⟩) (by assumption) ?r_rb8
      case hi_rb8 => (simp only [List.getElem?_toArray, List.getElem?_cons_succ, List.getElem?_cons_zero]; rfl)
      case k1_rb8 => kernel_rfl
      case k2_rb8 => kernel_rfl
      case k3_rb8 => kernel_rfl
      case g_rb8 => rfl
      case y_rb8 => (intro w hSw; (try dsimp only at hSw); first | (go_simp; done) | (go_simp; with_reducible rfl))
      (try simp only [Act.put, List.setIfInBounds_toArray, List.set_cons_zero, List.set_cons_succ])
      refine wpAnyH_take (i := 9) (oi := ?orb9) (v := ?vrb9) ?hi_rb9 ?k1_rb9 ?k2_rb9 ?k3_rb9 (fun _ _ _ h => h) (Or.inl ⟨?g_rb9, ?y_rb9⟩) (by assumption) ?r_rb9
      case hi_rb9 => (simp only [List.getElem?_toArray, List.getElem?_cons_succ, List.getElem?_cons_zero]; rfl)
      case k1_rb9 => kernel_rfl
      case k2_rb9 => kernel_rfl
      case k3_rb9 => kernel_rfl
      case g_rb9 => rfl
      case y_rb9 => (intro w hSw; (try dsimp only at hSw); first | (go_simp; done) | (go_simp; with_reducible rfl))
      (try simp only [Act.put, List.setIfInBounds_toArray, List.set_cons_zero, List.set_cons_succ])
      refine wpAnyH_done (by kernel_rfl) ?_ _
      refine NoPanic.normal ?_
      clear y0 y1 p0 p1 hHeld
      refine gen2 (φ := fun W => Exit.then _ _ Exit.normal _ W) (P := fun W => Below wr.heap.size wr W) (by with_reducible repeat (first | exact Below.refl _ _ | apply pw_below_drewN | apply Below.drew)) ?_
      rintro V hV
      have C1 := Lib.hid (CW.out.next hV)
      clear hV CW
      have DN := Lib.hid (show ddT l (k + 1) = l.take (k + 1) by
       rw [ddT_more HY.out (fun h0 h1 => by rw [← HJ.out, HP.out] at h1; exact NE.out (Option.some.inj h1).symm), DK.out]
       obtain ⟨hl2, e⟩ := List.getElem?_eq_some_iff.1 HY.out
       rw [List.take_succ_eq_append_getElem hl2, e])
      go_wp2
      go_roundw
      case rel => exact ⟨k + 1, by omega, by omega, by go_num, DN, C1⟩
      case measure =>
       simp only [cntM]
       omega
    ·have NE := Lib.hid (show y ≠ p from fun e => by obtain ⟨z0, z1, z2, z3⟩ := EA.out; exact q0 (by rw [z0, z2, e]))
     clear EA
     go_upto_region 6 with (fail)
     refine wp_region_noPanic ?_
     refine wp_region_held_drew (S := fun w' => Q4c g (k * 2) (j * 2) (.int .i64 a0) (.int .i64 a1) (.int .i64 c0) (.int .i64 c1) w') ?hm_rc ?hS_rc (fun hHeld => ?_)
     case hm_rc => kernel_rfl
     case hS_rc => exact Q4c.next ⟨y0, y1, p0, p1⟩ (by with_reducible repeat (first | exact Below.refl _ _ | apply pw_below_drewN | apply Below.drew | apply below_alloc))
     refine wpAnyH_take (i := 0) (oi := ?orc0) (v := ?vrc0) ?hi_rc0 ?k1_rc0 ?k2_rc0 ?k3_rc0 (fun _ _ _ h => h) (Or.inl ⟨?g_rc0, ?y_rc0⟩) (by assumption) ?r_rc0
     case hi_rc0 => (simp only [List.getElem?_toArray, List.getElem?_cons_succ, List.getElem?_cons_zero]; rfl)
     case k1_rc0 => kernel_rfl
     case k2_rc0 => kernel_rfl
     case k3_rc0 => kernel_rfl
     case g_rc0 => rfl
     case y_rc0 => (intro w hSw; (try dsimp only at hSw); first | (go_simp; done) | (go_simp; with_reducible rfl))
     (try simp only [Act.put, List.setIfInBounds_toArray, List.set_cons_zero, List.set_cons_succ])
     refine wpAnyH_take (i := 1) (oi := ?orc1) (v := ?vrc1) ?hi_rc1 ?k1_rc1 ?k2_rc1 ?k3_rc1 (fun _ _ _ h => h) (Or.inl ⟨?g_rc1, ?y_rc1⟩) (by assumption) ?r_rc1
     case hi_rc1 => (simp only [List.getElem?_toArray, List.getElem?_cons_succ, List.getElem?_cons_zero]; rfl)
     case k1_rc1 => kernel_rfl
     case k2_rc1 => kernel_rfl
     case k3_rc1 => kernel_rfl
     case g_rc1 => rfl
     case y_rc1 => (intro w hSw; (try dsimp only at hSw); first | (go_simp; done) | (go_simp; with_reducible rfl))
     (try simp only [Act.put, List.setIfInBounds_toArray, List.set_cons_zero, List.set_cons_succ])
     refine wpAnyH_take (i := 2) (oi := ?orc2) (v := ?vrc2) ?hi_rc2 ?k1_rc2 ?k2_rc2 ?k3_rc2 (fun _ _ _ h => h) (Or.inl ⟨?g_rc2, ?y_rc2⟩) (by assumption) ?r_rc2
     case hi_rc2 => (simp only [List.getElem?_toArray, List.getElem?_cons_succ, List.getElem?_cons_zero]; rfl)
     case k1_rc2 => kernel_rfl
     case k2_rc2 => kernel_rfl
     case k3_rc2 => kernel_rfl
     case g_rc2 => rfl
     case y_rc2 => (intro w hSw; (try dsimp only at hSw); first | (go_simp; done) | (go_simp; with_reducible rfl))
     (try simp only [Act.put, List.setIfInBounds_toArray, List.set_cons_zero, List.set_cons_succ])
     refine wpAnyH_take (i := 3) (oi := ?orc3) (v := ?vrc3) ?hi_rc3 ?k1_rc3 ?k2_rc3 ?k3_rc3 (fun _ _ _ h => h) (Or.inl ⟨?g_rc3, ?y_rc3⟩) (by assumption) ?r_rc3
     case hi_rc3 => (simp only [List.getElem?_toArray, List.getElem?_cons_succ, List.getElem?_cons_zero]; rfl)
     case k1_rc3 => kernel_rfl
     case k2_rc3 => kernel_rfl
     case k3_rc3 => kernel_rfl
     case g_rc3 => rfl
     case y_rc3 => (intro w hSw; (try dsimp only at hSw); first | (go_simp; done) | (go_simp; with_reducible rfl))
     (try simp only [Act.put, List.setIfInBounds_toArray, List.set_cons_zero, List.set_cons_succ])
     refine wpAnyH_take (i := 4) (oi := ?orc4) (v := ?vrc4) ?hi_rc4 ?k1_rc4 ?k2_rc4 ?k3_rc4 (fun _ _ _ h => h) (Or.inl ⟨?g_rc4, ?y_rc4⟩) (by assumption) ?r_rc4
     case hi_rc4 => (simp only [List.getElem?_toArray, List.getElem?_cons_succ, List.getElem?_cons_zero]; rfl)
     case k1_rc4 => kernel_rfl
     case k2_rc4 => kernel_rfl
     case k3_rc4 => kernel_rfl
     case g_rc4 => rfl
     case y_rc4 => (intro w hSw; (try dsimp only at hSw); first | (go_simp; done) | (go_simp; with_reducible rfl))
     (try simp only [Act.put, List.setIfInBounds_toArray, List.set_cons_zero, List.set_cons_succ])
     refine wpAnyH_take (i := 5) (oi := ?orc5) (v := ?vrc5) ?hi_rc5 ?k1_rc5 ?k2_rc5 ?k3_rc5 (fun _ _ _ h => h) (Or.inl ⟨?g_rc5, ?y_rc5⟩) (by assumption) ?r_rc5
     case hi_rc5 => (simp only [List.getElem?_toArray, List.getElem?_cons_succ, List.getElem?_cons_zero]; rfl)
     case k1_rc5 => kernel_rfl
     case k2_rc5 => kernel_rfl
     case k3_rc5 => kernel_rfl
     case g_rc5 => rfl
     case y_rc5 => (intro w hSw; (try dsimp only at hSw); first | (go_simp; done) | (go_simp; with_reducible rfl))
     (try simp only [Act.put, List.setIfInBounds_toArray, List.set_cons_zero, List.set_cons_succ])
     refine wpAnyH_take (i := 6) (oi := ?orc6) (v := ?vrc6) ?hi_rc6 ?k1_rc6 ?k2_rc6 ?k3_rc6 (fun _ _ _ h => h) (Or.inl ⟨?g_rc6, ?y_rc6⟩) (by assumption) ?r_rc6
     case hi_rc6 => (simp only [List.getElem?_toArray, List.getElem?_cons_succ, List.getElem?_cons_zero]; rfl)
     case k1_rc6 => kernel_rfl
     case k2_rc6 => kernel_rfl
     case k3_rc6 => kernel_rfl
     case g_rc6 => rfl
     case y_rc6 => (intro w hSw; (try dsimp only at hSw); first | (go_simp; done) | (go_simp; with_reducible rfl))
     (try simp only [Act.put, List.setIfInBounds_toArray, List.set_cons_zero, List.set_cons_succ])
     refine wpAnyH_take (i := 7) (oi := ?orc7) (v := ?vrc7) ?hi_rc7 ?k1_rc7 ?k2_rc7 ?k3_rc7 (fun _ _ _ h => h) (Or.inl ⟨?g_rc7, ?y_rc7⟩) (by assumption) ?r_rc7
     case hi_rc7 => (simp only [List.getElem?_toArray, List.getElem?_cons_succ, List.getElem?_cons_zero]; rfl)
     case k1_rc7 => kernel_rfl
     case k2_rc7 => kernel_rfl
     case k3_rc7 => kernel_rfl
     case g_rc7 => rfl
     case y_rc7 => (intro w hSw; (try dsimp only at hSw); first | (go_simp; done) | (go_simp; with_reducible rfl))
     (try simp only [Act.put, List.setIfInBounds_toArray, List.set_cons_zero, List.set_cons_succ])
     refine wpAnyH_take (i := 8) (oi := ?orc8) (v := ?vrc8) ?hi_rc8 ?k1_rc8 ?k2_rc8 ?k3_rc8 (fun _ _ _ h => h) (Or.inl ⟨?g_rc8, ?y_rc8⟩) (by assumption) ?r_rc8
     case hi_rc8 => (simp only [List.getElem?_toArray, List.getElem?_cons_succ, List.getElem?_cons_zero]; rfl)
     case k1_rc8 => kernel_rfl
     case k2_rc8 => kernel_rfl
     case k3_rc8 => kernel_rfl
     case g_rc8 => rfl
     case y_rc8 => (intro w hSw; (try dsimp only at hSw); first | (go_simp; done) | (go_simp; with_reducible rfl))
     (try simp only [Act.put, List.setIfInBounds_toArray, List.set_cons_zero, List.set_cons_succ])
     refine wpAnyH_take (i := 9) (oi := ?orc9) (v := ?vrc9) ?hi_rc9 ?k1_rc9 ?k2_rc9 ?k3_rc9 (fun _ _ _ h => h) (Or.inl ⟨?g_rc9, ?y_rc9⟩) (by assumption) ?r_rc9
     case hi_rc9 => (simp only [List.getElem?_toArray, List.getElem?_cons_succ, List.getElem?_cons_zero]; rfl)
     case k1_rc9 => kernel_rfl
     case k2_rc9 => kernel_rfl
     case k3_rc9 => kernel_rfl
     case g_rc9 => rfl
     case y_rc9 => (intro w hSw; (try dsimp only at hSw); first | (go_simp; done) | (go_simp; with_reducible rfl))
     (try simp only [Act.put, List.setIfInBounds_toArray, List.set_cons_zero, List.set_cons_succ])
     refine wpAnyH_done (by kernel_rfl) ?_ _
     refine NoPanic.normal ?_
     clear y0 y1 p0 p1 hHeld
     refine gen2 (φ := fun W => Exit.then _ _ Exit.normal _ W) (P := fun W => Below wr.heap.size wr W) (by with_reducible repeat (first | exact Below.refl _ _ | apply pw_below_drewN | apply Below.drew)) ?_
     rintro V hV
     have C1 := Lib.hid (CW.out.next hV)
     clear hV CW
     have DN := Lib.hid (show ddT l (k + 1) = l.take (k + 1) by
      rw [ddT_more HY.out (fun h0 h1 => by rw [← HJ.out, HP.out] at h1; exact NE.out (Option.some.inj h1).symm), DK.out]
      obtain ⟨hl2, e⟩ := List.getElem?_eq_some_iff.1 HY.out
      rw [List.take_succ_eq_append_getElem hl2, e])
     go_wp2
     go_roundw
     case rel => exact ⟨k + 1, by omega, by omega, by go_num, DN, C1⟩
     case measure =>
      simp only [cntM]
      omega
   ·have d2 : decide ((k : Int) < (l.length : Int)) = false := by simp; omega
    obtain rfl : k = l.length := by omega
    rw [List.take_length] at DK
    go_wp2
    go_ret
    exact ⟨_, rfl, by rw [DK.out]; exact CW.out.row, CW.out.grew⟩
end Go.Proofs.Ytdgjjdpeaohebaa.Mk
