/- Contracts of slices.Clone, slices.IndexFunc and slices.DeleteFunc at spans and at sites: what they hand back, in new or in their own memory. Conditions: sizes below 2^47 bytes. -/
import Derived.Test.YtdgjjdpeaohebaaPMarksDropx0
import Derived.WalkSpells
import Derived.Lib.Hide
import Derived.Test.YtdgjjdpeaohebaaOwn
namespace Go.Proofs.Ytdgjjdpeaohebaa.PMarksDrop
open Go.RowKit Go.Proofs.YtdgjjdpeaohebaaOwn Go.Proofs.YtdgjjdpeaohebaaW.PrintWords Go.Proofs.YtdgjjdpeaohebaaW.PrintLast Go.Proofs.YtdgjjdpeaohebaaW.PrintMore
set_option linter.unusedVariables false
set_option linter.unusedSimpArgs false
theorem k26_M_of_K {w : World} {base : Nat} {ok : Nat → Prop} (x : S26) (cs : List Value) (h : k26.K w x cs) : k26.M w base ok x cs := by
  obtain rfl := k26_open h
  exact k26_mkM _ _ _ _
set_option maxHeartbeats 800000 in
set_option maxRecDepth 100000 in
theorem clone26 (A : Option Addr) (c : Nat) (xs : List S26) (w : World) (hr : Kd.C k26 w A xs.length xs) (hc : xs.length ≤ c) (hl : xs.length * 24 ≤ 140737488355328) :
    Calls Try.prog 27 #[.slice A xs.length c] w fun e w' => ∃ v, e = .returned v ∧ Kd.R k26 26 w' w.heap.size (fun _ => True) v xs ∧ Below w.heap.size w w' := by
  have qn : ∀ (w : World) (a : Option Addr) (n c : Nat), (binOp .eql 22 (.slice a n c) (.slice none 0 0)).run Try.prog w = .ok (.bool a.isNone) w := fun w a n c => Lib.run_eql_slice_nil w _ _ a n c 0 0 Try.underlying22
  have HR := Lib.hid hr
  have HC := Lib.hid hc
  have HL := Lib.hid hl
  cases A with
  | none =>
    have hx : xs = [] := by
      rcases Nat.eq_zero_or_pos xs.length with h0 | h0
      · exact List.length_eq_zero_iff.1 h0
      · obtain ⟨_, e, _⟩ := hr.2.2 h0
        cases e
    clear hr hc hl
    go_enter Try.func27, Try.ntmps27
    go_wp2
    go_ret
    subst hx
    exact ⟨_, rfl, Kd.R_nil _ _ _ _ _, Below.refl _ _⟩
  | some ad =>
    clear hr hc hl
    go_enter Try.func27, Try.ntmps27
    go_wp2_with (first
      | ((with_reducible refine gate_dst (N := 5) rfl ?_)
         refine Kd.R_lit k26 _ 26 ?hg (N := 5) ?hd (xs := ([] : List S26)) (inner := []) (ok := fun _ => True) (okp := fun _ => True) ?hr ?hp (fun _ hk => hk) trivial (Below.refl _ _) (Nat.le_refl _) (by simp) ?_
         (case hd => rfl); (case hg => rfl); (case hr => first | (go_simp; done) | (go_simp; rfl)); (case hp => exact Reps.none _ _)
         intro v1 w1 HO HB hg hat; have HO1 := Lib.hid HO; have HB1 := Lib.hid HB; clear HO HB hg hat)
      | ((with_reducible refine gate_dst (N := 7) rfl ?_)
         refine Kd.R_append_rows k26 _ ?hg (.tmp 5) (.tmp 6) 22 26 (.agg #[.int .i64 0, .int .i64 0, .int .i64 0]) 24 rfl Try.underlying22 info26 rfl (by decide) (by decide) _ [] xs (some ad) xs.length c (fun _ => True) (fun k => some k ≠ v1.ownBlock) rfl rfl HO1.out (Kd.C_below HR.out HB1.out) (fun x cs h => k26_M_of_K x cs h) (fun _ h => ⟨trivial, h⟩) (fun _ _ => trivial) HB1.out (HB1.out.size) (by have := HL.out; simpa using this) ?_
         (case hg => rfl)
         intro v2 w2 HO HB hg hat; have HO2 := Lib.hid HO; have HB2 := Lib.hid HB; clear HO HB hg hat))
    go_ret
    exact ⟨_, rfl, HO2.out, HB2.out⟩
/-- What is asked of a predicate on spans: in every later world it answers p and lays only new blocks. -/
def Pred26 (g : Nat) (lb : Array Value) (p : S26 → Bool) (w : World) : Prop :=
  ∀ (W : World) (x : S26), Below w.heap.size w W → Calls Try.prog g (#[.agg #[.int .i64 x.f0, .int .i64 x.f1, .int .i64 x.f2]] ++ lb) W fun e w' => e = .returned (.bool (p x)) ∧ Below W.heap.size W w'
/-- The first index of which p holds, from j on; -1. -/
def idx26 (p : S26 → Bool) : List S26 → Int → Int
  | [], _ => -1
  | x :: r, j => if p x then j else idx26 p r (j + 1)
theorem drop_at26 {xs : List S26} {j : Nat} (h : j < xs.length) : xs.drop j = rd_T26 xs j :: xs.drop (j + 1) := by
  rw [List.drop_eq_getElem_cons h]
  unfold rd_T26
  rw [List.getD_eq_getElem?_getD, Int.toNat_natCast, List.getElem?_eq_getElem h]
  rfl
set_option maxHeartbeats 800000 in
set_option maxRecDepth 100000 in
theorem index26 (A : Option Addr) (c : Nat) (xs : List S26) (g : Nat) (lb : Array Value) (p : S26 → Bool) (w : World) (eg : ∀ args w, (callFunc g args).run Try.prog w = .ok (.enter g args) w) (hp : Pred26 g lb p w) (hr : Kd.C k26 w A xs.length xs) :
    Calls Try.prog 43 #[.slice A xs.length c, .func (.func g) #[] lb] w fun e w' => e = .returned (.int .i64 (idx26 p xs 0)) ∧ Below w.heap.size w w' := by
  have HR := Lib.hid hr
  have HM := Lib.hid hr.2.1
  have HP := Lib.hid hp
  clear hr hp
  go_enter Try.func43, Try.ntmps43
  go_wp2
  go_loopg [5, 8] xs.length (fun gg _ s8 wr => ∃ kk : Nat, kk ≤ xs.length ∧ xs.length - kk ≤ gg ∧ s8 = .int .i64 kk ∧ Aside (Below w.heap.size w wr) ∧ Aside (idx26 p xs 0 = idx26 p (xs.drop kk) kk))
  case atStart => exact ⟨0, Nat.zero_le _, by omega, rfl, Below.refl _ w, rfl⟩
  case round =>
    obtain ⟨kk, hkk, hg, rfl, BW, A1⟩ := hrel
    have hbig := HM.out
    by_cases hlt : kk < xs.length
    · have hltz : (kk : Int) < (xs.length : Int) := by omega
      obtain ⟨ad, e0, hx0, hx1, hx2⟩ := at_T26 (Kd.C_below HR.out BW.out) kk (by omega) hltz
      cases e0
      rw [Int.toNat_natCast] at hx0 hx1 hx2
      have hcall := Lib.hid (HP.out wr (rd_T26 xs kk) BW.out)
      have D := Lib.hid (drop_at26 hlt)
      cases hq : p (rd_T26 xs kk) with
      | true =>
        have Q := Lib.hid hq
        rw [hq] at hcall
        clear hq
        go_wp2_with ((with_reducible refine hcall.out.mono ?_); rintro e w' ⟨rfl, hb'⟩)
        go_ret
        refine ⟨?_, below_then BW.out BW.out.size hb'⟩
        rw [A1.out, D.out]
        simp only [idx26, Q.out, if_true]
        rfl
      | false =>
        have Q := Lib.hid hq
        rw [hq] at hcall
        clear hq
        go_wp2_with ((with_reducible refine hcall.out.mono ?_); rintro e w' ⟨rfl, hb'⟩)
        go_roundg (xs.length - (kk + 1))
        case measure => omega
        case rel => 
          refine ⟨kk + 1, by omega, by omega, by go_num, below_then BW.out BW.out.size hb', (show Aside _ from ?_)⟩
          show idx26 p xs 0 = idx26 p (xs.drop (kk + 1)) ((kk + 1 : Nat) : Int)
          rw [A1.out, D.out]
          simp only [idx26, Q.out, Bool.false_eq_true, if_false]
          rfl
    · have hltz : ¬ (kk : Int) < (xs.length : Int) := by omega
      go_wp2
      go_ret
      refine ⟨?_, BW.out⟩
      rw [A1.out, List.drop_of_length_le (by omega)]
      rfl

theorem idx26_miss (p : S26 → Bool) : ∀ (xs : List S26) (j : Int), 0 ≤ j → idx26 p xs j = -1 → ∀ x ∈ xs, p x = false
  | [], _, _, _ => by simp
  | x :: r, j, hj, h => by
    unfold idx26 at h
    split at h
    · omega
    · rename_i hp
      intro y hy
      rcases List.mem_cons.1 hy with rfl | hy
      · simpa using hp
      · exact idx26_miss p r (j + 1) (by omega) h y hy
theorem idx26_hit (p : S26 → Bool) : ∀ (xs : List S26) (j : Int), 0 ≤ j → idx26 p xs j ≠ -1 → ∃ i : Nat, idx26 p xs j = j + i ∧ i < xs.length ∧ (∀ x ∈ xs.take i, p x = false) ∧ (∀ x, xs[i]? = some x → p x = true)
  | [], _, _, h => absurd rfl h
  | x :: r, j, hj, h => by
    unfold idx26 at h ⊢
    split
    · rename_i hp
      exact ⟨0, by simp, by simp, by simp, by simp [hp]⟩
    · rename_i hp
      rw [if_neg hp] at h
      obtain ⟨i, h1, h2, h3, h4⟩ := idx26_hit p r (j + 1) (by omega) h
      refine ⟨i + 1, by rw [h1]; omega, by simp; omega, ?_, ?_⟩
      · intro y hy
        rw [List.take_succ_cons] at hy
        rcases List.mem_cons.1 hy with rfl | hy
        · simpa using hp
        · exact h3 y hy
      · intro y hy
        exact h4 y (by simpa using hy)
/-- In every world in which I holds. -/
abbrev PredI26 (g : Nat) (lb : Array Value) (p : S26 → Bool) (I : World → Prop) : Prop :=
  ∀ (W : World) (x : S26), I W → Calls Try.prog g (#[.agg #[.int .i64 x.f0, .int .i64 x.f1, .int .i64 x.f2]] ++ lb) W fun e w' => e = .returned (.bool (p x)) ∧ Below W.heap.size W w'
def DelPost26 (w : World) (base : Nat) (ok : Nat → Prop) (v : Value) (ys : List S26) (e : Ending) (w' : World) : Prop :=
  ∃ v', e = .returned v' ∧ Kd.R k26 26 w' base ok v' ys ∧ w.grownBy w' v.ownBlock
theorem filter_len26 {α : Type} (p : α → Bool) (xs : List α) : (xs.filter p).length ≤ xs.length := List.length_filter_le _ _
theorem take_succ_at26 {xs : List S26} {j : Nat} (h : j < xs.length) : xs.take (j + 1) = xs.take j ++ [rd_T26 xs j] := by
  rw [List.take_succ_eq_append_getElem h]
  unfold rd_T26
  rw [List.getD_eq_getElem?_getD, Int.toNat_natCast, List.getElem?_eq_getElem h]
  rfl
theorem rd_drop26 {cur xs : List S26} {j : Nat} (h : cur.drop j = xs.drop j) (hj : j < xs.length) : rd_T26 cur j = rd_T26 xs j := by
  unfold rd_T26
  rw [List.getD_eq_getElem?_getD, List.getD_eq_getElem?_getD, Int.toNat_natCast]
  have h1 : (cur.drop j)[0]? = (xs.drop j)[0]? := by rw [h]
  rw [List.getElem?_drop, List.getElem?_drop, Nat.add_zero] at h1
  rw [h1]
theorem rowc26 {W : World} {base gr n c : Nat} {ok : Nat → Prop} {cur : List S26} (h : Kd.R k26 26 W base ok (.slice (some ⟨gr, 0, none⟩) n c) cur) (i : Nat) (h0 : (0 : Int) ≤ i) (hi : (i : Int) < (cur.length : Int)) :
    ∀ (j : Nat) (u : Value), [Value.int .i64 (rd_T26 cur i).f0, .int .i64 (rd_T26 cur i).f1, .int .i64 (rd_T26 cur i).f2][j]? = some u → W.cell? ⟨gr, (i : Int).toNat * k26.sz + j, none⟩ = some u := by
  obtain ⟨ad, e0, hx0, hx1, hx2⟩ := at_T26 (Kd.R_reads' h).2.2 i h0 hi
  cases e0
  rw [add_plain] at hx0 hx1 hx2
  intro j u hj
  match j, hj with
  | 0, hj => injection hj with hj; subst hj; exact hx0
  | 1, hj => injection hj with hj; subst hj; exact hx1
  | 2, hj => injection hj with hj; subst hj; exact hx2
set_option maxHeartbeats 1600000 in
set_option maxRecDepth 100000 in
theorem delete26 (v : Value) (xs : List S26) (g : Nat) (lb : Array Value) (p : S26 → Bool) (I : World → Prop) (base : Nat) (ok : Nat → Prop) (w : World) (eg : ∀ args w, (callFunc g args).run Try.prog w = .ok (.enter g args) w)
    (hp : PredI26 g lb p I) (hI : I w) (hIb : ∀ W W', I W → W.grownBy W' v.ownBlock → I W') (HO : Kd.R k26 26 w base ok v xs) :
    Calls Try.prog 26 #[v, .func (.func g) #[] lb] w (DelPost26 w base ok v (xs.filter fun x => !p x)) := by
  obtain ⟨A, c, rfl⟩ := Kd.R_slice HO
  have hC := Kd.R_reads' HO
  have HX := Lib.hid (index26 A c xs g lb p w eg (fun W x hb => hp W x (hIb _ _ hI (grown_of_below hb _))) hC.2.2)
  have HR := Lib.hid HO
  have HP := Lib.hid hp
  have HI := Lib.hid hI
  have HIb := Lib.hid hIb
  have HM := Lib.hid hC.2.2.2.1
  have HC := Lib.hid hC
  clear HO hC hp hI hIb
  by_cases hi : idx26 p xs 0 = -1
  · have hb : (idx26 p xs 0 == -1) = true := by simpa using hi
    have Hi := Lib.hid hi
    clear hi
    go_enter Try.func26, Try.ntmps26
    go_wp2_with ((with_reducible refine HX.out.mono ?_); rintro e w' ⟨rfl, hb'⟩; have HB := Lib.hid hb'; clear hb')
    go_ret
    refine ⟨_, rfl, ?_, grown_of_below HB.out _⟩
    rw [List.filter_eq_self.2 (fun x hx => by rw [idx26_miss p xs 0 (by omega) Hi.out x hx]; rfl)]
    exact Kd.R_below HR.out HB.out
  · obtain ⟨i0, hi0, hlt0, hnone, hsome⟩ := idx26_hit p xs 0 (by omega) hi
    rw [Int.zero_add] at hi0
    have hb : (idx26 p xs 0 == -1) = false := by simpa using hi
    obtain ⟨gr, cap, he, hbase, hgr, _⟩ := Kd.R_form HR.out (by omega)
    injection he with e1 e2 e3
    subst e1; subst e3
    rw [hi0] at HX hb
    have Hn := Lib.hid hnone
    have Hs := Lib.hid hsome
    clear hi hi0 hnone hsome e2
    have hbig := HM.out
    go_enter Try.func26, Try.ntmps26
    go_wp2_with ((with_reducible refine HX.out.mono ?_); rintro e w' ⟨rfl, hb'⟩; have HB := Lib.hid hb'; clear hb')
    go_loopg [5, 6] xs.length (fun gg s5 s6 wr => ∃ (i j : Nat) (cur : List S26), s5 = .int .i64 i ∧ s6 = .int .i64 j ∧ i < j ∧ j ≤ xs.length ∧ xs.length - j ≤ gg ∧ Aside (cur.length = xs.length) ∧ Aside (cur.take i = (xs.take j).filter fun x => !p x) ∧ Aside (cur.drop j = xs.drop j) ∧ Aside (Kd.R k26 26 wr base ok (.slice (some ⟨gr, 0, none⟩) xs.length c) cur) ∧ Aside (I wr) ∧ Aside (w.grownBy wr (some gr)))
    case atStart =>
      refine ⟨i0, i0 + 1, xs, rfl, by go_num, by omega, by omega, by omega, rfl, ?_, rfl, ?_, ?_, ?_⟩
      · show xs.take i0 = (xs.take (i0 + 1)).filter fun x => !p x
        rw [take_succ_at26 hlt0, List.filter_append, List.filter_eq_self.2 (fun x hx => by rw [Hn.out x hx]; rfl)]
        have hx : p (rd_T26 xs i0) = true := Hs.out _ (by unfold rd_T26; rw [List.getD_eq_getElem?_getD, Int.toNat_natCast, List.getElem?_eq_getElem hlt0]; rfl)
        simp [hx]
      · exact Kd.R_below HR.out HB.out
      · exact HIb.out _ _ HI.out (grown_of_below HB.out _)
      · exact grown_of_below HB.out _
    case round =>
      obtain ⟨i, j, cur, rfl, rfl, hij, hjn, hg, A1, A2, A3, A4, A5, A6⟩ := hrel
      by_cases hlt : j < xs.length
      · have hltz : (j : Int) < (xs.length : Int) := by omega
        obtain ⟨ad, e0, hx0, hx1, hx2⟩ := at_T26 (Kd.R_reads' A4.out).2.2 j (by omega) (by rw [A1.out]; exact hltz)
        cases e0
        rw [Int.toNat_natCast, add_plain] at hx0 hx1 hx2
        have hrd := Lib.hid (rd_drop26 A3.out hlt)
        have hts := Lib.hid (take_succ_at26 hlt)
        have hbnd : (i : Int) < (xs.length : Int) := by omega
        cases hq : p (rd_T26 cur j) with
        | true =>
          have Q := Lib.hid hq
          clear hq
          go_wp2_with ((with_reducible refine (HP.out _ (rd_T26 cur j) ?hI).mono ?_); (case hI => exact HIb.out _ _ A5.out (grown_of_below (below_alloc (Below.refl _ _) _) _)); rintro e w'' ⟨rfl, hb'⟩; rw [Q.out]; have HB2 := Lib.hid (below_then (below_alloc (Below.refl wr.heap.size wr) _) (by simp) hb'); clear hb')
          go_roundg (xs.length - (j + 1))
          case measure => omega
          case rel =>
            refine ⟨i, j + 1, cur, rfl, by go_num, by omega, by omega, by omega, A1.out, ?_, ?_, Kd.R_below A4.out HB2.out, HIb.out _ _ A5.out (grown_of_below HB2.out _), World.grownBy.trans A6.out (grown_of_below HB2.out _)⟩
            · show cur.take i = (xs.take (j + 1)).filter fun x => !p x
              rw [hts.out, List.filter_append, ← hrd.out, A2.out]
              simp [Q.out]
            · show cur.drop (j + 1) = xs.drop (j + 1)
              rw [← List.drop_drop, A3.out, List.drop_drop]
        | false =>
          have Q := Lib.hid hq
          clear hq
          go_wp2_with (first
            | ((with_reducible refine (HP.out _ (rd_T26 cur j) ?hI).mono ?_); (case hI => exact HIb.out _ _ A5.out (grown_of_below (below_alloc (Below.refl _ _) _) _)); rintro e w'' ⟨rfl, hb'⟩; rw [Q.out]; have HB2 := Lib.hid (below_then (below_alloc (Below.refl wr.heap.size wr) _) (by simp) hb')
               have hy0 : w''.cell? ⟨wr.heap.size, 0, none⟩ = some (.int .i64 (rd_T26 cur j).f0) := (hb'.cell (p := ⟨wr.heap.size, 0, none⟩) (by simp)).trans (by go_simp)
               have hy1 : w''.cell? ⟨wr.heap.size, 1, none⟩ = some (.int .i64 (rd_T26 cur j).f1) := (hb'.cell (p := ⟨wr.heap.size, 1, none⟩) (by simp)).trans (by go_simp)
               have hy2 : w''.cell? ⟨wr.heap.size, 2, none⟩ = some (.int .i64 (rd_T26 cur j).f2) := (hb'.cell (p := ⟨wr.heap.size, 2, none⟩) (by simp)).trans (by go_simp)
               clear hb')
            | (refine Kd.R_store k26 base ?hN ?hg 26 (.tmp 33) (.tmp 32) rfl 26 i 0 cur (rd_T26 cur j) (.agg #[.int .i64 (rd_T26 cur j).f0, .int .i64 (rd_T26 cur j).f1, .int .i64 (rd_T26 cur j).f2]) [Value.int .i64 (rd_T26 cur j).f0, .int .i64 (rd_T26 cur j).f1, .int .i64 (rd_T26 cur j).f2] [Value.int .i64 (rd_T26 cur i).f0, .int .i64 (rd_T26 cur i).f1, .int .i64 (rd_T26 cur i).f2] ok (fun k => ok k ∧ k ≠ gr) rfl rfl rfl rfl (by kernel_rfl) (k26.K_one (k26_mk w'' (rd_T26 cur j))) (Kd.R_below A4.out HB2.out) (by omega) hbnd rfl ?hcc (show (3 : Nat) ≤ 3 from Nat.le_refl _) (k26_mkM _ _ _ _) (fun _ h => h) (Below.refl _ _) ?_
               (case hN => rfl); (case hg => rfl)
               (case hcc => exact rowc26 (Kd.R_below A4.out HB2.out) i (by omega) (by rw [A1.out]; exact hbnd))
               intro w3 hR3 _ hg3; have HR3 := Lib.hid hR3; have HG3 := Lib.hid hg3; clear hR3 hg3))
          go_roundg (xs.length - (j + 1))
          case measure => omega
          case rel =>
            refine ⟨i + 1, j + 1, cur.set i (rd_T26 cur j), by go_num, by go_num, by omega, by omega, by omega, ?_, ?_, ?_, ?_, ?_, ?_⟩
            · show (cur.set i _).length = _
              rw [List.length_set]; exact A1.out
            · show (cur.set i (rd_T26 cur j)).take (i + 1) = (xs.take (j + 1)).filter fun x => !p x
              have hcl := A1.out
              rw [hts.out, List.filter_append, ← hrd.out, ← A2.out, List.take_succ_eq_append_getElem (by rw [List.length_set]; omega), List.take_set_of_le (Nat.le_refl _)]
              simp [Q.out]
            · show (cur.set i _).drop (j + 1) = xs.drop (j + 1)
              rw [List.drop_set_of_lt (by omega), ← List.drop_drop, A3.out, List.drop_drop]
            · exact HR3.out
            · exact HIb.out _ _ (HIb.out _ _ A5.out (grown_of_below HB2.out _)) HG3.out
            · exact World.grownBy.trans A6.out (World.grownBy.trans (grown_of_below HB2.out _) HG3.out)
      · have hltz : ¬ (j : Int) < (xs.length : Int) := by omega
        obtain rfl : j = xs.length := by omega
        have hil : i ≤ xs.length := by omega
        have HC2 := Lib.hid (Kd.R_reads' A4.out)
        have hic : i ≤ c := Nat.le_trans hil HC2.out.2.1
        by_cases hci : c = i
        · subst hci
          obtain ⟨w1, hrun, hR1, hg1, _⟩ := run_clear_rows k26 22 26 0 (.agg #[.int .i64 0, .int .i64 0, .int .i64 0]) Try.underlying22 (fun w => by kernel_rfl) rfl (by decide) A4.out hil (A := some ⟨gr, 0, none⟩) (c2 := 0) (fun h => absurd h (by have := HC2.out.2.1; omega)) (Below.refl base wr)
          have HG1 := Lib.hid hg1
          have HR1 := Lib.hid hR1
          clear hg1 hR1
          go_wp2
          go_ret
          refine ⟨_, rfl, ?_, World.grownBy.trans A6.out HG1.out⟩
          have e := A2.out
          rw [List.take_length] at e
          rw [← e]
          exact HR1.out
        · obtain ⟨w1, hrun, hR1, hg1, _⟩ := run_clear_rows k26 22 26 0 (.agg #[.int .i64 0, .int .i64 0, .int .i64 0]) Try.underlying22 (fun w => by kernel_rfl) rfl (by decide) A4.out hil (A := some ⟨gr, i * 3, none⟩) (c2 := c - i) (fun _ => rfl) (Below.refl base wr)
          have HG1 := Lib.hid hg1
          have HR1 := Lib.hid hR1
          clear hg1 hR1
          go_wp2
          go_ret
          refine ⟨_, rfl, ?_, World.grownBy.trans A6.out HG1.out⟩
          have e := A2.out
          rw [List.take_length] at e
          rw [← e]
          exact HR1.out

theorem k38_M_of_K {w : World} {base : Nat} {ok : Nat → Prop} (x : S38) (cs : List Value) (h : k38.K w x cs) : k38.M w base ok x cs := by
  obtain rfl := k38_open h
  exact k38_mkM _ _ _ _
set_option maxHeartbeats 800000 in
set_option maxRecDepth 100000 in
theorem clone38 (A : Option Addr) (c : Nat) (xs : List S38) (w : World) (hr : Kd.C k38 w A xs.length xs) (hc : xs.length ≤ c) (hl : xs.length * 16 ≤ 140737488355328) :
    Calls Try.prog 30 #[.slice A xs.length c] w fun e w' => ∃ v, e = .returned v ∧ Kd.R k38 38 w' w.heap.size (fun _ => True) v xs ∧ Below w.heap.size w w' := by
  have qn : ∀ (w : World) (a : Option Addr) (n c : Nat), (binOp .eql 23 (.slice a n c) (.slice none 0 0)).run Try.prog w = .ok (.bool a.isNone) w := fun w a n c => Lib.run_eql_slice_nil w _ _ a n c 0 0 Try.underlying23
  have HR := Lib.hid hr
  have HC := Lib.hid hc
  have HL := Lib.hid hl
  cases A with
  | none =>
    have hx : xs = [] := by
      rcases Nat.eq_zero_or_pos xs.length with h0 | h0
      · exact List.length_eq_zero_iff.1 h0
      · obtain ⟨_, e, _⟩ := hr.2.2 h0
        cases e
    clear hr hc hl
    go_enter Try.func30, Try.ntmps30
    go_wp2
    go_ret
    subst hx
    exact ⟨_, rfl, Kd.R_nil _ _ _ _ _, Below.refl _ _⟩
  | some ad =>
    clear hr hc hl
    go_enter Try.func30, Try.ntmps30
    go_wp2_with (first
      | ((with_reducible refine gate_dst (N := 5) rfl ?_)
         refine Kd.R_lit k38 _ 38 ?hg (N := 5) ?hd (xs := ([] : List S38)) (inner := []) (ok := fun _ => True) (okp := fun _ => True) ?hr ?hp (fun _ hk => hk) trivial (Below.refl _ _) (Nat.le_refl _) (by simp) ?_
         (case hd => rfl); (case hg => rfl); (case hr => first | (go_simp; done) | (go_simp; rfl)); (case hp => exact Reps.none _ _)
         intro v1 w1 HO HB hg hat; have HO1 := Lib.hid HO; have HB1 := Lib.hid HB; clear HO HB hg hat)
      | ((with_reducible refine gate_dst (N := 7) rfl ?_)
         refine Kd.R_append_rows k38 _ ?hg (.tmp 5) (.tmp 6) 23 38 (.agg #[.int .i64 0, .int .i64 0]) 16 rfl Try.underlying23 info38 rfl (by decide) (by decide) _ [] xs (some ad) xs.length c (fun _ => True) (fun k => some k ≠ v1.ownBlock) rfl rfl HO1.out (Kd.C_below HR.out HB1.out) (fun x cs h => k38_M_of_K x cs h) (fun _ h => ⟨trivial, h⟩) (fun _ _ => trivial) HB1.out (HB1.out.size) (by have := HL.out; simpa using this) ?_
         (case hg => rfl)
         intro v2 w2 HO HB hg hat; have HO2 := Lib.hid HO; have HB2 := Lib.hid HB; clear HO HB hg hat))
    go_ret
    exact ⟨_, rfl, HO2.out, HB2.out⟩
/-- What is asked of a predicate on spans: in every later world it answers p and lays only new blocks. -/
def Pred38 (g : Nat) (lb : Array Value) (p : S38 → Bool) (w : World) : Prop :=
  ∀ (W : World) (x : S38), Below w.heap.size w W → Calls Try.prog g (#[.agg #[.int .i64 x.f0, .int .i64 x.f1]] ++ lb) W fun e w' => e = .returned (.bool (p x)) ∧ Below W.heap.size W w'
/-- The first index of which p holds, from j on; -1. -/
def idx38 (p : S38 → Bool) : List S38 → Int → Int
  | [], _ => -1
  | x :: r, j => if p x then j else idx38 p r (j + 1)
theorem drop_at38 {xs : List S38} {j : Nat} (h : j < xs.length) : xs.drop j = rd_T38 xs j :: xs.drop (j + 1) := by
  rw [List.drop_eq_getElem_cons h]
  unfold rd_T38
  rw [List.getD_eq_getElem?_getD, Int.toNat_natCast, List.getElem?_eq_getElem h]
  rfl
set_option maxHeartbeats 800000 in
set_option maxRecDepth 100000 in
theorem index38 (A : Option Addr) (c : Nat) (xs : List S38) (g : Nat) (lb : Array Value) (p : S38 → Bool) (w : World) (eg : ∀ args w, (callFunc g args).run Try.prog w = .ok (.enter g args) w) (hp : Pred38 g lb p w) (hr : Kd.C k38 w A xs.length xs) :
    Calls Try.prog 44 #[.slice A xs.length c, .func (.func g) #[] lb] w fun e w' => e = .returned (.int .i64 (idx38 p xs 0)) ∧ Below w.heap.size w w' := by
  have HR := Lib.hid hr
  have HM := Lib.hid hr.2.1
  have HP := Lib.hid hp
  clear hr hp
  go_enter Try.func44, Try.ntmps44
  go_wp2
  go_loopg [5, 8] xs.length (fun gg _ s8 wr => ∃ kk : Nat, kk ≤ xs.length ∧ xs.length - kk ≤ gg ∧ s8 = .int .i64 kk ∧ Aside (Below w.heap.size w wr) ∧ Aside (idx38 p xs 0 = idx38 p (xs.drop kk) kk))
  case atStart => exact ⟨0, Nat.zero_le _, by omega, rfl, Below.refl _ w, rfl⟩
  case round =>
    obtain ⟨kk, hkk, hg, rfl, BW, A1⟩ := hrel
    have hbig := HM.out
    by_cases hlt : kk < xs.length
    · have hltz : (kk : Int) < (xs.length : Int) := by omega
      obtain ⟨ad, e0, hx0, hx1⟩ := at_T38 (Kd.C_below HR.out BW.out) kk (by omega) hltz
      cases e0
      rw [Int.toNat_natCast] at hx0 hx1
      have hcall := Lib.hid (HP.out wr (rd_T38 xs kk) BW.out)
      have D := Lib.hid (drop_at38 hlt)
      cases hq : p (rd_T38 xs kk) with
      | true =>
        have Q := Lib.hid hq
        rw [hq] at hcall
        clear hq
        go_wp2_with ((with_reducible refine hcall.out.mono ?_); rintro e w' ⟨rfl, hb'⟩)
        go_ret
        refine ⟨?_, below_then BW.out BW.out.size hb'⟩
        rw [A1.out, D.out]
        simp only [idx38, Q.out, if_true]
        rfl
      | false =>
        have Q := Lib.hid hq
        rw [hq] at hcall
        clear hq
        go_wp2_with ((with_reducible refine hcall.out.mono ?_); rintro e w' ⟨rfl, hb'⟩)
        go_roundg (xs.length - (kk + 1))
        case measure => omega
        case rel => 
          refine ⟨kk + 1, by omega, by omega, by go_num, below_then BW.out BW.out.size hb', (show Aside _ from ?_)⟩
          show idx38 p xs 0 = idx38 p (xs.drop (kk + 1)) ((kk + 1 : Nat) : Int)
          rw [A1.out, D.out]
          simp only [idx38, Q.out, Bool.false_eq_true, if_false]
          rfl
    · have hltz : ¬ (kk : Int) < (xs.length : Int) := by omega
      go_wp2
      go_ret
      refine ⟨?_, BW.out⟩
      rw [A1.out, List.drop_of_length_le (by omega)]
      rfl

theorem idx38_miss (p : S38 → Bool) : ∀ (xs : List S38) (j : Int), 0 ≤ j → idx38 p xs j = -1 → ∀ x ∈ xs, p x = false
  | [], _, _, _ => by simp
  | x :: r, j, hj, h => by
    unfold idx38 at h
    split at h
    · omega
    · rename_i hp
      intro y hy
      rcases List.mem_cons.1 hy with rfl | hy
      · simpa using hp
      · exact idx38_miss p r (j + 1) (by omega) h y hy
theorem idx38_hit (p : S38 → Bool) : ∀ (xs : List S38) (j : Int), 0 ≤ j → idx38 p xs j ≠ -1 → ∃ i : Nat, idx38 p xs j = j + i ∧ i < xs.length ∧ (∀ x ∈ xs.take i, p x = false) ∧ (∀ x, xs[i]? = some x → p x = true)
  | [], _, _, h => absurd rfl h
  | x :: r, j, hj, h => by
    unfold idx38 at h ⊢
    split
    · rename_i hp
      exact ⟨0, by simp, by simp, by simp, by simp [hp]⟩
    · rename_i hp
      rw [if_neg hp] at h
      obtain ⟨i, h1, h2, h3, h4⟩ := idx38_hit p r (j + 1) (by omega) h
      refine ⟨i + 1, by rw [h1]; omega, by simp; omega, ?_, ?_⟩
      · intro y hy
        rw [List.take_succ_cons] at hy
        rcases List.mem_cons.1 hy with rfl | hy
        · simpa using hp
        · exact h3 y hy
      · intro y hy
        exact h4 y (by simpa using hy)
/-- In every world in which I holds. -/
abbrev PredI38 (g : Nat) (lb : Array Value) (p : S38 → Bool) (I : World → Prop) : Prop :=
  ∀ (W : World) (x : S38), I W → Calls Try.prog g (#[.agg #[.int .i64 x.f0, .int .i64 x.f1]] ++ lb) W fun e w' => e = .returned (.bool (p x)) ∧ Below W.heap.size W w'
def DelPost38 (w : World) (base : Nat) (ok : Nat → Prop) (v : Value) (ys : List S38) (e : Ending) (w' : World) : Prop :=
  ∃ v', e = .returned v' ∧ Kd.R k38 38 w' base ok v' ys ∧ w.grownBy w' v.ownBlock
theorem filter_len38 {α : Type} (p : α → Bool) (xs : List α) : (xs.filter p).length ≤ xs.length := List.length_filter_le _ _
theorem take_succ_at38 {xs : List S38} {j : Nat} (h : j < xs.length) : xs.take (j + 1) = xs.take j ++ [rd_T38 xs j] := by
  rw [List.take_succ_eq_append_getElem h]
  unfold rd_T38
  rw [List.getD_eq_getElem?_getD, Int.toNat_natCast, List.getElem?_eq_getElem h]
  rfl
theorem rd_drop38 {cur xs : List S38} {j : Nat} (h : cur.drop j = xs.drop j) (hj : j < xs.length) : rd_T38 cur j = rd_T38 xs j := by
  unfold rd_T38
  rw [List.getD_eq_getElem?_getD, List.getD_eq_getElem?_getD, Int.toNat_natCast]
  have h1 : (cur.drop j)[0]? = (xs.drop j)[0]? := by rw [h]
  rw [List.getElem?_drop, List.getElem?_drop, Nat.add_zero] at h1
  rw [h1]
theorem rowc38 {W : World} {base gr n c : Nat} {ok : Nat → Prop} {cur : List S38} (h : Kd.R k38 38 W base ok (.slice (some ⟨gr, 0, none⟩) n c) cur) (i : Nat) (h0 : (0 : Int) ≤ i) (hi : (i : Int) < (cur.length : Int)) :
    ∀ (j : Nat) (u : Value), [Value.int .i64 (rd_T38 cur i).f0, .int .i64 (rd_T38 cur i).f1][j]? = some u → W.cell? ⟨gr, (i : Int).toNat * k38.sz + j, none⟩ = some u := by
  obtain ⟨ad, e0, hx0, hx1⟩ := at_T38 (Kd.R_reads' h).2.2 i h0 hi
  cases e0
  rw [add_plain] at hx0 hx1
  intro j u hj
  match j, hj with
  | 0, hj => injection hj with hj; subst hj; exact hx0
  | 1, hj => injection hj with hj; subst hj; exact hx1
set_option maxHeartbeats 1600000 in
set_option maxRecDepth 100000 in
theorem delete38 (v : Value) (xs : List S38) (g : Nat) (lb : Array Value) (p : S38 → Bool) (I : World → Prop) (base : Nat) (ok : Nat → Prop) (w : World) (eg : ∀ args w, (callFunc g args).run Try.prog w = .ok (.enter g args) w)
    (hp : PredI38 g lb p I) (hI : I w) (hIb : ∀ W W', I W → W.grownBy W' v.ownBlock → I W') (HO : Kd.R k38 38 w base ok v xs) :
    Calls Try.prog 29 #[v, .func (.func g) #[] lb] w (DelPost38 w base ok v (xs.filter fun x => !p x)) := by
  obtain ⟨A, c, rfl⟩ := Kd.R_slice HO
  have hC := Kd.R_reads' HO
  have HX := Lib.hid (index38 A c xs g lb p w eg (fun W x hb => hp W x (hIb _ _ hI (grown_of_below hb _))) hC.2.2)
  have HR := Lib.hid HO
  have HP := Lib.hid hp
  have HI := Lib.hid hI
  have HIb := Lib.hid hIb
  have HM := Lib.hid hC.2.2.2.1
  have HC := Lib.hid hC
  clear HO hC hp hI hIb
  by_cases hi : idx38 p xs 0 = -1
  · have hb : (idx38 p xs 0 == -1) = true := by simpa using hi
    have Hi := Lib.hid hi
    clear hi
    go_enter Try.func29, Try.ntmps29
    go_wp2_with ((with_reducible refine HX.out.mono ?_); rintro e w' ⟨rfl, hb'⟩; have HB := Lib.hid hb'; clear hb')
    go_ret
    refine ⟨_, rfl, ?_, grown_of_below HB.out _⟩
    rw [List.filter_eq_self.2 (fun x hx => by rw [idx38_miss p xs 0 (by omega) Hi.out x hx]; rfl)]
    exact Kd.R_below HR.out HB.out
  · obtain ⟨i0, hi0, hlt0, hnone, hsome⟩ := idx38_hit p xs 0 (by omega) hi
    rw [Int.zero_add] at hi0
    have hb : (idx38 p xs 0 == -1) = false := by simpa using hi
    obtain ⟨gr, cap, he, hbase, hgr, _⟩ := Kd.R_form HR.out (by omega)
    injection he with e1 e2 e3
    subst e1; subst e3
    rw [hi0] at HX hb
    have Hn := Lib.hid hnone
    have Hs := Lib.hid hsome
    clear hi hi0 hnone hsome e2
    have hbig := HM.out
    go_enter Try.func29, Try.ntmps29
    go_wp2_with ((with_reducible refine HX.out.mono ?_); rintro e w' ⟨rfl, hb'⟩; have HB := Lib.hid hb'; clear hb')
    go_loopg [5, 6] xs.length (fun gg s5 s6 wr => ∃ (i j : Nat) (cur : List S38), s5 = .int .i64 i ∧ s6 = .int .i64 j ∧ i < j ∧ j ≤ xs.length ∧ xs.length - j ≤ gg ∧ Aside (cur.length = xs.length) ∧ Aside (cur.take i = (xs.take j).filter fun x => !p x) ∧ Aside (cur.drop j = xs.drop j) ∧ Aside (Kd.R k38 38 wr base ok (.slice (some ⟨gr, 0, none⟩) xs.length c) cur) ∧ Aside (I wr) ∧ Aside (w.grownBy wr (some gr)))
    case atStart =>
      refine ⟨i0, i0 + 1, xs, rfl, by go_num, by omega, by omega, by omega, rfl, ?_, rfl, ?_, ?_, ?_⟩
      · show xs.take i0 = (xs.take (i0 + 1)).filter fun x => !p x
        rw [take_succ_at38 hlt0, List.filter_append, List.filter_eq_self.2 (fun x hx => by rw [Hn.out x hx]; rfl)]
        have hx : p (rd_T38 xs i0) = true := Hs.out _ (by unfold rd_T38; rw [List.getD_eq_getElem?_getD, Int.toNat_natCast, List.getElem?_eq_getElem hlt0]; rfl)
        simp [hx]
      · exact Kd.R_below HR.out HB.out
      · exact HIb.out _ _ HI.out (grown_of_below HB.out _)
      · exact grown_of_below HB.out _
    case round =>
      obtain ⟨i, j, cur, rfl, rfl, hij, hjn, hg, A1, A2, A3, A4, A5, A6⟩ := hrel
      by_cases hlt : j < xs.length
      · have hltz : (j : Int) < (xs.length : Int) := by omega
        obtain ⟨ad, e0, hx0, hx1⟩ := at_T38 (Kd.R_reads' A4.out).2.2 j (by omega) (by rw [A1.out]; exact hltz)
        cases e0
        rw [Int.toNat_natCast, add_plain] at hx0 hx1
        have hrd := Lib.hid (rd_drop38 A3.out hlt)
        have hts := Lib.hid (take_succ_at38 hlt)
        have hbnd : (i : Int) < (xs.length : Int) := by omega
        cases hq : p (rd_T38 cur j) with
        | true =>
          have Q := Lib.hid hq
          clear hq
          go_wp2_with ((with_reducible refine (HP.out _ (rd_T38 cur j) ?hI).mono ?_); (case hI => exact HIb.out _ _ A5.out (grown_of_below (below_alloc (Below.refl _ _) _) _)); rintro e w'' ⟨rfl, hb'⟩; rw [Q.out]; have HB2 := Lib.hid (below_then (below_alloc (Below.refl wr.heap.size wr) _) (by simp) hb'); clear hb')
          go_roundg (xs.length - (j + 1))
          case measure => omega
          case rel =>
            refine ⟨i, j + 1, cur, rfl, by go_num, by omega, by omega, by omega, A1.out, ?_, ?_, Kd.R_below A4.out HB2.out, HIb.out _ _ A5.out (grown_of_below HB2.out _), World.grownBy.trans A6.out (grown_of_below HB2.out _)⟩
            · show cur.take i = (xs.take (j + 1)).filter fun x => !p x
              rw [hts.out, List.filter_append, ← hrd.out, A2.out]
              simp [Q.out]
            · show cur.drop (j + 1) = xs.drop (j + 1)
              rw [← List.drop_drop, A3.out, List.drop_drop]
        | false =>
          have Q := Lib.hid hq
          clear hq
          go_wp2_with (first
            | ((with_reducible refine (HP.out _ (rd_T38 cur j) ?hI).mono ?_); (case hI => exact HIb.out _ _ A5.out (grown_of_below (below_alloc (Below.refl _ _) _) _)); rintro e w'' ⟨rfl, hb'⟩; rw [Q.out]; have HB2 := Lib.hid (below_then (below_alloc (Below.refl wr.heap.size wr) _) (by simp) hb')
               have hy0 : w''.cell? ⟨wr.heap.size, 0, none⟩ = some (.int .i64 (rd_T38 cur j).f0) := (hb'.cell (p := ⟨wr.heap.size, 0, none⟩) (by simp)).trans (by go_simp)
               have hy1 : w''.cell? ⟨wr.heap.size, 1, none⟩ = some (.int .i64 (rd_T38 cur j).f1) := (hb'.cell (p := ⟨wr.heap.size, 1, none⟩) (by simp)).trans (by go_simp)
               clear hb')
            | (refine Kd.R_store k38 base ?hN ?hg 38 (.tmp 33) (.tmp 32) rfl 38 i 0 cur (rd_T38 cur j) (.agg #[.int .i64 (rd_T38 cur j).f0, .int .i64 (rd_T38 cur j).f1]) [Value.int .i64 (rd_T38 cur j).f0, .int .i64 (rd_T38 cur j).f1] [Value.int .i64 (rd_T38 cur i).f0, .int .i64 (rd_T38 cur i).f1] ok (fun k => ok k ∧ k ≠ gr) rfl rfl rfl rfl (by kernel_rfl) (k38.K_one (k38_mk w'' (rd_T38 cur j))) (Kd.R_below A4.out HB2.out) (by omega) hbnd rfl ?hcc (show (2 : Nat) ≤ 2 from Nat.le_refl _) (k38_mkM _ _ _ _) (fun _ h => h) (Below.refl _ _) ?_
               (case hN => rfl); (case hg => rfl)
               (case hcc => exact rowc38 (Kd.R_below A4.out HB2.out) i (by omega) (by rw [A1.out]; exact hbnd))
               intro w3 hR3 _ hg3; have HR3 := Lib.hid hR3; have HG3 := Lib.hid hg3; clear hR3 hg3))
          go_roundg (xs.length - (j + 1))
          case measure => omega
          case rel =>
            refine ⟨i + 1, j + 1, cur.set i (rd_T38 cur j), by go_num, by go_num, by omega, by omega, by omega, ?_, ?_, ?_, ?_, ?_, ?_⟩
            · show (cur.set i _).length = _
              rw [List.length_set]; exact A1.out
            · show (cur.set i (rd_T38 cur j)).take (i + 1) = (xs.take (j + 1)).filter fun x => !p x
              have hcl := A1.out
              rw [hts.out, List.filter_append, ← hrd.out, ← A2.out, List.take_succ_eq_append_getElem (by rw [List.length_set]; omega), List.take_set_of_le (Nat.le_refl _)]
              simp [Q.out]
            · show (cur.set i _).drop (j + 1) = xs.drop (j + 1)
              rw [List.drop_set_of_lt (by omega), ← List.drop_drop, A3.out, List.drop_drop]
            · exact HR3.out
            · exact HIb.out _ _ (HIb.out _ _ A5.out (grown_of_below HB2.out _)) HG3.out
            · exact World.grownBy.trans A6.out (World.grownBy.trans (grown_of_below HB2.out _) HG3.out)
      · have hltz : ¬ (j : Int) < (xs.length : Int) := by omega
        obtain rfl : j = xs.length := by omega
        have hil : i ≤ xs.length := by omega
        have HC2 := Lib.hid (Kd.R_reads' A4.out)
        have hic : i ≤ c := Nat.le_trans hil HC2.out.2.1
        by_cases hci : c = i
        · subst hci
          obtain ⟨w1, hrun, hR1, hg1, _⟩ := run_clear_rows k38 23 38 0 (.agg #[.int .i64 0, .int .i64 0]) Try.underlying23 (fun w => by kernel_rfl) rfl (by decide) A4.out hil (A := some ⟨gr, 0, none⟩) (c2 := 0) (fun h => absurd h (by have := HC2.out.2.1; omega)) (Below.refl base wr)
          have HG1 := Lib.hid hg1
          have HR1 := Lib.hid hR1
          clear hg1 hR1
          go_wp2
          go_ret
          refine ⟨_, rfl, ?_, World.grownBy.trans A6.out HG1.out⟩
          have e := A2.out
          rw [List.take_length] at e
          rw [← e]
          exact HR1.out
        · obtain ⟨w1, hrun, hR1, hg1, _⟩ := run_clear_rows k38 23 38 0 (.agg #[.int .i64 0, .int .i64 0]) Try.underlying23 (fun w => by kernel_rfl) rfl (by decide) A4.out hil (A := some ⟨gr, i * 2, none⟩) (c2 := c - i) (fun _ => rfl) (Below.refl base wr)
          have HG1 := Lib.hid hg1
          have HR1 := Lib.hid hR1
          clear hg1 hR1
          go_wp2
          go_ret
          refine ⟨_, rfl, ?_, World.grownBy.trans A6.out HG1.out⟩
          have e := A2.out
          rw [List.take_length] at e
          rw [← e]
          exact HR1.out

end Go.Proofs.Ytdgjjdpeaohebaa.PMarksDrop
