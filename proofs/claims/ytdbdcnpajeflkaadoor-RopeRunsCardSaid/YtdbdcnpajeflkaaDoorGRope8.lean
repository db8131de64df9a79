/- The walk of rope.build: the rope of a list of ropes. Conditions: texts of at most 2^40 bytes. -/
import Derived.Test.YtdbdcnpajeflkaaDoorGRope7
namespace Go.Proofs.YtdbdcnpajeflkaaDoor.Rope
open Go.RowKit Go.Proofs.YtdbdcnpajeflkaaDoorW.PrintWords Go.Proofs.YtdbdcnpajeflkaaDoorW.PrintLast Go.Proofs.YtdbdcnpajeflkaaDoorW.PrintMore
set_option linter.unusedVariables false
set_option linter.unusedSimpArgs false
def encP (b : Nat) : Value := .pointer (some ⟨b, 0, none⟩)
/-- Blocks that hold ropes, one by one. -/
def IsTs (w : World) (ts : List T) (bs : List Nat) : Prop := ts.length = bs.length ∧ ∀ (j : Nat) t b, ts[j]? = some t → bs[j]? = some b → IsT w t b
theorem IsTs.below {w w1 : World} {ts : List T} {bs : List Nat} (h : IsTs w ts bs) (hb : Below w.heap.size w w1) : IsTs w1 ts bs := ⟨h.1, fun j t b h1 h2 => (h.2 j t b h1 h2).below hb⟩
theorem IsTs.take {w : World} {ts : List T} {bs : List Nat} (h : IsTs w ts bs) (k : Nat) : IsTs w (ts.take k) (bs.take k) := by
  refine ⟨by simp [h.1], fun j t b h1 h2 => ?_⟩
  rw [List.getElem?_take] at h1 h2
  split at h1
  · rename_i hj; rw [if_pos hj] at h2; exact h.2 j t b h1 h2
  · cases h1
theorem IsTs.drop {w : World} {ts : List T} {bs : List Nat} (h : IsTs w ts bs) (k : Nat) : IsTs w (ts.drop k) (bs.drop k) := by
  refine ⟨by simp [h.1], fun j t b h1 h2 => ?_⟩
  rw [List.getElem?_drop] at h1 h2
  exact h.2 _ t b h1 h2
/-- The cells from o on point to these blocks. -/
def RowP (w : World) (g o : Nat) (bs : List Nat) : Prop := ∀ (j : Nat) b, bs[j]? = some b → w.cell? ⟨g, o + j, none⟩ = some (encP b)
theorem RowP.below {w w1 : World} {g o : Nat} {bs : List Nat} (h : RowP w g o bs) (hb : Below w.heap.size w w1) : RowP w1 g o bs := fun j b hj => pw_cell_below hb (h j b hj)
theorem RowP.take {w : World} {g o : Nat} {bs : List Nat} (h : RowP w g o bs) (k : Nat) : RowP w g o (bs.take k) := fun j b hj => by
  rw [List.getElem?_take] at hj
  split at hj
  · exact h j b hj
  · cases hj
theorem RowP.drop {w : World} {g o : Nat} {bs : List Nat} (h : RowP w g o bs) (k : Nat) : RowP w g (o + k) (bs.drop k) := fun j b hj => by
  rw [List.getElem?_drop] at hj
  rw [Nat.add_assoc]
  exact h _ b hj
def sumB (ts : List T) : Nat := (ts.map T.bytes).sum
def AllNe (ts : List T) : Prop := ∀ t ∈ ts, t.Ne
/-- What rope.build makes. -/
def buildL (ts : List T) : Option T :=
  if h : ts.length ≤ 1 then ts.head? else joinO (buildL (ts.take (ts.length / 2))) (buildL (ts.drop (ts.length / 2)))
termination_by ts.length
decreasing_by all_goals (simp only [List.length_take, List.length_drop]; omega)
theorem sumB_append (a b : List T) : sumB (a ++ b) = sumB a + sumB b := by simp [sumB]
theorem buildL_both (n : Nat) : ∀ ts : List T, ts.length ≤ n → bytesO (buildL ts) = sumB ts ∧ (AllNe ts → NeO (buildL ts)) := by
  induction n with
  | zero =>
    intro ts h
    have : ts = [] := List.eq_nil_of_length_eq_zero (by omega)
    subst this
    rw [buildL, dif_pos (by simp)]
    exact ⟨rfl, fun _ => trivial⟩
  | succ n ih =>
    intro ts h
    rw [buildL]
    split
    · cases ts with
      | nil => exact ⟨rfl, fun _ => trivial⟩
      | cons t r =>
        have : r = [] := List.eq_nil_of_length_eq_zero (by simp at *; omega)
        subst this
        exact ⟨by simp [bytesO, sumB], fun h => h t (by simp)⟩
    · have k1 := ih (ts.take (ts.length / 2)) (by rw [List.length_take]; omega)
      have k2 := ih (ts.drop (ts.length / 2)) (by rw [List.length_drop]; omega)
      refine ⟨?_, fun hn => joinO_Ne (k1.2 fun t ht => hn t (List.mem_of_mem_take ht)) (k2.2 fun t ht => hn t (List.mem_of_mem_drop ht))⟩
      rw [joinO_bytes, k1.1, k2.1, ← sumB_append, List.take_append_drop]
theorem buildL_bytes (ts : List T) : bytesO (buildL ts) = sumB ts := (buildL_both _ ts (Nat.le_refl _)).1
theorem buildL_Ne {ts : List T} (h : AllNe ts) : NeO (buildL ts) := (buildL_both _ ts (Nat.le_refl _)).2 h
theorem build_nil (A : Option Addr) (c : Nat) (w : World) : Calls Tryd.prog 22 #[.slice A 0 c] w (Ret none w) := by
  go_enter Tryd.func22, Tryd.ntmps22
  go_wp2
  go_ret
  exact ⟨_, rfl, rfl, Below.refl _ _⟩
theorem build_one (t : T) (b g o c : Nat) (w : World) (hc : w.cell? ⟨g, o, none⟩ = some (encP b)) (ht : IsT w t b) : Calls Tryd.prog 22 #[.slice (some ⟨g, o, none⟩) 1 c] w (Ret (some t) w) := by
  unfold encP at hc
  have H := Lib.hid ht
  clear ht
  go_enter Tryd.func22, Tryd.ntmps22
  go_wp2
  go_ret
  exact ⟨_, rfl, ⟨b, rfl, H.out⟩, Below.refl _ _⟩
set_option maxRecDepth 100000 in
set_option maxHeartbeats 2000000 in
theorem build_many (n k g o c : Nat) (t1 t2 : Option T) (w : World) (hn : 2 ≤ n) (hk : k = n / 2) (hc : n ≤ c) (hc2 : c ≤ 9223372036854775807)
    (n1 : NeO t1) (n2 : NeO t2) (hz : bytesO t1 + bytesO t2 ≤ 1099511627776)
    (ih1 : ∀ (W : World), Below w.heap.size w W → Calls Tryd.prog 22 #[.slice (some ⟨g, o, none⟩) k c] W (Ret t1 W))
    (ih2 : ∀ (W : World), Below w.heap.size w W → Calls Tryd.prog 22 #[.slice (some ⟨g, o + k, none⟩) (n - k) (c - k)] W (Ret t2 W)) :
    Calls Tryd.prog 22 #[.slice (some ⟨g, o, none⟩) n c] w (Ret (joinO t1 t2) w) := by
  have e0 : ((n : Int) == 0) = false := by simp; omega
  have e1 : ((n : Int) == 1) = false := by simp; omega
  have q0 : (n : Int).tdiv 2 = (k : Int) := by rw [Int.tdiv_eq_ediv_of_nonneg (by omega)]; omega
  have q1 : IntKind.i64.wrap (k : Int) = (k : Int) := IntWalk.i64_in _ (by omega)
  have q2 : (0 : Int) ≤ (k : Int) := by omega
  have q3 : (k : Int) ≤ (n : Int) := by omega
  have q4 : (n : Int) ≤ (c : Int) := by omega
  have q5 : (k : Int) ≤ (c : Int) := by omega
  have q6 : ¬ c = k := by omega
  have I1 := Lib.hid ih1
  have I2 := Lib.hid ih2
  have Z := Lib.hid hz
  clear ih1 ih2 hz hk
  go_enter Tryd.func22, Tryd.ntmps22
  go_wp2
  go_region_held3 (fun w' => Below w.heap.size w w')
    (first | assumption | exact HS3.out | exact HS2.out | exact HS1.out | exact (Below.refl _ _) | exact (Below.refl _ _).drew)
    (first
      | (go_at_call 22; (with_reducible refine (I1.out _ ?ca).mono ?_); (case ca => assumption); rintro e w1 ⟨v1, rfl, k1, hB⟩; have HS1 := Lib.hid (show Below w.heap.size w w1 from below_step (by assumption) hB); have K1 := Lib.hid k1; have B1 := Lib.hid hB; clear k1 hB)
      | (go_at_call 22; (with_reducible refine (I2.out _ ?cb).mono ?_); (case cb => assumption); rintro e w2 ⟨v2, rfl, k2, hB⟩; have HS2 := Lib.hid (show Below w.heap.size w w2 from below_step (by assumption) hB); have K2 := Lib.hid k2; have B2 := Lib.hid hB; clear k2 hB)
      | (go_at_call 12; (refine (joinO_calls t1 t2 v1 v2 _ ?cc ?cd n1 n2 Z.out).mono ?_); (case cc => first | exact K1.out | exact K1.out.below B2.out); (case cd => first | exact K2.out | exact K2.out.below B1.out); rintro e w3 ⟨v3, rfl, k3, hB⟩; have HS3 := Lib.hid (show Below w.heap.size w w3 from below_step (by assumption) hB); have K3 := Lib.hid k3; clear k3 hB))
  all_goals
    go_wp2
    go_ret
    exact ⟨_, rfl, K3.out, HS3.out⟩
theorem build_calls (m : Nat) : ∀ (ts : List T) (bs : List Nat) (g o c : Nat) (w : World), ts.length ≤ m → IsTs w ts bs → RowP w g o bs → ts.length ≤ c → c ≤ 9223372036854775807 → AllNe ts → sumB ts ≤ 1099511627776 →
    Calls Tryd.prog 22 #[.slice (some ⟨g, o, none⟩) ts.length c] w (Ret (buildL ts) w) := by
  induction m with
  | zero =>
    intro ts bs g o c w hm h hr hc hc2 hn hz
    have : ts = [] := List.eq_nil_of_length_eq_zero (by omega)
    subst this
    rw [buildL, dif_pos (by simp)]
    exact build_nil _ c w
  | succ m ih =>
    intro ts bs g o c w hm h hr hc hc2 hn hz
    rw [buildL]
    split
    · cases ts with
      | nil => exact build_nil _ c w
      | cons t r =>
        have : r = [] := List.eq_nil_of_length_eq_zero (by simp at *; omega)
        subst this
        obtain ⟨b, r, rfl⟩ : ∃ b r, bs = b :: r := by
          cases bs with
          | nil => have := h.1; simp at this
          | cons b r => exact ⟨b, r, rfl⟩
        exact build_one t b g o c w (hr 0 b rfl) (h.2 0 t b rfl rfl)
    · rename_i hl
      have l1 : (ts.take (ts.length / 2)).length = ts.length / 2 := by rw [List.length_take]; omega
      have l2 : (ts.drop (ts.length / 2)).length = ts.length - ts.length / 2 := by rw [List.length_drop]
      have s1 := sumB_append (ts.take (ts.length / 2)) (ts.drop (ts.length / 2))
      rw [List.take_append_drop] at s1
      have a1 : AllNe (ts.take (ts.length / 2)) := fun t ht => hn t (List.mem_of_mem_take ht)
      have a2 : AllNe (ts.drop (ts.length / 2)) := fun t ht => hn t (List.mem_of_mem_drop ht)
      refine build_many ts.length (ts.length / 2) g o c _ _ w (by omega) rfl hc hc2 (buildL_Ne a1) (buildL_Ne a2) (by rw [buildL_bytes, buildL_bytes]; omega) (fun W hW => ?_) (fun W hW => ?_)
      · have := ih (ts.take (ts.length / 2)) (bs.take (ts.length / 2)) g o c W (by omega) ((h.take _).below hW) ((hr.take _).below hW) (by omega) hc2 a1 (by omega)
        rw [l1] at this
        exact this
      · have := ih (ts.drop (ts.length / 2)) (bs.drop (ts.length / 2)) g (o + ts.length / 2) (c - ts.length / 2) W (by omega) ((h.drop _).below hW) ((hr.drop _).below hW) (by omega) (by omega) a2 (by omega)
        rw [l2] at this
        exact this
end Go.Proofs.YtdbdcnpajeflkaaDoor.Rope
