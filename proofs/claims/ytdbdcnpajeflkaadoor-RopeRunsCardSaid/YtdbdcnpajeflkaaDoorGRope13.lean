/- For RopeRuns: two rows that grow side by side, of ropes and of their texts. Plain statements on memory; no condition. -/
import Derived.Test.YtdbdcnpajeflkaaDoorGRope12
import Derived.Deep.DeepCutAuto
namespace Go.Proofs.YtdbdcnpajeflkaaDoor.Rope
open Go.RowKit Go.Proofs.YtdbdcnpajeflkaaDoorW.PrintWords Go.Proofs.YtdbdcnpajeflkaaDoorW.PrintLast Go.Proofs.YtdbdcnpajeflkaaDoorW.PrintMore
set_option linter.unusedVariables false
set_option linter.unusedSimpArgs false
/-- An act. -/
structure Act where
  f0 : Int
  f1 : Int
  f2 : Int
  f3 : ByteArray
def zA : Act := ⟨0, 0, 0, ByteArray.empty⟩
def kA : Kd Act := Kd.iso (Kd.pair (Kd.int .i64) (Kd.pair (Kd.int .i64) (Kd.pair (Kd.int .i64) Kd.string))) (fun x : Act => (x.f0, x.f1, x.f2, x.f3))
theorem kA_open {w : World} {x : Act} {cs : List Value} (h : kA.K w x cs) : cs = [.int .i64 x.f0, .int .i64 x.f1, .int .i64 x.f2, .string x.f3] := by
  obtain ⟨c1, c2, rfl, rfl, ⟨c3, c4, rfl, rfl, ⟨c5, c6, rfl, rfl, rfl⟩⟩⟩ := h
  rfl
theorem at_A {w : World} {A : Option Addr} {n : Nat} {xs : List Act} (h : Kd.C kA w A n xs) (i : Nat) (h1 : i < n) :
    ∃ ad, A = some ad ∧ w.cell? (ad.add (i * 4)) = some (.int .i64 (xs.getD i zA).f0) ∧ w.cell? ⟨(ad.add (i * 4)).block, (ad.add (i * 4)).off + 1, none⟩ = some (.int .i64 (xs.getD i zA).f1) ∧ w.cell? ⟨(ad.add (i * 4)).block, (ad.add (i * 4)).off + 2, none⟩ = some (.int .i64 (xs.getD i zA).f2) ∧ w.cell? ⟨(ad.add (i * 4)).block, (ad.add (i * 4)).off + 3, none⟩ = some (.string (xs.getD i zA).f3) := by
  obtain ⟨ad, c, e, _, hK, hc0⟩ := Kd.C_get h zA (i : Int) (by omega) (by omega)
  have hc : ∀ j u, c[j]? = some u → w.cell? (ad.add (i * 4 + j)) = some u := hc0
  have e2 := kA_open hK
  simp only [Int.toNat_natCast] at e2
  subst e2
  exact ⟨ad, e, hc 0 _ rfl, by rw [← add_field _ _ 1 (by omega)]; exact hc 1 _ rfl, by rw [← add_field _ _ 2 (by omega)]; exact hc 2 _ rfl, by rw [← add_field _ _ 3 (by omega)]; exact hc 3 _ rfl⟩
/-- b is a rope whose text is s. -/
def Rp (w : World) (b : Option Addr) (s : ByteArray) : Prop := ∃ t cs, Is w (Value.pointer b) t cs ∧ s.data.toList = cs.flatten
theorem Is.rp {w : World} {v : Value} {t : Option T} {cs : List (List UInt8)} {s : ByteArray} (h : Is w v t cs) (hs : s.data.toList = cs.flatten) : ∃ b, v = Value.pointer b ∧ Rp w b s := by
  obtain ⟨hr, hg, hz⟩ := h
  cases t with
  | none => have e : v = .pointer none := hr; subst e; exact ⟨none, rfl, none, cs, ⟨rfl, hg, hz⟩, hs⟩
  | some t => obtain ⟨b, rfl, ht⟩ := hr; exact ⟨some ⟨b, 0, none⟩, rfl, some t, cs, ⟨⟨b, rfl, ht⟩, hg, hz⟩, hs⟩
theorem Rp.below {w w1 : World} {b : Option Addr} {s : ByteArray} (h : Rp w b s) (hb : Below w.heap.size w w1) : Rp w1 b s := by
  obtain ⟨t, cs, h, hs⟩ := h
  exact ⟨t, cs, h.below hb, hs⟩
theorem IsR.move {w w1 : World} (hm : ∀ (g : Nat) (cs : Array Value), w.heap[g]? = some (.cells cs 52 (0, 0)) → w1.heap[g]? = w.heap[g]?) {v : Value} {t : Option T} (h : IsR w v t) : IsR w1 v t := by
  cases t with
  | none => exact h
  | some t => obtain ⟨b, e, h⟩ := h; exact ⟨b, e, h.move hm⟩
theorem Rp.move {w w1 : World} (hm : ∀ (g : Nat) (cs : Array Value), w.heap[g]? = some (.cells cs 52 (0, 0)) → w1.heap[g]? = w.heap[g]?) {b : Option Addr} {s : ByteArray} (h : Rp w b s) : Rp w1 b s := by
  obtain ⟨t, cs, h, hs⟩ := h
  exact ⟨t, cs, ⟨h.r.move hm, h.g, h.z⟩, hs⟩
/-- A row that a call makes, of values of one cell. -/
def OwnE {α : Type} (enc : α → Value) (e : TypeId) (w : World) (base : Nat) (v : Value) (xs : List α) : Prop := w.ownsRow base e 1 v xs.length (encs enc xs)
theorem OwnE.row {α : Type} {enc : α → Value} {e : TypeId} {w : World} {base : Nat} {v : Value} {xs : List α} (h : OwnE enc e w base v xs) (h0 : 0 < xs.length) :
    ∃ g c, v = .slice (some ⟨g, 0, none⟩) xs.length c ∧ xs.length ≤ c ∧ ∀ (j : Nat) x, xs[j]? = some x → w.cell? ⟨g, j, none⟩ = some (enc x) := by
  obtain ⟨h1, h2 | ⟨g, cap, cur, e1, hg, hh, hc, hm, hs, ht⟩⟩ := h
  · omega
  · refine ⟨g, cap, e1, hc, fun j x hj => ?_⟩
    rw [blk_cell hh j]
    have hjl : j < xs.length := (List.getElem?_eq_some_iff.1 hj).1
    have : (cur.toList.take (xs.length * 1))[j]? = some (enc x) := by rw [ht, encs, List.getElem?_map, hj]; rfl
    rw [List.getElem?_take_of_lt (by omega)] at this
    simpa using this
theorem OwnE.typed {α : Type} {enc : α → Value} {e : TypeId} {w : World} {base : Nat} {v : Value} {xs : List α} (h : OwnE enc e w base v xs) (k : Nat) (hk : v.ownBlock = some k) : ∃ cs, w.heap[k]? = some (.cells cs e (0, 0)) := own_typed h k hk
theorem OwnE.move {α : Type} {enc : α → Value} {e : TypeId} {w w1 : World} {base : Nat} {v : Value} {xs : List α} (h : OwnE enc e w base v xs) (hm : ∀ (g : Nat) (cs : Array Value), w.heap[g]? = some (.cells cs e (0, 0)) → w1.heap[g]? = w.heap[g]?) : OwnE enc e w1 base v xs :=
  own_move h fun k hk => by obtain ⟨cs, hc⟩ := own_typed h k hk; exact hm k cs hc
theorem OwnE.below {α : Type} {enc : α → Value} {e : TypeId} {w w1 : World} {base : Nat} {v : Value} {xs : List α} (h : OwnE enc e w base v xs) (hb : Below w.heap.size w w1) : OwnE enc e w1 base v xs := h.move fun g cs hc => hb.block g (blk_lt hc)
/-- Where a row of one type grows, blocks of another stay. -/
theorem OwnE.grown {α : Type} {enc : α → Value} {e : TypeId} {w w1 : World} {base : Nat} {v : Value} {xs : List α} (h : OwnE enc e w base v xs) (hg : w.grownBy w1 v.ownBlock) {t : TypeId} (ht : t ≠ e) : ∀ (g : Nat) (cs : Array Value), w.heap[g]? = some (.cells cs t (0, 0)) → w1.heap[g]? = w.heap[g]? := by
  intro g cs hc
  refine hg.block g (blk_lt hc) ?_
  intro e1
  obtain ⟨cs', hc'⟩ := own_typed h g e1.symm
  rw [hc] at hc'
  injection hc' with hc'
  injection hc' with _ hc'
  exact ht hc'
/-- What holds of both rows. -/
structure St (w wr : World) (vR vT : Value) (bs : List (Option Addr)) (ss : List ByteArray) : Prop where
  ropes : OwnE Value.pointer 22 wr w.heap.size vR bs
  texts : OwnE Value.string 9 wr w.heap.size vT ss
  len : ss.length = bs.length
  pos : 0 < bs.length
  all : ∀ (j : Nat) b s, bs[j]? = some b → ss[j]? = some s → Rp wr b s ∧ s.size ≤ 4000
  below : Below w.heap.size w wr
theorem St.next {w wr w1 : World} {vR vT : Value} {bs : List (Option Addr)} {ss : List ByteArray} (h : St w wr vR vT bs ss) (hb : Below wr.heap.size wr w1) : St w w1 vR vT bs ss :=
  ⟨h.ropes.below hb, h.texts.below hb, h.len, h.pos, fun j b s h1 h2 => ⟨(h.all j b s h1 h2).1.below hb, (h.all j b s h1 h2).2⟩, below_step h.below hb⟩
theorem St.rows {w wr : World} {vR vT : Value} {bs : List (Option Addr)} {ss : List ByteArray} (h : St w wr vR vT bs ss) :
    ∃ g c g' c', vR = .slice (some ⟨g, 0, none⟩) bs.length c ∧ vT = .slice (some ⟨g', 0, none⟩) bs.length c' := by
  obtain ⟨g, c, e, _, _⟩ := h.ropes.row h.pos
  obtain ⟨g', c', e', _, _⟩ := h.texts.row (by rw [h.len]; exact h.pos)
  exact ⟨g, c, g', c', e, by rw [e', h.len]⟩
theorem St.at {w wr : World} {g c g' c' : Nat} {n n' : Nat} {bs : List (Option Addr)} {ss : List ByteArray} (h : St w wr (.slice (some ⟨g, 0, none⟩) n c) (.slice (some ⟨g', 0, none⟩) n' c') bs ss) (k : Nat) (hk : k < bs.length) :
    ∃ b s, bs[k]? = some b ∧ ss[k]? = some s ∧ wr.cell? ⟨g, k, none⟩ = some (Value.pointer b) ∧ wr.cell? ⟨g', k, none⟩ = some (.string s) ∧ Rp wr b s ∧ s.size ≤ 4000 := by
  obtain ⟨b, hb⟩ : ∃ b, bs[k]? = some b := ⟨_, List.getElem?_eq_getElem hk⟩
  obtain ⟨s, hs⟩ : ∃ s, ss[k]? = some s := ⟨_, List.getElem?_eq_getElem (by rw [h.len]; exact hk)⟩
  obtain ⟨g1, c1, e1, _, h1⟩ := h.ropes.row h.pos
  obtain ⟨g2, c2, e2, _, h2⟩ := h.texts.row (by rw [h.len]; exact h.pos)
  injection e1 with e1; injection e1 with e1; injection e1 with e1
  injection e2 with e2; injection e2 with e2; injection e2 with e2
  subst e1; subst e2
  exact ⟨b, s, hb, hs, h1 k b hb, h2 k s hs, (h.all k b s hb hs).1, (h.all k b s hb hs).2⟩
theorem get_snoc {α : Type} {xs : List α} {y x : α} {j : Nat} (h : (xs ++ [y])[j]? = some x) : xs[j]? = some x ∨ (j = xs.length ∧ x = y) := by
  rw [List.getElem?_append] at h
  split at h
  · exact .inl h
  · rename_i hj
    generalize hi : j - xs.length = i at h
    cases i with
    | zero => simp at h; exact .inr ⟨by omega, h.symm⟩
    | succ i => simp at h
/-- One more of each. -/
theorem St.more {w wr w1 w2 : World} {vR vT v1 v2 : Value} {bs : List (Option Addr)} {ss : List ByteArray} {b : Option Addr} {s : ByteArray} (h : St w wr vR vT bs ss) (hr : Rp wr b s) (hs : s.size ≤ 4000)
    (h1 : OwnE Value.pointer 22 w1 w.heap.size v1 (bs ++ [b])) (hg1 : wr.grownBy w1 vR.ownBlock) (h2 : OwnE Value.string 9 w2 w.heap.size v2 (ss ++ [s])) (hg2 : w1.grownBy w2 vT.ownBlock) (hB : Below w.heap.size w w2) :
    St w w2 v1 v2 (bs ++ [b]) (ss ++ [s]) := by
  have t1 : OwnE Value.string 9 w1 w.heap.size vT ss := h.texts.move (h.ropes.grown hg1 (by decide))
  have m : ∀ {b' : Option Addr} {s' : ByteArray}, Rp wr b' s' → Rp w2 b' s' := fun hx => (hx.move (h.ropes.grown hg1 (by decide))).move (t1.grown hg2 (by decide))
  refine ⟨h1.move (t1.grown hg2 (by decide)), h2, by simp [h.len], by simp, fun j b' s' e1 e2 => ?_, hB⟩
  rcases get_snoc e1 with e1 | ⟨e1, rfl⟩ <;> rcases get_snoc e2 with e2 | ⟨e2, rfl⟩
  · exact ⟨m (h.all j b' s' e1 e2).1, (h.all j b' s' e1 e2).2⟩
  · have := (List.getElem?_eq_some_iff.1 e1).1
    have := h.len
    omega
  · have := (List.getElem?_eq_some_iff.1 e2).1
    have := h.len
    omega
  · exact ⟨m hr, hs⟩
end Go.Proofs.YtdbdcnpajeflkaaDoor.Rope
