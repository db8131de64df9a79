/- The walks of letters.Right and rope.New: whether a text is right, and its rope. Conditions: texts of at most 2^40 bytes; Go's two tables of utf8 as they are laid. -/
import Derived.Test.YtdbdcnpajeflkaaDoorGRope8
import Derived.Lib.OthersKept
import Derived.Lib.LaidU8T
namespace Go.Proofs.YtdbdcnpajeflkaaDoor.Rope
open Go.RowKit Go.Proofs.YtdbdcnpajeflkaaDoorW.PrintWords Go.Proofs.YtdbdcnpajeflkaaDoorW.PrintLast Go.Proofs.YtdbdcnpajeflkaaDoorW.PrintMore
set_option linter.unusedVariables false
set_option linter.unusedSimpArgs false
/-- Go's two tables of utf8 lie as they are laid. -/
def Tabs (w : World) : Prop := Lib.Utf8Tabs (Tryd.lays196_ren.g 3) (Tryd.lays196_ren.g 4) w
theorem Tabs.below {w w1 : World} (h : Tabs w) (hb : Below w.heap.size w w1) : Tabs w1 := Utf8Tabs_below h hb
theorem letters_Right (s : ByteArray) (w : World) (hs : s.size ≤ 1099511627776) (hT : Tabs w) : Calls Tryd.prog 20 #[.string s] w fun e w' => e = .returned (.bool (Lib.validD s.data.toList)) ∧ Below w.heap.size w w' := by
  have cV : Calls Tryd.prog 35 #[.string s] w _ := Any.utf8_ValidString Tryd.lays196 s w (by omega) hT
  generalize Lib.validD s.data.toList = V at cV ⊢
  go_enter Tryd.func20, Tryd.ntmps20
  go_wp2_with (go_at_call 35; refine cV.mono ?_; rintro e w' ⟨rfl, hb⟩)
  go_ret
  exact ⟨rfl, hb⟩
theorem info_ptr : (Tryd.prog.info? 22).map (fun i => (i.zero, i.size, i.bytes)) = some (some (.pointer none), 1, 8) := by kernel_rfl
theorem IsT.move {w w1 : World} (hm : ∀ (g : Nat) (cs : Array Value), w.heap[g]? = some (.cells cs 52 (0, 0)) → w1.heap[g]? = w.heap[g]?) : ∀ {t : T} {b : Nat}, IsT w t b → IsT w1 t b
  | .leaf s, b, h => (hm b _ h).trans h
  | .node l r, b, ⟨bl, br, h, hl, hr⟩ => ⟨bl, br, (hm b _ h).trans h, hl.move hm, hr.move hm⟩
theorem IsTs.move {w w1 : World} (hm : ∀ (g : Nat) (cs : Array Value), w.heap[g]? = some (.cells cs 52 (0, 0)) → w1.heap[g]? = w.heap[g]?) {ts : List T} {bs : List Nat} (h : IsTs w ts bs) : IsTs w1 ts bs := ⟨h.1, fun j t b h1 h2 => (h.2 j t b h1 h2).move hm⟩
theorem IsTs.snoc {w : World} {ts : List T} {bs : List Nat} (h : IsTs w ts bs) {t : T} {b : Nat} (ht : IsT w t b) : IsTs w (ts ++ [t]) (bs ++ [b]) := by
  refine ⟨by simp [h.1], fun j t' b' h1 h2 => ?_⟩
  rw [List.getElem?_append] at h1 h2
  by_cases hj : j < ts.length
  · rw [if_pos hj] at h1; rw [if_pos (by rw [← h.1]; exact hj)] at h2; exact h.2 j t' b' h1 h2
  · rw [if_neg hj] at h1; rw [if_neg (by rw [← h.1]; exact hj)] at h2
    rw [h.1] at h1
    generalize j - bs.length = i at h1 h2
    cases i with
    | zero => simp at h1 h2; subst h1; subst h2; exact ht
    | succ i => simp at h1
/-- The row of pointers that a call makes. -/
def OwnP (w : World) (base : Nat) (v : Value) (bs : List Nat) : Prop := w.ownsRow base 22 1 v bs.length (encs encP bs)
theorem OwnP.row {w : World} {base : Nat} {v : Value} {bs : List Nat} (h : OwnP w base v bs) :
    (v = .slice none 0 0 ∧ bs = []) ∨ ∃ g c, v = .slice (some ⟨g, 0, none⟩) bs.length c ∧ bs.length ≤ c ∧ c ≤ 9223372036854775807 ∧ RowP w g 0 bs := by
  obtain ⟨h1, h2 | ⟨g, cap, cur, e1, hg, hh, hc, hm, hs, ht⟩⟩ := h
  · exact .inl ⟨h2.1, List.eq_nil_of_length_eq_zero h2.2⟩
  · refine .inr ⟨g, cap, e1, hc, by simpa [maxLen] using hm, fun j x hj => ?_⟩
    rw [Nat.zero_add, blk_cell hh j]
    have hjl : j < bs.length := (List.getElem?_eq_some_iff.1 hj).1
    have : (cur.toList.take (bs.length * 1))[j]? = some (encP x) := by rw [ht, encs, List.getElem?_map, hj]; rfl
    rw [List.getElem?_take_of_lt (by omega)] at this
    simpa using this
theorem OwnP.move {w w1 : World} {base : Nat} {v : Value} {bs : List Nat} (h : OwnP w base v bs) (hm : ∀ (g : Nat) (cs : Array Value), w.heap[g]? = some (.cells cs 22 (0, 0)) → w1.heap[g]? = w.heap[g]?) : OwnP w1 base v bs :=
  own_move h fun k hk => by obtain ⟨cs, hc⟩ := own_typed h k hk; exact hm k cs hc
theorem OwnP.below {w w1 : World} {base : Nat} {v : Value} {bs : List Nat} (h : OwnP w base v bs) (hb : Below w.heap.size w w1) : OwnP w1 base v bs := h.move fun g cs hc => hb.block g (blk_lt hc)
theorem OwnP.none (w : World) (base : Nat) : OwnP w base (.slice none 0 0) [] := ⟨rfl, .inl ⟨rfl, rfl⟩⟩
/-- How many bytes a letter has that is written anew. -/
def encLen (s : ByteArray) (pos : Nat) : Nat := (Utf8.encode ((Utf8.decode s pos).1 : Int)).size
theorem encode_le (r : Int) : (Utf8.encode r).size ≤ 4 := by
  unfold Utf8.encode
  dsimp only
  repeat' split
  all_goals simp [ByteArray.size]
/-- The parts of a text: the state is how far it is read, where the part begins, and the parts ahead. -/
def newGo (s : ByteArray) : Nat → Nat → Nat → List T → List T × Nat
  | 0, _, frm, ts => (ts, frm)
  | f + 1, pos, frm, ts => if pos < s.size then
      (if (64 : Int) < (pos : Int) + (encLen s pos : Int) - (frm : Int) then newGo s f (pos + (Utf8.decode s pos).2) pos (ts ++ [.leaf (s.extract frm pos)]) else newGo s f (pos + (Utf8.decode s pos).2) frm ts) else (ts, frm)
def newL (s : ByteArray) : List T := if (newGo s s.size 0 0 []).2 < s.size then (newGo s s.size 0 0 []).1 ++ [.leaf (s.extract (newGo s s.size 0 0 []).2 s.size)] else (newGo s s.size 0 0 []).1
def newO (s : ByteArray) : Option T := if Lib.validD s.data.toList = true then buildL (newL s) else none
/-- The end of New, from the list on. -/
def RetB (t : Option T) (ok : Bool) (w : World) (e : Ending) (w' : World) : Prop := ∃ v, e = .returned (.tuple #[v, .bool ok]) ∧ IsR w' v t ∧ Below w.heap.size w w'
theorem new_wrong (s : ByteArray) (w : World) (hs : s.size ≤ 1099511627776) (hT : Tabs w) (hv : Lib.validD s.data.toList = false) : Calls Tryd.prog 8 #[.string s] w (RetB none false w) := by
  have cR := letters_Right s w hs hT
  rw [hv] at cR
  clear hv
  go_enter Tryd.func8, Tryd.ntmps8
  go_wp2_with (go_at_call 20; refine cR.mono ?_; rintro e w' ⟨rfl, hb⟩)
  go_ret2
  exact ⟨_, rfl, rfl, hb⟩
end Go.Proofs.YtdbdcnpajeflkaaDoor.Rope
