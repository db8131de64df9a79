/- Values of a row's arguments, read out of memory as plain Lean values, kind by kind: for rows whose arguments are structs, strings, slices of these. -/
import Derived.Test.YtjphmebhofkhcaaDoorWMore
import Derived.SizedLaws
import Derived.Deep.Slices
import Derived.WideShapes
import Derived.ChangeOld
namespace Go.Proofs.YtjphmebhofkhcaaDoorRd
open Go.ChangeShapes Go.WideShapes Go.RowKit Go.Deep Go.Proofs.YtjphmebhofkhcaaDoorW.PrintWords Go.Proofs.YtjphmebhofkhcaaDoorW.PrintLast

/-- What is read at type t is a value of kind k, and is good. -/
def Rds {α : Type} (P : Program) (k : Kd α) (t : TypeId) (G : α → Prop) : Prop :=
  ∀ {H : Type} (enc : TypeId × Value → H) (W : World) (fuel : Nat) (cs : List Value) (x : DataW H × List MemPlace),
    DataW.trod enc P W 0 (fun _ => true) true fuel t cs = some x → (∀ n ∈ x.1.weights P t, n ≤ reachBytes) → ∃ a, k.K W a cs ∧ G a

theorem rds_int {P : Program} {t : TypeId} {k : IntKind} (ht : P.underlying t = some (.int k)) : Rds P (Kd.int k) t (fun n => (Lit.int k n).wf = true) := by
  intro H enc W fuel cs x h _
  obtain ⟨n, rfl, _, hw⟩ := DataW.trod_int ht h
  exact ⟨n, rfl, hw⟩
theorem rds_bool {P : Program} {t : TypeId} (ht : P.underlying t = some .bool) : Rds P Kd.bool t (fun _ => True) := by
  intro H enc W fuel cs x h _
  obtain ⟨n, rfl, _⟩ := DataW.trod_bool ht h
  exact ⟨n, rfl, trivial⟩
theorem rds_string {P : Program} {t : TypeId} (ht : P.underlying t = some .string) : Rds P Kd.string t (fun s => s.size ≤ 140737488351232) := by
  intro H enc W fuel cs x h hs
  obtain ⟨s, rfl, rfl, _⟩ := DataW.trod_string ht h
  refine ⟨s, rfl, ?_⟩
  have := hs s.data.toList.length (by simp [DataW.weights])
  rw [Array.length_toList] at this
  exact this

theorem weights_all {H : Type} {P : Program} {e : TypeId} : ∀ {l : List (DataW H)} {d : DataW H}, d ∈ l → ∀ n ∈ d.weights P e, n ∈ DataW.weightsAll P e l
  | d0 :: l, d, hd, n, hn => by
    simp only [DataW.weightsAll, List.mem_append]
    rcases List.mem_cons.1 hd with rfl | hd
    · exact .inl hn
    · exact .inr (weights_all hd n hn)

theorem rds_slice {α : Type} {P : Program} {t e : TypeId} {k : Kd α} {G : α → Prop} {B : Nat} (z : α) (ht : P.underlying t = some (.slice e)) (hk : Rds P k e G) (hc : P.cellsOf e = k.sz) (hB : P.bytesOf e = B) :
    Rds P (Kd.slice e k) t (fun xs => xs.length * B ≤ 140737488351232 ∧ ∀ x ∈ xs, G x) := by
  intro H enc W fuel cs x h hs
  rcases open_slice ht h with ⟨rfl, rfl⟩ | ⟨a, len, cap, m, n, D, Pl, rfl, _, hl, hm, hmm, rfl, hx⟩
  · exact ⟨[], ⟨none, 0, rfl, Nat.le_refl _, Kd.C_nil k W⟩, by simp, by simp⟩
  · have hmc : m = cap := by simpa using hmm
    subst hmc
    have hw : ∀ i, i < len → ∀ q ∈ (D i).weights P e, q ≤ reachBytes := by
      intro i hi q hq
      refine hs q ?_
      simp only [DataW.weights, ht, List.mem_cons, List.mem_append]
      exact .inr (.inl (weights_all (List.mem_map.2 ⟨i, List.mem_range.2 hi, rfl⟩) q hq))
    have hel : ∀ i, i < len → ∃ y : α, (∃ c, c.length = k.sz ∧ k.K W y c ∧ ∀ j u, c[j]? = some u → W.cell? (a.add (i * k.sz + j)) = some u) ∧ G y := by
      intro i hi
      obtain ⟨c, h1, h2⟩ := hx i (by omega)
      obtain ⟨y, hy, hg⟩ := hk enc W n c _ h2 (hw i hi)
      rw [hc] at h1
      obtain ⟨_, hlen, hcell⟩ := World.cells?_some h1
      refine ⟨y, ⟨c, hlen, hy, fun j u hu => ?_⟩, hg⟩
      have hj := (List.getElem?_eq_some_iff.1 hu).1
      have := hcell j (by omega)
      rw [Go.Deep.add_add] at this
      exact this.trans hu
    haveI : Inhabited α := ⟨z⟩
    obtain ⟨f, hf⟩ := choose_lt hel
    have hlen : ((List.range len).map f).length = len := by simp
    refine ⟨(List.range len).map f, ⟨some a, m, by rw [hlen], by rw [hlen]; exact hl, hlen.symm ▸ ⟨hlen, ?_, fun _ => ⟨a, rfl, fun j p hj => ?_⟩⟩⟩, ?_, ?_⟩
    · unfold maxLen at hm
      omega
    · have hjl : j < len := by have := (List.getElem?_eq_some_iff.1 hj).1; rw [hlen] at this; exact this
      have : p = f j := by
        rw [List.getElem?_map, List.getElem?_range hjl] at hj
        simpa using hj.symm
      subst this
      exact (hf j hjl).1
    · rw [hlen]
      have h0 := hs ((len + (m - len)) * P.bytesOf e) (by simp [DataW.weights, ht])
      rw [hB] at h0
      exact Nat.le_trans (Nat.mul_le_mul_right _ (by omega)) h0
    · intro y hy
      obtain ⟨i, hi, rfl⟩ := List.mem_map.1 hy
      exact (hf i (List.mem_range.1 hi)).2

/-! structs: field by field -/
/-- The fields fs, in line, read out of the cells from off on. -/
def RdF {α : Type} (P : Program) (k : Kd α) (fs : List Field) (off : Nat) (G : α → Prop) : Prop :=
  ∀ {H : Type} (enc : TypeId × Value → H) (W : World) (fuel : Nat) (cs : List Value) (xs : List (DataW H × List MemPlace)),
    (∀ (i : Nat) (f : Field), fs[i]? = some f → ∃ x, xs[i]? = some x ∧ DataW.trod enc P W 0 (fun _ => true) true fuel f.type ((cs.drop f.offset).take (P.cellsOf f.type)) = some x ∧ ∀ n ∈ x.1.weights P f.type, n ≤ reachBytes) →
    cs.length = off + k.sz → ∃ a, k.K W a (cs.drop off) ∧ G a

theorem rdf_one {α : Type} {P : Program} {k : Kd α} {G : α → Prop} {f : Field} {off : Nat} (hk : Rds P k f.type G) (ho : f.offset = off) (hc : P.cellsOf f.type = k.sz) : RdF P k [f] off G := by
  intro H enc W fuel cs xs h hl
  obtain ⟨x, _, hx, hw⟩ := h 0 f rfl
  obtain ⟨a, ha, hg⟩ := hk enc W fuel _ x hx hw
  rw [ho, hc, List.take_of_length_le (by rw [List.length_drop]; omega)] at ha
  exact ⟨a, ha, hg⟩

theorem rdf_cons {α β : Type} {P : Program} {k : Kd α} {l : Kd β} {G : α → Prop} {G' : β → Prop} {f : Field} {fs : List Field} {off : Nat} (hk : Rds P k f.type G) (ho : f.offset = off) (hc : P.cellsOf f.type = k.sz)
    (hr : RdF P l fs (off + k.sz) G') : RdF P (Kd.pair k l) (f :: fs) off (fun p => G p.1 ∧ G' p.2) := by
  intro H enc W fuel cs xs h hl
  obtain ⟨x, _, hx, hw⟩ := h 0 f rfl
  obtain ⟨a, ha, hg⟩ := hk enc W fuel _ x hx hw
  have hsz : (Kd.pair k l).sz = k.sz + l.sz := rfl
  rw [hsz] at hl
  obtain ⟨b, hb, hg'⟩ := hr enc W fuel cs xs.tail (fun i f' hf' => by
    obtain ⟨y, hy, r⟩ := h (i + 1) f' (by simpa using hf')
    refine ⟨y, ?_, r⟩
    rw [List.getElem?_tail]
    exact hy) (by omega)
  refine ⟨(a, b), ⟨_, _, ?_, ha, hb⟩, hg, hg'⟩
  rw [ho, hc, ← List.drop_drop, List.take_append_drop]

theorem weights_each_get {H : Type} {P : Program} {ts : List TypeId} {ds : List (DataW H)} {i : Nat} {t : TypeId} {d : DataW H} (ht : ts[i]? = some t) (hd : ds[i]? = some d) : ∀ n ∈ d.weights P t, n ∈ DataW.weightsEach P ts ds :=
  DataW.weights_mem_each ht hd

theorem rds_struct {α : Type} {P : Program} {t : TypeId} {fs : Array Field} {k : Kd α} {G : α → Prop} (ht : P.underlying t = some (.struct fs)) (hk : RdF P k fs.toList 0 G) (hc : P.cellsOf t = k.sz) : Rds P k t G := by
  intro H enc W fuel cs x h hs
  obtain ⟨xs, n, rfl, rfl, hl, hn, hx⟩ := DataW.trod_struct ht h
  have := hk enc W n cs xs (fun i f hf => by
    have hf' : fs[i]? = some f := by simpa using hf
    have hi : i < xs.length := by
      rw [hn]
      exact (Array.getElem?_eq_some_iff.1 hf').1
    have e := hx i f hf'
    refine ⟨xs[i], List.getElem?_eq_getElem hi, e.trans (List.getElem?_eq_getElem hi), fun q hq => hs q ?_⟩
    simp only [DataW.weights, ht]
    exact weights_each_get (i := i) (t := f.type) (d := xs[i].1) (by rw [List.getElem?_map, hf]; rfl) (by rw [List.getElem?_map, List.getElem?_eq_getElem hi]; rfl) q hq) (by rw [hl, hc]; omega)
  simpa using this

theorem rds_iso {α β : Type} {P : Program} {t : TypeId} {k : Kd α} {G : α → Prop} (f : β → α) (g : α → β) (hfg : ∀ a, f (g a) = a) (hk : Rds P k t G) : Rds P (Kd.iso k f) t (fun b => G (f b)) := by
  intro H enc W fuel cs x h hs
  obtain ⟨a, ha, hg⟩ := hk enc W fuel cs x h hs
  exact ⟨g a, by show k.K W (f (g a)) cs; rw [hfg]; exact ha, by show G (f (g a)); rw [hfg]; exact hg⟩

theorem rds_imp {α : Type} {P : Program} {t : TypeId} {k : Kd α} {G G' : α → Prop} (hk : Rds P k t G) (h : ∀ a, G a → G' a) : Rds P k t G' := by
  intro H enc W fuel cs x hx hs
  obtain ⟨a, ha, hg⟩ := hk enc W fuel cs x hx hs
  exact ⟨a, ha, h a hg⟩

/-! a row's argument -/
theorem arg_of {α H : Type} {enc : TypeId × Value → H} {P : Program} {W : World} {k : Kd α} {t : TypeId} {G : α → Prop} {v : Value} {d : DataW H} {p : List MemPlace} {ts : List TypeId} {ds : List (DataW H)} {j : Nat}
    (hk : Rds P k t G) (h : DataW.Trod enc P W 0 (fun _ => true) true t v d p)
    (hsz : (DataW.weightsEach P ts ds).all (· ≤ reachBytes) = true) (ht : ts[j]? = some t) (hd : ds[j]? = some d) : ∃ a, k.K W a v.cells.toList ∧ G a := by
  obtain ⟨fuel, hf⟩ := h
  refine hk enc W fuel _ _ hf (fun n hn => ?_)
  have := List.all_eq_true.1 hsz _ (DataW.weights_mem_each ht hd n hn)
  simpa using this
/-- A slice: its address, its room, its elements. -/
theorem arg_slice {α : Type} {W : World} {k : Kd α} {e : TypeId} {v : Value} {xs : List α} (hv : ∃ a len cap, v = .slice a len cap) (h : (Kd.slice e k).K W xs v.cells.toList) :
    ∃ A c, v = .slice A xs.length c ∧ Kd.C k W A xs.length xs ∧ xs.length ≤ c := by
  obtain ⟨a, len, cap, rfl⟩ := hv
  obtain ⟨A, c, e, hl, hC⟩ := h
  simp [Value.cells] at e
  obtain ⟨rfl, rfl, rfl⟩ := e
  exact ⟨_, _, rfl, hC, hl⟩
end Go.Proofs.YtjphmebhofkhcaaDoorRd
