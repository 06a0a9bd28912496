/- What a call is handed, read as data, is of the kinds that the printed contracts speak of: kind by kind, over any program. A template: Ytbkkgaiokmnmgaa stands for the seat's Name. -/
import Derived.Test.YtbkkgaiokmnmgaaWAll
import Derived.Test.YtbkkgaiokmnmgaaWSized
import Derived.Deep.Slices
import Derived.Deep.Fields
import Derived.ChangeSame
import Derived.Carry
import Derived.ChangeArms
import Derived.WideShapes
import Derived.SizedLaws
import Derived.OpenShut
namespace Go.Proofs.Ytbkkgaiokmnmgaa.Opn
open Go.RowKit Go.ChangeShapes Go.WideShapes Go.Proofs.YtbkkgaiokmnmgaaW.PrintWords

/-- Whatever is read as data of type t out of cells is of kind d, and within bounds. -/
def Opens {α : Type} (P : Program) (t : TypeId) (d : Kd α) (Wf : α → Prop) : Prop :=
  P.cellsOf t = d.sz ∧ ∀ (H : Type) (enc : TypeId × Value → H) (w : World) (base : Nat) (spare : Nat → Bool) (held : Bool) (fuel : Nat) (cs : List Value) (x : DataW H × List MemPlace),
    cs.length = d.sz → DataW.trod enc P w base spare held fuel t cs = some x → (x.1.weights P t).all (· ≤ reachBytes) = true → ∃ a, d.K w a cs ∧ Wf a

/-- The same of a list of fields that lie one behind the other from cell off on. -/
def OpensF {α : Type} (P : Program) (off : Nat) (fs : List Field) (d : Kd α) (Wf : α → Prop) : Prop :=
  ∀ (H : Type) (enc : TypeId × Value → H) (w : World) (base : Nat) (spare : Nat → Bool) (held : Bool) (n : Nat) (cs : List Value) (ys : List (DataW H × List MemPlace)),
    cs.length = d.sz → ys.length = fs.length → (∀ (i : Nat) (f : Field), fs[i]? = some f → DataW.trod enc P w base spare held n f.type ((cs.drop (f.offset - off)).take (P.cellsOf f.type)) = ys[i]?) →
    (DataW.weightsEach P (fs.map (·.type)) (ys.map (·.1))).all (· ≤ reachBytes) = true → ∃ a, d.K w a cs ∧ Wf a

section
variable {P : Program} {t : TypeId}

theorem Opens_int {k : IntKind} (ht : P.underlying t = some (.int k)) (hc : P.cellsOf t = 1) : Opens P t (Kd.int k) (fun n => (Lit.int k n).wf = true) := by
  refine ⟨hc, fun H enc w base spare held fuel cs x hl h _ => ?_⟩
  obtain ⟨n, rfl, _, hw⟩ := DataW.trod_int ht h
  exact ⟨n, rfl, hw⟩

theorem Opens_bool (ht : P.underlying t = some .bool) (hc : P.cellsOf t = 1) : Opens P t Kd.bool (fun _ => True) := by
  refine ⟨hc, fun H enc w base spare held fuel cs x hl h _ => ?_⟩
  obtain ⟨b, rfl, _⟩ := DataW.trod_bool ht h
  exact ⟨b, rfl, trivial⟩

theorem Opens_string (ht : P.underlying t = some .string) (hc : P.cellsOf t = 1) : Opens P t Kd.string (fun s => s.size ≤ 140737488351232) := by
  refine ⟨hc, fun H enc w base spare held fuel cs x hl h hz => ?_⟩
  obtain ⟨s, rfl, rfl, _⟩ := DataW.trod_string ht h
  refine ⟨s, rfl, ?_⟩
  simp only [DataW.weights, List.all_cons, List.all_nil, Bool.and_true, decide_eq_true_eq] at hz
  rw [Array.length_toList] at hz
  exact hz

theorem all_weightsAll {H : Type} {e : TypeId} {ds : List (DataW H)} (h : (DataW.weightsAll P e ds).all (· ≤ reachBytes) = true) : ∀ d ∈ ds, (d.weights P e).all (· ≤ reachBytes) = true := by
  induction ds with
  | nil => intro d hd; cases hd
  | cons x r ih =>
    simp only [DataW.weightsAll, List.all_append, Bool.and_eq_true] at h
    intro d hd
    rcases List.mem_cons.1 hd with rfl | hd
    · exact h.1
    · exact ih h.2 d hd

theorem Opens_slice {α : Type} {e : TypeId} {d : Kd α} {Wf : α → Prop} (ht : P.underlying t = some (.slice e)) (hc : P.cellsOf t = 1) (he : Opens P e d Wf) :
    Opens P t (Kd.slice e d) (fun xs => xs.length ≤ maxLen ∧ xs.length * P.bytesOf e ≤ 140737488351232 ∧ ∀ x ∈ xs, Wf x) := by
  obtain ⟨hce, he⟩ := he
  refine ⟨hc, fun H enc w base spare held fuel cs x hl h hz => ?_⟩
  rcases Go.Deep.open_slice ht h with ⟨rfl, rfl⟩ | ⟨a, len, cap, m, n, D, Pl, rfl, hb, hlc, hm, hmm, rfl, hi⟩
  · exact ⟨[], ⟨none, 0, rfl, Nat.le_refl _, rfl, by simp, fun h => absurd h (by simp)⟩, by simp, by simp, fun x hx => by cases hx⟩
  · have hlm : len ≤ m := by rw [hmm]; split <;> omega
    simp only [DataW.weights, ht, List.all_cons, List.all_append, Bool.and_eq_true, decide_eq_true_eq] at hz
    obtain ⟨hz0, hz1, _⟩ := hz
    have hw := all_weightsAll hz1
    have hex : ∀ i : Fin len, ∃ (v : α) (cs' : List Value), w.cells? base (a.add (i.1 * P.cellsOf e)) (P.cellsOf e) = some cs' ∧ d.K w v cs' ∧ Wf v := by
      intro i
      obtain ⟨cs', hcs, htr⟩ := hi i.1 (Nat.lt_of_lt_of_le i.2 hlm)
      obtain ⟨_, hlen, _⟩ := World.cells?_some hcs
      obtain ⟨v, hK, hV⟩ := he H enc w base spare held n cs' _ (hlen.trans hce) htr (hw _ (by simp only [List.mem_map, List.mem_range]; exact ⟨i.1, i.2, rfl⟩))
      exact ⟨v, cs', hcs, hK, hV⟩
    have hl0 : (List.ofFn fun i => Classical.choose (hex i)).length = len := List.length_ofFn
    refine ⟨List.ofFn fun i => Classical.choose (hex i), ⟨some a, cap, by rw [hl0], by rw [hl0]; exact hlc, by rw [hl0], ?_, fun _ => ⟨a, rfl, fun j p hj => ?_⟩⟩, ?_, ?_, ?_⟩
    · rw [hl0]; unfold maxLen at hm; omega
    · obtain ⟨hjl, hjp⟩ := List.getElem?_eq_some_iff.1 hj
      rw [List.getElem_ofFn] at hjp
      obtain ⟨cs', hcs, hK, _⟩ := Classical.choose_spec (hex ⟨j, by simpa using hjl⟩)
      obtain ⟨_, hlen, hat⟩ := World.cells?_some hcs
      refine ⟨cs', hlen.trans hce, by rw [← hjp]; exact hK, fun i u hu => ?_⟩
      have hil : i < cs'.length := (List.getElem?_eq_some_iff.1 hu).1
      have h1 := hat i (by omega)
      rw [hu, Go.Deep.add_add] at h1
      rw [← hce]
      exact h1
    · rw [hl0]; omega
    · rw [hl0]
      simp only [List.length_map, List.length_range] at hz0
      refine Nat.le_trans (Nat.mul_le_mul_right _ ?_) hz0
      omega
    · intro v hv
      obtain ⟨i, rfl⟩ := List.mem_ofFn.1 hv
      obtain ⟨cs', _, _, hV⟩ := Classical.choose_spec (hex i)
      exact hV

theorem OpensF_one {α : Type} {off : Nat} {f : Field} {d : Kd α} {Wf : α → Prop} (ho : f.offset = off) (h : Opens P f.type d Wf) : OpensF P off [f] d Wf := by
  intro H enc w base spare held n cs ys hl hy hf hz
  match ys, hy with
  | [y], _ =>
    have h0 := hf 0 f rfl
    rw [ho, Nat.sub_self, List.drop_zero, h.1, List.take_of_length_le (by omega)] at h0
    simp only [List.map_cons, List.map_nil, DataW.weightsEach, List.append_nil] at hz
    exact h.2 H enc w base spare held n cs y hl h0 hz

theorem OpensF_cons {α β : Type} {off : Nat} {f : Field} {fs : List Field} {a : Kd α} {b : Kd β} {Wa : α → Prop} {Wb : β → Prop} (ho : f.offset = off) (h : Opens P f.type a Wa) (hr : OpensF P (off + a.sz) fs b Wb)
    (hoff : ∀ g ∈ fs, off + a.sz ≤ g.offset) : OpensF P off (f :: fs) (Kd.pair a b) (fun x => Wa x.1 ∧ Wb x.2) := by
  intro H enc w base spare held n cs ys hl hy hf hz
  match ys, hy with
  | y :: ys, hy =>
    have hl' : cs.length = a.sz + b.sz := hl
    have h0 := hf 0 f rfl
    rw [ho, Nat.sub_self, List.drop_zero, h.1] at h0
    simp only [List.map_cons, DataW.weightsEach, List.all_append, Bool.and_eq_true] at hz
    obtain ⟨x, hx, hwx⟩ := h.2 H enc w base spare held n (cs.take a.sz) y (by rw [List.length_take]; omega) h0 hz.1
    obtain ⟨z, hz', hwz⟩ := hr H enc w base spare held n (cs.drop a.sz) ys (by rw [List.length_drop]; omega) (by simpa using hy) (fun i g hg => by
      have h1 := hf (i + 1) g hg
      have h2 := hoff g (List.mem_of_getElem? hg)
      rw [List.drop_drop, show a.sz + (g.offset - (off + a.sz)) = g.offset - off by omega]
      exact h1) hz.2
    exact ⟨(x, z), ⟨_, _, (List.take_append_drop a.sz cs).symm, hx, hz'⟩, hwx, hwz⟩

theorem Opens_struct {α : Type} {fs : Array Field} {d : Kd α} {Wf : α → Prop} (ht : P.underlying t = some (.struct fs)) (hc : P.cellsOf t = d.sz) (h : OpensF P 0 fs.toList d Wf) : Opens P t d Wf := by
  refine ⟨hc, fun H enc w base spare held fuel cs x hl htr hz => ?_⟩
  obtain ⟨ys, n, rfl, rfl, _, hyl, hf⟩ := DataW.trod_struct ht htr
  simp only [DataW.weights, ht] at hz
  exact h H enc w base spare held n cs ys hl (by simpa using hyl) (fun i f hfi => by rw [Nat.sub_zero]; exact hf i f (by simpa using hfi)) hz

theorem Opens_iso {α β : Type} {d : Kd α} {Wf : α → Prop} (f : β → α) (g : α → β) (hfg : ∀ a, f (g a) = a) (h : Opens P t d Wf) : Opens P t (Kd.iso d f) (fun b => Wf (f b)) := by
  refine ⟨h.1, fun H enc w base spare held fuel cs x hl htr hz => ?_⟩
  obtain ⟨a, hK, hW⟩ := h.2 H enc w base spare held fuel cs x hl htr hz
  exact ⟨g a, by show d.K w (f (g a)) cs; rw [hfg]; exact hK, by show Wf (f (g a)); rw [hfg]; exact hW⟩

/-- A parameter by value, its cells. -/
theorem Opens_agg {α : Type} {H : Type} {enc : TypeId × Value → H} {w : World} {base : Nat} {spare : Nat → Bool} {held : Bool} {r : Reach} {b0 : Nat} {fs : Array Field} {d : Kd α} {Wf : α → Prop} {v : Value} {x : DataW H} {p : List MemPlace}
    (ho : Opens P t d Wf) (hs : P.underlying t = some (.struct fs)) (hv : Value.okWide P w r b0 t v) (h : DataW.Trod enc P w base spare held t v x p) (hz : (x.weights P t).all (· ≤ reachBytes) = true) :
    ∃ (cs : List Value) (a : α), v = .agg ⟨cs⟩ ∧ d.K w a cs ∧ Wf a := by
  obtain ⟨⟨cs⟩, rfl, hsz⟩ := okWide_struct hs hv
  obtain ⟨fuel, hf⟩ := h
  obtain ⟨a, hK, hW⟩ := ho.2 H enc w base spare held fuel cs _ (hsz.trans ho.1) hf hz
  exact ⟨cs, a, rfl, hK, hW⟩
/-- An array of four, as a pair of pairs. -/
theorem Opens_array4 {α : Type} {e : TypeId} {d : Kd α} {Wf : α → Prop} (ht : P.underlying t = some (.array 4 e)) (hc : P.cellsOf t = (Kd.pair d (Kd.pair d (Kd.pair d d))).sz) (he : Opens P e d Wf) :
    Opens P t (Kd.pair d (Kd.pair d (Kd.pair d d))) (fun x => Wf x.1 ∧ Wf x.2.1 ∧ Wf x.2.2.1 ∧ Wf x.2.2.2) := by
  refine ⟨hc, fun H enc w base spare held fuel cs x hl htr hz => ?_⟩
  obtain ⟨ys, m, rfl, rfl, _, hyl, hf⟩ := DataW.trod_array ht htr
  simp only [DataW.weights, ht] at hz
  have hw := all_weightsAll hz
  have hl4 : cs.length = d.sz + (d.sz + (d.sz + d.sz)) := hl
  match ys, hyl with
  | [y0, y1, y2, y3], _ =>
    have g : ∀ (i : Nat) (y : DataW H × List MemPlace), i < 4 → [y0, y1, y2, y3][i]? = some y → ∃ a, d.K w a ((cs.drop (i * d.sz)).take d.sz) ∧ Wf a := by
      intro i y hi hy
      have h0 := hf i hi
      rw [hy, he.1] at h0
      refine he.2 H enc w base spare held m _ y ?_ h0 (hw _ (List.mem_map.2 ⟨y, List.mem_of_getElem? hy, rfl⟩))
      have : i = 0 ∨ i = 1 ∨ i = 2 ∨ i = 3 := by omega
      rw [List.length_take, List.length_drop]
      rcases this with rfl | rfl | rfl | rfl <;> omega
    obtain ⟨a0, k0, w0⟩ := g 0 y0 (by omega) rfl
    obtain ⟨a1, k1, w1⟩ := g 1 y1 (by omega) rfl
    obtain ⟨a2, k2, w2⟩ := g 2 y2 (by omega) rfl
    obtain ⟨a3, k3, w3⟩ := g 3 y3 (by omega) rfl
    refine ⟨(a0, a1, a2, a3), ⟨cs.take d.sz, cs.drop d.sz, (List.take_append_drop d.sz cs).symm, by simpa using k0, (cs.drop d.sz).take d.sz, (cs.drop d.sz).drop d.sz, (List.take_append_drop d.sz _).symm, by simpa using k1, ((cs.drop d.sz).drop d.sz).take d.sz, ((cs.drop d.sz).drop d.sz).drop d.sz, (List.take_append_drop d.sz _).symm, ?_, ?_⟩, w0, w1, w2, w3⟩
    · rw [List.drop_drop, show d.sz + d.sz = 2 * d.sz by omega]; exact k2
    · rw [List.drop_drop, List.drop_drop, show d.sz + (d.sz + d.sz) = 3 * d.sz by omega]
      rwa [List.take_of_length_le (by rw [List.length_drop]; omega)] at k3
/-- An array by value, its cells. -/
theorem Opens_aggA {α : Type} {H : Type} {enc : TypeId × Value → H} {w : World} {base : Nat} {spare : Nat → Bool} {held : Bool} {r : Reach} {b0 : Nat} {n : Nat} {e : TypeId} {d : Kd α} {Wf : α → Prop} {v : Value} {x : DataW H} {p : List MemPlace}
    (ho : Opens P t d Wf) (hs : P.underlying t = some (.array n e)) (hv : Value.okWide P w r b0 t v) (h : DataW.Trod enc P w base spare held t v x p) (hz : (x.weights P t).all (· ≤ reachBytes) = true) :
    ∃ (cs : List Value) (a : α), v = .agg ⟨cs⟩ ∧ d.K w a cs ∧ Wf a := by
  simp only [Value.okWide, hs] at hv
  obtain ⟨⟨cs⟩, rfl, hsz, _⟩ := hv
  obtain ⟨fuel, hf⟩ := h
  obtain ⟨a, hK, hW⟩ := ho.2 H enc w base spare held fuel cs _ (hsz.trans ho.1) hf hz
  exact ⟨cs, a, rfl, hK, hW⟩
theorem Opens_val {α : Type} {H : Type} {enc : TypeId × Value → H} {w : World} {base : Nat} {spare : Nat → Bool} {held : Bool} {r : Reach} {b0 : Nat} {e : TypeId} {d : Kd α} {Wf : List α → Prop} {v : Value} {x : DataW H} {p : List MemPlace}
    (ho : Opens P t (Kd.slice e d) Wf) (hs : P.underlying t = some (.slice e)) (hv : Value.okWide P w r b0 t v) (h : DataW.Trod enc P w base spare held t v x p) (hz : (x.weights P t).all (· ≤ reachBytes) = true) :
    ∃ (A : Option Addr) (c : Nat) (xs : List α), v = .slice A xs.length c ∧ xs.length ≤ c ∧ d.C w A xs.length xs ∧ Wf xs := by
  obtain ⟨A, l, c, rfl⟩ := okWide_slice hs hv
  obtain ⟨fuel, hf⟩ := h
  obtain ⟨a, ⟨A', c', he, hl, hC⟩, hW⟩ := ho.2 H enc w base spare held fuel [.slice A l c] _ rfl hf hz
  injection he with he
  exact ⟨A', c', a, he, hl, hC, hW⟩
theorem weights_head {H : Type} {ts : List TypeId} {x : DataW H} {r : List (DataW H)} (h : (DataW.weightsEach P (t :: ts) (x :: r)).all (· ≤ reachBytes) = true) :
    (x.weights P t).all (· ≤ reachBytes) = true ∧ (DataW.weightsEach P ts r).all (· ≤ reachBytes) = true := by
  simpa only [DataW.weightsEach, List.all_append, Bool.and_eq_true] using h
end
end Go.Proofs.Ytbkkgaiokmnmgaa.Opn
