/- Package chain over this program: Energy. -/
import Derived.Test.YtenkffjlpdappaaHChainC
import Derived.StillTailTactics
import Derived.Laws.EntriesVeiled
namespace Go.Proofs.Ytenkffjlpdappaa.Pr
open Go.RowKit Go.Shelf Go.Proofs.YtenkffjlpdappaaW.PrintWords Go.Proofs.YtenkffjlpdappaaW.PrintLast Go.Proofs.YtenkffjlpdappaaW.PrintMore
set_option linter.unusedVariables false
set_option linter.unusedSimpArgs false
attribute [local go_sem] Oper.semAt_some

/-- What a reading adds. -/
def dI (l : List S44) (i : Nat) : Int := if (rd_T44 l i).f0 = (rd_T44 l ((i : Int) - 1)).f0 then (rd_T44 l i).f3 - (rd_T44 l ((i : Int) - 1)).f3 else 0
set_option maxRecDepth 1000000 in
set_option maxHeartbeats 4000000 in
theorem add_calls (Bl Bs : Nat) (A : Option Addr) (c : Nat) (l : List S44) (i : Nat) (s : Int) (w0 W : World) (hr : Kd.C k44 w0 A l.length l) (hb : Below w0.heap.size w0 W) (h0 : 0 < i) (h1 : i < l.length)
    (hl : W.cell? ⟨Bl, 0, none⟩ = some (.slice A l.length c)) (hs : Boxed W Bs 3 (.int .i64 s)) (s0 : -1000000000000 ≤ s) (s1 : s ≤ 1000000000000)
    (ra0 : 0 ≤ (rd_T44 l i).f3) (ra1 : (rd_T44 l i).f3 ≤ 1000000000) (rb0 : 0 ≤ (rd_T44 l ((i : Int) - 1)).f3) (rb1 : (rd_T44 l ((i : Int) - 1)).f3 ≤ 1000000000) :
    Calls Try.prog 41 #[.int .i64 (i : Int), .pointer (some ⟨Bl, 0, none⟩), .pointer (some ⟨Bs, 0, none⟩)] W fun e W' => e = .returned (.tuple #[]) ∧ Boxed W' Bs 3 (.int .i64 (s + dI l i)) ∧ (∀ k, k ≠ Bs → W'.heap[k]? = W.heap[k]?) ∧ W'.heap.size = W.heap.size ∧ W'.os = W.os ∧ W'.tape = W.tape ∧ W'.output = W.output := by
  have hlen : l.length ≤ 9223372036854775807 := hr.2.1
  obtain ⟨ad, rfl, hc0, hc1, hc2, hc3, hc4⟩ := at_T44 hr i (Int.natCast_nonneg _) (by omega)
  obtain ⟨ad', e', hp0, hp1, hp2, hp3, hp4⟩ := at_T44 hr ((i : Int) - 1) (by omega) (by omega)
  obtain rfl : ad = ad' := Option.some.inj e'
  clear e' hc1 hc2 hc4 hp1 hp2 hp4 hr
  simp only [Int.toNat_natCast] at hc0 hc3
  rw [show ((i : Int) - 1).toNat = i - 1 by omega] at hp0 hp3
  replace hc0 := (hb.cell (World.block_lt_of_cell? w0 _ hc0)).trans hc0
  replace hc3 := (hb.cell (World.block_lt_of_cell? w0 _ hc3)).trans hc3
  replace hp0 := (hb.cell (World.block_lt_of_cell? w0 _ hp0)).trans hp0
  replace hp3 := (hb.cell (World.block_lt_of_cell? w0 _ hp3)).trans hp3
  obtain ⟨D, hD⟩ : ∃ D, D = dI l i := ⟨_, rfl⟩
  rw [← hD]
  unfold dI at hD
  generalize rd_T44 l i = x at hc0 hc3 hD ra0 ra1
  generalize rd_T44 l ((i : Int) - 1) = p at hp0 hp3 hD rb0 rb1
  have cs := hs.cell
  have fs := hs.frozen
  have HSB := Aside0.mk hs
  have hu := Try.underlying44
  have hw2 : IntKind.i64.wrap ((i : Int) - 1) = i - 1 := by simp [IntKind.wrap, IntKind.bits, IntKind.signed]; omega
  have x0 : 0 ≤ (i : Int) - 1 := by omega
  have x1 : (i : Int) - 1 < (l.length : Int) := by omega
  have x3 : 1 ≤ (i : Int) := by omega
  have x2 : ((i : Int) - 1).toNat = i - 1 := by omega
  clear hb hs
  by_cases g : x.f0 = p.f0
  · rw [if_pos g] at hD
    have gb : (x.f0 == p.f0) = true := beq_iff_eq.mpr g
    have HG := Aside0.mk g
    clear g
    go_enter Try.func41, Try.ntmps41
    go_wp2
    go_region
    all_goals go_wp2
    have HW := Aside0.mk (show W.drew.heap = W.heap ∧ W.drew.os = W.os ∧ W.drew.tape = W.tape ∧ W.drew.output = W.output from ⟨rfl, rfl, rfl, rfl⟩)
    replace hl : W.drew.cell? ⟨Bl, 0, none⟩ = some (.slice (some ad) l.length c) := hl
    replace hc3 : W.drew.cell? ⟨(ad.add (i * 5)).block, (ad.add (i * 5)).off + 3, none⟩ = some (.int .i64 x.f3) := hc3
    replace hp3 : W.drew.cell? ⟨(ad.add ((i - 1) * 5)).block, (ad.add ((i - 1) * 5)).off + 3, none⟩ = some (.int .i64 p.f3) := hp3
    replace cs : W.drew.cell? ⟨Bs, 0, none⟩ = some (.int .i64 s) := cs
    replace fs : W.drew.frozen? ⟨Bs, 0, none⟩ = false := fs
    replace HSB : Aside0 (Boxed W.drew Bs 3 (.int .i64 s)) := HSB
    clear hc0 hp0
    generalize W.drew = W1 at HW hl hc3 hp3 cs fs HSB ⊢
    go_still_tail 14, (by kernel_rfl)
    rw [wrap_fit (x := x.f3 - p.f3) (by omega) (by omega), wrap_fit (x := s + (x.f3 - p.f3)) (by omega) (by omega)]
    change wpList _ _ _ _ _ W1.drew
    replace cs : W1.drew.cell? ⟨Bs, 0, none⟩ = some (.int .i64 s) := cs
    replace fs : W1.drew.frozen? ⟨Bs, 0, none⟩ = false := fs
    replace HSB : Aside0 (Boxed W1.drew Bs 3 (.int .i64 s)) := HSB
    have HW2 := Aside0.mk (show W1.drew.heap = W.heap ∧ W1.drew.os = W.os ∧ W1.drew.tape = W.tape ∧ W1.drew.output = W.output from HW.out)
    clear hl hc3 hp3 HW ra0 ra1 rb0 rb1
    generalize W1.drew = W2 at cs fs HSB HW2 ⊢
    go_wp2
    go_end0
    exact ⟨rfl, by rw [hD]; exact HSB.out.set _, fun k hk => by rw [heap_setCell_other W2 ⟨Bs, 0, none⟩ k _ hk, HW2.out.1], by simp [World.setCell, HW2.out.1], HW2.out.2⟩
  · rw [if_neg g] at hD
    have gb : (x.f0 == p.f0) = false := beq_eq_false_iff_ne.mpr g
    clear g
    go_enter Try.func41, Try.ntmps41
    go_wp2
    go_region
    all_goals go_wp2
    all_goals go_end0
    all_goals exact ⟨rfl, by rw [hD, Int.add_zero]; exact HSB.out, fun _ _ => rfl, rfl, rfl, rfl, rfl⟩

/-- The sum over what has come. -/
def enS (l : List S44) (first last : Int) (pre : List (Nat × S44)) : Int := pre.foldl (fun s x => s + (if 0 < x.1 ∧ first ≤ (x.1 : Int) ∧ (x.1 : Int) < last then dI l x.1 else 0)) 0
theorem enS_snoc (l : List S44) (first last : Int) (pre : List (Nat × S44)) (x : Nat × S44) : enS l first last (pre ++ [x]) = enS l first last pre + (if 0 < x.1 ∧ first ≤ (x.1 : Int) ∧ (x.1 : Int) < last then dI l x.1 else 0) := by unfold enS; rw [List.foldl_append]; rfl
/-- The sum over the first m readings. -/
def enI (l : List S44) (first last : Int) : Nat → Int
  | 0 => 0
  | m + 1 => enI l first last m + (if 0 < m ∧ first ≤ (m : Int) ∧ (m : Int) < last then dI l m else 0)
theorem enS_upto (l : List S44) (first last : Int) : ∀ m : Nat, enS l first last (uptoR (rdN l) m) = enI l first last m
  | 0 => rfl
  | m + 1 => by rw [uptoR_succ, enS_snoc, enS_upto l first last m]; rfl
def ordAll (l : List S44) : Bool := decide (firstBad (okAt l) 0 l.length = l.length)
def chain_Energy.f (l0 : List S44) (a1 a2 : Int) : Option (Int × Int) :=
  if ordAll l0 = true ∧ 1 ≤ a1 ∧ a1 ≤ a2 ∧ a2 ≤ (l0.length : Int) then some (enI l0 a1 a2 l0.length, 0) else some (0, 1)
theorem okAt_reg {l : List S44} {k : Nat} (h : okAt l k = true) : 0 ≤ (rd_T44 l k).f3 ∧ (rd_T44 l k).f3 ≤ 1000000000 := by
  unfold okAt rvalidB at h
  simp only [Bool.and_eq_true, decide_eq_true_eq] at h
  exact ⟨h.2.1.2.2.2.2.2.2.1, h.2.1.2.2.2.2.2.2.2⟩
theorem dI_range {l : List S44} {k : Nat} (h0 : 0 < k) (h : ∀ j, j ≤ k → okAt l j = true) : -1000000000 ≤ dI l k ∧ dI l k ≤ 1000000000 := by
  have h1 := okAt_reg (h k (Nat.le_refl _))
  have h2 := okAt_reg (h (k - 1) (by omega))
  rw [show ((k - 1 : Nat) : Int) = (k : Int) - 1 by omega] at h2
  unfold dI
  split <;> omega
/-- The loop's own variables. -/
def EnBox (l : List S44) (a1 a2 : Int) (B3 B4 : Nat) (pre : List (Nat × S44)) (W : World) : Prop :=
  Boxed W B3 3 (.int .i64 (pre.length : Int)) ∧ Boxed W B4 3 (.int .i64 (enS l a1 a2 pre)) ∧ -1000000000 * (pre.length : Int) ≤ enS l a1 a2 pre ∧ enS l a1 a2 pre ≤ 1000000000 * (pre.length : Int)
theorem enBox_own (l : List S44) (a1 a2 : Int) (B3 B4 : Nat) (pre : List (Nat × S44)) (W W' : World) (row : Option Nat) (h : EnBox l a1 a2 B3 B4 pre W) (hg : W.grownBy W' row) (hr : ∀ r, row = some r → ∃ o : Obj, W.heap[r]? = some o ∧ o.isCells = false) : EnBox l a1 a2 B3 B4 pre W' :=
  ⟨boxed_own B3 3 (fun (_ : Unit) => .int .i64 (pre.length : Int)) () W W' row h.1 hg hr, boxed_own B4 3 (fun (_ : Unit) => .int .i64 (enS l a1 a2 pre)) () W W' row h.2.1 hg hr, h.2.2⟩
/-- What the loop only reads. -/
def EnConst (A : Option Addr) (c n : Nat) (a1 a2 : Int) (B : Nat) (W : World) : Prop :=
  Boxed W B 26 (.slice A n c) ∧ Boxed W (B + 1) 3 (.int .i64 a1) ∧ Boxed W (B + 1 + 1) 3 (.int .i64 a2) ∧
    Boxed W (B + 1 + 1 + 1 + 1 + 1) 63 (.func (.func 41) #[] #[.pointer (some ⟨B, 0, none⟩), .pointer (some ⟨B + 1 + 1 + 1 + 1, 0, none⟩)]) ∧ Boxed W (B + 1 + 1 + 1 + 1 + 1 + 1) 26 (.slice A n c)
theorem enConst_own (A : Option Addr) (c n : Nat) (a1 a2 : Int) (B : Nat) (W W' : World) (row : Option Nat) (h : EnConst A c n a1 a2 B W) (hg : W.grownBy W' row) (hr : ∀ r, row = some r → ∃ o : Obj, W.heap[r]? = some o ∧ o.isCells = false) : EnConst A c n a1 a2 B W' :=
  ⟨boxed_own _ _ (fun (_ : Unit) => _) () W W' row h.1 hg hr, boxed_own _ _ (fun (_ : Unit) => _) () W W' row h.2.1 hg hr, boxed_own _ _ (fun (_ : Unit) => _) () W W' row h.2.2.1 hg hr, boxed_own _ _ (fun (_ : Unit) => _) () W W' row h.2.2.2.1 hg hr, boxed_own _ _ (fun (_ : Unit) => _) () W W' row h.2.2.2.2 hg hr⟩
set_option maxRecDepth 1000000 in
set_option maxHeartbeats 4000000 in
theorem chain_Energy.calls (A0 : Option Addr) (c0 : Nat) (l0 : List S44) (a1 a2 r0 r1 : Int) (w : World) (hr0 : Kd.C k44 w A0 l0.length l0) (hc0 : l0.length ≤ c0) (h : chain_Energy.f l0 a1 a2 = some (r0, r1)) :
    Calls Try.prog 24 #[.slice A0 l0.length c0, .int .i64 a1, .int .i64 a2] w fun e w' => e = .returned (.tuple #[.int .i64 r0, .int .i64 r1]) ∧ Below w.heap.size w w' := by
  have hlen : l0.length ≤ 9223372036854775807 := hr0.2.1
  have HR := Aside0.mk hr0
  have HF := Aside0.mk h
  clear hr0 h hc0
  refine (callsIn_wide (n := 9)).1 ?_
  refine callsIn_of_wp_marks Try.func24 rfl trivial ?_ rfl
  simp only [Try.ntmps24, List.size_toArray, List.length_cons, List.length_nil, Nat.reduceAdd, Nat.reduceSub, Array.replicate_succ, Array.replicate_zero, List.push_toArray, List.append_toArray, List.nil_append, List.cons_append]
  refine wpIn_wide.2 ?_
  go_wp2
  try go_step3
  go_wp2_with (go_at_call 42; refine (callsIn_wide.1 (ordered_in 0 _ _ _ _)).mono ?_; rintro e w' ⟨rfl, rfl⟩)
  have bL := ((((((Boxed.new w 26 (.slice A0 l0.length c0)).alloc (.cells #[.int .i64 a1] 3)).alloc (.cells #[.int .i64 a2] 3)).alloc (.cells #[.int .i64 0] 3)).alloc (.cells #[.int .i64 0] 3)).alloc (.cells #[.func (.func 41) #[] #[.pointer (some ⟨w.heap.size, 0, none⟩), .pointer (some ⟨w.heap.size + 1 + 1 + 1 + 1, 0, none⟩)]] 63)).alloc (.cells #[.slice A0 l0.length c0] 26)
  have bF := (((((Boxed.new (w.alloc (.cells #[.slice A0 l0.length c0] 26)) 3 (.int .i64 a1)).alloc (.cells #[.int .i64 a2] 3)).alloc (.cells #[.int .i64 0] 3)).alloc (.cells #[.int .i64 0] 3)).alloc (.cells #[.func (.func 41) #[] #[.pointer (some ⟨w.heap.size, 0, none⟩), .pointer (some ⟨w.heap.size + 1 + 1 + 1 + 1, 0, none⟩)]] 63)).alloc (.cells #[.slice A0 l0.length c0] 26)
  have bT := ((((Boxed.new ((w.alloc (.cells #[.slice A0 l0.length c0] 26)).alloc (.cells #[.int .i64 a1] 3)) 3 (.int .i64 a2)).alloc (.cells #[.int .i64 0] 3)).alloc (.cells #[.int .i64 0] 3)).alloc (.cells #[.func (.func 41) #[] #[.pointer (some ⟨w.heap.size, 0, none⟩), .pointer (some ⟨w.heap.size + 1 + 1 + 1 + 1, 0, none⟩)]] 63)).alloc (.cells #[.slice A0 l0.length c0] 26)
  have bR := (((Boxed.new (((w.alloc (.cells #[.slice A0 l0.length c0] 26)).alloc (.cells #[.int .i64 a1] 3)).alloc (.cells #[.int .i64 a2] 3)) 3 (.int .i64 0)).alloc (.cells #[.int .i64 0] 3)).alloc (.cells #[.func (.func 41) #[] #[.pointer (some ⟨w.heap.size, 0, none⟩), .pointer (some ⟨w.heap.size + 1 + 1 + 1 + 1, 0, none⟩)]] 63)).alloc (.cells #[.slice A0 l0.length c0] 26)
  have bS := ((Boxed.new ((((w.alloc (.cells #[.slice A0 l0.length c0] 26)).alloc (.cells #[.int .i64 a1] 3)).alloc (.cells #[.int .i64 a2] 3)).alloc (.cells #[.int .i64 0] 3)) 3 (.int .i64 0)).alloc (.cells #[.func (.func 41) #[] #[.pointer (some ⟨w.heap.size, 0, none⟩), .pointer (some ⟨w.heap.size + 1 + 1 + 1 + 1, 0, none⟩)]] 63)).alloc (.cells #[.slice A0 l0.length c0] 26)
  have bG := (Boxed.new (((((w.alloc (.cells #[.slice A0 l0.length c0] 26)).alloc (.cells #[.int .i64 a1] 3)).alloc (.cells #[.int .i64 a2] 3)).alloc (.cells #[.int .i64 0] 3)).alloc (.cells #[.int .i64 0] 3)) 63 (.func (.func 41) #[] #[.pointer (some ⟨w.heap.size, 0, none⟩), .pointer (some ⟨w.heap.size + 1 + 1 + 1 + 1, 0, none⟩)])).alloc (.cells #[.slice A0 l0.length c0] 26)
  have bI := Boxed.new ((((((w.alloc (.cells #[.slice A0 l0.length c0] 26)).alloc (.cells #[.int .i64 a1] 3)).alloc (.cells #[.int .i64 a2] 3)).alloc (.cells #[.int .i64 0] 3)).alloc (.cells #[.int .i64 0] 3)).alloc (.cells #[.func (.func 41) #[] #[.pointer (some ⟨w.heap.size, 0, none⟩), .pointer (some ⟨w.heap.size + 1 + 1 + 1 + 1, 0, none⟩)]] 63)) 26 (.slice A0 l0.length c0)
  simp only [World.size_alloc] at bF bT bR bS bG bI
  have hB0 : Below w.heap.size w (((((((w.alloc (.cells #[.slice A0 l0.length c0] 26)).alloc (.cells #[.int .i64 a1] 3)).alloc (.cells #[.int .i64 a2] 3)).alloc (.cells #[.int .i64 0] 3)).alloc (.cells #[.int .i64 0] 3)).alloc (.cells #[.func (.func 41) #[] #[.pointer (some ⟨w.heap.size, 0, none⟩), .pointer (some ⟨w.heap.size + 1 + 1 + 1 + 1, 0, none⟩)]] 63)).alloc (.cells #[.slice A0 l0.length c0] 26)) := (((((((Below.refl _ w).alloc (Nat.le_refl _) _).alloc (by simp) _).alloc (by simp; omega) _).alloc (by simp; omega) _).alloc (by simp; omega) _).alloc (by simp; omega) _).alloc (by simp; omega) _
  have hsz : (((((((w.alloc (.cells #[.slice A0 l0.length c0] 26)).alloc (.cells #[.int .i64 a1] 3)).alloc (.cells #[.int .i64 a2] 3)).alloc (.cells #[.int .i64 0] 3)).alloc (.cells #[.int .i64 0] 3)).alloc (.cells #[.func (.func 41) #[] #[.pointer (some ⟨w.heap.size, 0, none⟩), .pointer (some ⟨w.heap.size + 1 + 1 + 1 + 1, 0, none⟩)]] 63)).alloc (.cells #[.slice A0 l0.length c0] 26)).heap.size = w.heap.size + 7 := by simp
  obtain ⟨W0, hW0⟩ : ∃ W0, (((((((w.alloc (.cells #[.slice A0 l0.length c0] 26)).alloc (.cells #[.int .i64 a1] 3)).alloc (.cells #[.int .i64 a2] 3)).alloc (.cells #[.int .i64 0] 3)).alloc (.cells #[.int .i64 0] 3)).alloc (.cells #[.func (.func 41) #[] #[.pointer (some ⟨w.heap.size, 0, none⟩), .pointer (some ⟨w.heap.size + 1 + 1 + 1 + 1, 0, none⟩)]] 63)).alloc (.cells #[.slice A0 l0.length c0] 26)) = W0 := ⟨_, rfl⟩
  rw [hW0] at bL bF bT bR bS bG bI hB0 hsz ⊢
  clear hW0
  refine (wpIn_wide (n := 9)).1 ?_
  refine wpIn_rangeFunc_ownH rfl (by omega) (gf := 52) (lb := #[.pointer (some ⟨w.heap.size + 1 + 1 + 1 + 1 + 1 + 1, 0, none⟩)]) rfl trivial (enters_of Try.func52 (by kernel_rfl) rfl)
    (ordered_stops 8 (by omega) (w.heap.size + 1 + 1 + 1 + 1 + 1 + 1) A0 c0 l0 w W0 HR.out hB0 bI) KpR_t (KpR_b (by omega) (by omega)) (Below.refl _ _) (fun _ => rfl)
    (fun pre W => (EnBox l0 a1 a2 (w.heap.size + 1 + 1 + 1) (w.heap.size + 1 + 1 + 1 + 1) (pre.map (·.1)) W) ∧ Below w.heap.size w W ∧ EnConst A0 c0 l0.length a1 a2 w.heap.size W)
    (fun c pre W => False)
    (OwnFrom.and (@Own.from (List (OrdR l0)) (fun pre W => EnBox l0 a1 a2 (w.heap.size + 1 + 1 + 1) (w.heap.size + 1 + 1 + 1 + 1) (pre.map (·.1)) W) (fun s A B row hs hg hr => enBox_own l0 a1 a2 _ _ (s.map (·.1)) A B row hs hg hr) _) (OwnFrom.and (ownFrom_below (Nat.le_refl _) (by omega)) (@Own.from (List (OrdR l0)) (fun pre W => EnConst A0 c0 l0.length a1 a2 w.heap.size W) (fun s A B row hs hg hr => enConst_own A0 c0 l0.length a1 a2 _ A B row hs hg hr) _)))
    (fun _ _ _ _ _ hs _ _ => hs)
    ⟨⟨bR, bS, Int.le_refl _, Int.le_refl _⟩, hB0, ⟨bL, bF, bT, bG, bI⟩⟩
    (fun x a' W => a' = { tmps := #[.slice A0 l0.length c0, .int .i64 a1, .int .i64 a2, .pointer (some ⟨w.heap.size, 0, none⟩), .pointer (some ⟨w.heap.size + 1, 0, none⟩), .pointer (some ⟨w.heap.size + 1 + 1, 0, none⟩), .int .i64 0, .int .i64 0, .pointer (some ⟨w.heap.size + 1 + 1 + 1, 0, none⟩), .pointer (some ⟨w.heap.size + 1 + 1 + 1 + 1, 0, none⟩), .pointer (some ⟨w.heap.size + 1 + 1 + 1 + 1 + 1, 0, none⟩), .int .i64 (x.1.1 : Int), .func (.func 41) #[] #[.pointer (some ⟨w.heap.size, 0, none⟩), .pointer (some ⟨w.heap.size + 1 + 1 + 1 + 1, 0, none⟩)], .slice A0 l0.length c0,
        .func (.func 52) #[] #[.pointer (some ⟨w.heap.size + 1 + 1 + 1 + 1 + 1 + 1, 0, none⟩)], .int .i64 (x.1.1 : Int), .agg #[.int .i64 x.1.2.f0, .int .i64 x.1.2.f1, .int .i64 x.1.2.f2, .int .i64 x.1.2.f3, .int .u64 x.1.2.f4], undef, undef, undef, undef, undef, undef, undef, undef, undef, undef, undef, undef, undef, undef, undef, undef, undef, undef, undef, undef, undef, undef, undef, undef, undef, undef, undef, undef, undef, undef, undef, undef, undef, undef, undef, undef, undef], defers := [] })
    (fun _ _ _ _ _ _ hs _ _ => hs)
    ?assign ?body ?done ?stop
  case assign =>
    rintro l pre x W K hi hK
    dsimp only [encR]
    gi_wp2
    exact hK _ _ (KeepsFrom.refl _ _) ⟨Below.refl _ _, rfl⟩ hi rfl
  case body =>
    have HSZ := Aside0.mk hsz
    clear hsz
    rintro l pre x a' W hl ⟨lr, hlr⟩ ⟨⟨bR1, bS1, s0, s1⟩, hB1, ⟨bL1, bF1, bT1, bG1, bI1⟩⟩ rfl hlt
    have cR := bR1.cell
    have fR := bR1.frozen
    have cF := bF1.cell
    have cT := bT1.cell
    have cG := bG1.cell
    have hfn : ∀ f, Fence.wide.fn f := fun _ => trivial
    rw [List.length_map] at cR s0 s1 bR1
    have hpl : pre.length < 64 := by omega
    have bS2 : Boxed (W.setCell ⟨w.heap.size + 1 + 1 + 1, 0, none⟩ (.int .i64 ((pre.length : Int) + 1))) (w.heap.size + 1 + 1 + 1 + 1) 3 (.int .i64 (enS l0 a1 a2 (pre.map (·.1)))) := bS1.other (by omega) _
    have bL2 : Boxed (W.setCell ⟨w.heap.size + 1 + 1 + 1, 0, none⟩ (.int .i64 ((pre.length : Int) + 1))) w.heap.size 26 (.slice A0 l0.length c0) := bL1.other (by omega) _
    have bF2 : Boxed (W.setCell ⟨w.heap.size + 1 + 1 + 1, 0, none⟩ (.int .i64 ((pre.length : Int) + 1))) (w.heap.size + 1) 3 (.int .i64 a1) := bF1.other (by omega) _
    have bT2 : Boxed (W.setCell ⟨w.heap.size + 1 + 1 + 1, 0, none⟩ (.int .i64 ((pre.length : Int) + 1))) (w.heap.size + 1 + 1) 3 (.int .i64 a2) := bT1.other (by omega) _
    have bG2 := bG1.other (B' := w.heap.size + 1 + 1 + 1) (by omega) (.int .i64 ((pre.length : Int) + 1))
    have bI2 := bI1.other (B' := w.heap.size + 1 + 1 + 1) (by omega) (.int .i64 ((pre.length : Int) + 1))
    have bR2 : Boxed (W.setCell ⟨w.heap.size + 1 + 1 + 1, 0, none⟩ (.int .i64 ((pre.length : Int) + 1))) (w.heap.size + 1 + 1 + 1) 3 (.int .i64 ((pre.length : Int) + 1)) := bR1.set _
    have HB2 := Aside0.mk (show Below w.heap.size w (W.setCell ⟨w.heap.size + 1 + 1 + 1, 0, none⟩ (.int .i64 ((pre.length : Int) + 1))) from hB1.setCell (p := ⟨w.heap.size + 1 + 1 + 1, 0, none⟩) (by simp; omega) _)
    have HN := Aside0.mk (enS_snoc l0 a1 a2 (pre.map (·.1)) x.1)
    have FIN : ∀ (W2 : World) (s' : Int), s' = enS l0 a1 a2 (pre.map (·.1) ++ [x.1]) → -1000000000 * ((pre.length : Int) + 1) ≤ s' → s' ≤ 1000000000 * ((pre.length : Int) + 1) → Boxed W2 (w.heap.size + 1 + 1 + 1 + 1) 3 (.int .i64 s') →
        (∀ k, k ≠ w.heap.size + 1 + 1 + 1 + 1 → W2.heap[k]? = (W.setCell ⟨w.heap.size + 1 + 1 + 1, 0, none⟩ (.int .i64 ((pre.length : Int) + 1))).heap[k]?) → W2.heap.size = (W.setCell ⟨w.heap.size + 1 + 1 + 1, 0, none⟩ (.int .i64 ((pre.length : Int) + 1))).heap.size → W2.os = (W.setCell ⟨w.heap.size + 1 + 1 + 1, 0, none⟩ (.int .i64 ((pre.length : Int) + 1))).os → W2.tape = (W.setCell ⟨w.heap.size + 1 + 1 + 1, 0, none⟩ (.int .i64 ((pre.length : Int) + 1))).tape → W2.output = (W.setCell ⟨w.heap.size + 1 + 1 + 1, 0, none⟩ (.int .i64 ((pre.length : Int) + 1))).output →
        KeepsFrom W0.heap.size W W2 ∧ KpR w.heap.size (w.heap.size + 1 + 1 + 1 + 1 + 1 + 1) W W2 ∧ EnBox l0 a1 a2 (w.heap.size + 1 + 1 + 1) (w.heap.size + 1 + 1 + 1 + 1) ((pre ++ [x]).map (·.1)) W2 ∧ Below w.heap.size w W2 ∧ EnConst A0 c0 l0.length a1 a2 w.heap.size W2 := by
      intro W2 s' hs' hb0 hb1 hB hO hz h1 h2 h3
      have hBel : Below w.heap.size (W.setCell ⟨w.heap.size + 1 + 1 + 1, 0, none⟩ (.int .i64 ((pre.length : Int) + 1))) W2 := ⟨h1, h2, h3, by omega, fun k hk => hO k (by omega)⟩
      have hKF : KeepsFrom W0.heap.size (W.setCell ⟨w.heap.size + 1 + 1 + 1, 0, none⟩ (.int .i64 ((pre.length : Int) + 1))) W2 := ⟨by omega, fun k o _ hk ho => by
        by_cases e : k = w.heap.size + 1 + 1 + 1 + 1
        · subst e; rw [bS2] at hk; cases hk; cases ho
        · rw [hO k e]; exact hk⟩
      refine ⟨((KeepsOthers.setCell _ _ _).from _).trans hKF, ⟨((Below.refl _ W).setCell (p := ⟨w.heap.size + 1 + 1 + 1, 0, none⟩) (by simp; omega) _).trans hBel, ?_⟩, ⟨?_, ?_, ?_, ?_⟩, HB2.out.trans hBel, ⟨?_, ?_, ?_, ?_, ?_⟩⟩
      · exact ((hO _ (by omega)).trans bI2).trans bI1.symm
      · rw [List.length_map, List.length_append]; exact (hO _ (by omega)).trans bR2
      · rw [List.map_append, List.map_singleton, ← hs']; exact hB
      · rw [List.map_append, List.map_singleton, ← hs', List.length_append, List.length_map]; simpa using hb0
      · rw [List.map_append, List.map_singleton, ← hs', List.length_append, List.length_map]; simpa using hb1
      · exact (hO _ (by omega)).trans bL2
      · exact (hO _ (by omega)).trans bF2
      · exact (hO _ (by omega)).trans bT2
      · exact (hO _ (by omega)).trans bG2
      · exact (hO _ (by omega)).trans bI2
    have SKIP : enS l0 a1 a2 (pre.map (·.1) ++ [x.1]) = enS l0 a1 a2 (pre.map (·.1)) → KeepsFrom W0.heap.size W (W.setCell ⟨w.heap.size + 1 + 1 + 1, 0, none⟩ (.int .i64 ((pre.length : Int) + 1))) ∧ KpR w.heap.size (w.heap.size + 1 + 1 + 1 + 1 + 1 + 1) W (W.setCell ⟨w.heap.size + 1 + 1 + 1, 0, none⟩ (.int .i64 ((pre.length : Int) + 1))) ∧ EnBox l0 a1 a2 (w.heap.size + 1 + 1 + 1) (w.heap.size + 1 + 1 + 1 + 1) ((pre ++ [x]).map (·.1)) (W.setCell ⟨w.heap.size + 1 + 1 + 1, 0, none⟩ (.int .i64 ((pre.length : Int) + 1))) ∧ Below w.heap.size w (W.setCell ⟨w.heap.size + 1 + 1 + 1, 0, none⟩ (.int .i64 ((pre.length : Int) + 1))) ∧ EnConst A0 c0 l0.length a1 a2 w.heap.size (W.setCell ⟨w.heap.size + 1 + 1 + 1, 0, none⟩ (.int .i64 ((pre.length : Int) + 1))) :=
      fun h => FIN _ _ h.symm (by omega) (by omega) bS2 (fun _ _ => rfl) rfl rfl rfl rfl
    have HFIN := Aside0.mk FIN
    have HSKIP := Aside0.mk SKIP
    clear FIN SKIP
    have cF2 := bF2.cell
    have cT2 := bT2.cell
    have cG2 := bG2.cell
    by_cases e1 : 0 < x.1.1
    rotate_left
    · have HE := Aside0.mk (HSKIP.out (by rw [HN.out, if_neg (fun h => e1 h.1), Int.add_zero]))
      have d1 : decide (0 < (x.1.1 : Int)) = false := decide_eq_false (by omega)
      have d2 : decide (0 < x.1.1) = false := decide_eq_false e1
      clear e1
      gi_wp2
      exact HE.out
    have d1 : decide (0 < (x.1.1 : Int)) = true := decide_eq_true (by omega)
    have d2 : decide (0 < x.1.1) = true := decide_eq_true e1
    by_cases e2 : a1 ≤ (x.1.1 : Int)
    rotate_left
    · have HE := Aside0.mk (HSKIP.out (by rw [HN.out, if_neg (fun h => e2 h.2.1), Int.add_zero]))
      have d3 : decide (a1 ≤ (x.1.1 : Int)) = false := decide_eq_false e2
      clear e1 e2
      gi_wp2
      exact HE.out
    have d3 : decide (a1 ≤ (x.1.1 : Int)) = true := decide_eq_true e2
    by_cases e3 : (x.1.1 : Int) < a2
    rotate_left
    · have HE := Aside0.mk (HSKIP.out (by rw [HN.out, if_neg (fun h => e3 h.2.2), Int.add_zero]))
      have d4 : decide ((x.1.1 : Int) < a2) = false := decide_eq_false e3
      clear e1 e2 e3
      gi_wp2
      exact HE.out
    have d4 : decide ((x.1.1 : Int) < a2) = true := decide_eq_true e3
    rw [if_pos ⟨e1, e2, e3⟩] at HN
    have HD := Aside0.mk (dI_range e1 x.2.2.1)
    have HRA := Aside0.mk (And.intro (okAt_reg (x.2.2.1 x.1.1 (Nat.le_refl _))).1 (And.intro (okAt_reg (x.2.2.1 x.1.1 (Nat.le_refl _))).2 (by have := okAt_reg (x.2.2.1 (x.1.1 - 1) (by omega)); rw [show ((x.1.1 - 1 : Nat) : Int) = (x.1.1 : Int) - 1 by omega] at this; exact this)))
    clear e2 e3
    gi_wp2_with (gi_at_call 41; refine (CallsIn.inRound l (callsIn_wide.2 (add_calls w.heap.size (w.heap.size + 1 + 1 + 1 + 1) A0 c0 l0 x.1.1 (enS l0 a1 a2 (pre.map (·.1))) w _ HR.out HB2.out e1 x.2.1 bL2.cell bS2 (by omega) (by omega) HRA.out.1 HRA.out.2.1 HRA.out.2.2.1 HRA.out.2.2.2))).mono ?_; rintro e W2 ⟨rfl, q1, q2, q3, q4, q5, q6⟩; have HQ := Aside0.mk (And.intro q1 (And.intro q2 (And.intro q3 (And.intro q4 (And.intro q5 q6))))); clear q1 q2 q3 q4 q5 q6)
    exact HFIN.out W2 _ HN.out.symm (by have := HD.out.1; omega) (by have := HD.out.2; omega) HQ.out.1 HQ.out.2.1 HQ.out.2.2.1 HQ.out.2.2.2.1 HQ.out.2.2.2.2.1 HQ.out.2.2.2.2.2
  case done =>
    rintro D ys W hD ⟨m, hm, ho, hno, ey⟩ ⟨⟨bR1, bS1, s0, s1⟩, hB1, ⟨bL1, bF1, bT1, bG1, bI1⟩⟩ hK
    rw [ey] at bR1 bS1
    rw [uptoR_length] at bR1
    rw [enS_upto] at bS1
    clear s0 s1 ey
    have hord : firstBad (okAt l0) 0 l0.length = m := firstBad_eq (okAt l0) l0.length 0 m (Nat.zero_le _) (by omega) (fun j _ hj => ho j hj) (fun h => hno (by omega))
    have hf := HF.out
    unfold chain_Energy.f ordAll at hf
    rw [hord] at hf
    have cR := bR1.cell
    have cS := bS1.cell
    have cL := bL1.cell
    have cF := bF1.cell
    have cT := bT1.cell
    clear hord ho hno HF
    by_cases g1 : m = l0.length
    rotate_left
    · rw [if_neg (fun h => g1 (of_decide_eq_true h.1))] at hf
      have d1 : decide ((m : Int) < (l0.length : Int)) = true := decide_eq_true (by omega)
      have d1n : decide (m < l0.length) = true := decide_eq_true (by omega)
      clear g1
      have HE := Aside0.mk (show (0 : Int) = r0 ∧ (1 : Int) = r1 by simpa using hf)
      clear hf
      go_wp2
      refine ⟨by simp, .inl ⟨_, _, rfl, run_takeDeferred hK, ?_⟩⟩
      exact ⟨_, results_tmp2 rfl _ _ _, by rw [← HE.out.1, ← HE.out.2]; rfl, hB1.trans (belowK_b (w := w) (Nat.le_refl _) W D _ _ (by omega) hK rfl rfl)⟩
    subst g1
    have d1 : decide ((l0.length : Int) < (l0.length : Int)) = false := decide_eq_false (by omega)
    have d1n : decide (l0.length < l0.length) = false := decide_eq_false (by omega)
    by_cases g2 : 1 ≤ a1
    rotate_left
    · rw [if_neg (fun h => g2 h.2.1)] at hf
      have HE := Aside0.mk (show (0 : Int) = r0 ∧ (1 : Int) = r1 by simpa using hf)
      have d2 : decide (a1 < 1) = true := decide_eq_true (by omega)
      have d2b : decide (a1 ≤ 0) = true := decide_eq_true (by omega)
      clear hf g2
      go_wp2
      refine ⟨by simp, .inl ⟨_, _, rfl, run_takeDeferred hK, ?_⟩⟩
      exact ⟨_, results_tmp2 rfl _ _ _, by rw [← HE.out.1, ← HE.out.2]; rfl, hB1.trans (belowK_b (w := w) (Nat.le_refl _) W D _ _ (by omega) hK rfl rfl)⟩
    have d2 : decide (a1 < 1) = false := decide_eq_false (by omega)
    have d2b : decide (a1 ≤ 0) = false := decide_eq_false (by omega)
    by_cases g3 : a1 ≤ a2
    rotate_left
    · rw [if_neg (fun h => g3 h.2.2.1)] at hf
      have HE := Aside0.mk (show (0 : Int) = r0 ∧ (1 : Int) = r1 by simpa using hf)
      have d3 : decide (a2 < a1) = true := decide_eq_true (by omega)
      clear hf g2 g3
      go_wp2
      refine ⟨by simp, .inl ⟨_, _, rfl, run_takeDeferred hK, ?_⟩⟩
      exact ⟨_, results_tmp2 rfl _ _ _, by rw [← HE.out.1, ← HE.out.2]; rfl, hB1.trans (belowK_b (w := w) (Nat.le_refl _) W D _ _ (by omega) hK rfl rfl)⟩
    have d3 : decide (a2 < a1) = false := decide_eq_false (by omega)
    by_cases g4 : a2 ≤ (l0.length : Int)
    rotate_left
    · rw [if_neg (fun h => g4 h.2.2.2)] at hf
      have HE := Aside0.mk (show (0 : Int) = r0 ∧ (1 : Int) = r1 by simpa using hf)
      have d4 : decide ((l0.length : Int) < a2) = true := decide_eq_true (by omega)
      clear hf g2 g3 g4
      go_wp2
      refine ⟨by simp, .inl ⟨_, _, rfl, run_takeDeferred hK, ?_⟩⟩
      exact ⟨_, results_tmp2 rfl _ _ _, by rw [← HE.out.1, ← HE.out.2]; rfl, hB1.trans (belowK_b (w := w) (Nat.le_refl _) W D _ _ (by omega) hK rfl rfl)⟩
    have d4 : decide ((l0.length : Int) < a2) = false := decide_eq_false (by omega)
    rw [if_pos ⟨decide_eq_true rfl, g2, g3, g4⟩] at hf
    have HE := Aside0.mk (show enI l0 a1 a2 l0.length = r0 ∧ (0 : Int) = r1 by simpa using hf)
    clear hf g2 g3 g4
    go_wp2
    refine ⟨by simp, .inl ⟨_, _, rfl, run_takeDeferred hK, ?_⟩⟩
    exact ⟨_, results_tmp2 rfl _ _ _, by rw [← HE.out.1, ← HE.out.2]; rfl, hB1.trans (belowK_b (w := w) (Nat.le_refl _) W D _ _ (by omega) hK rfl rfl)⟩
  case stop =>
    rintro D c pre W _ _ h _
    exact h.elim
end Go.Proofs.Ytenkffjlpdappaa.Pr
