/- Package chain over this program: Check. -/
import Derived.Test.YtenkffjlpdappaaHChainO
import Derived.RangeFuncWrites
import Derived.WalkMore
namespace Go.Proofs.Ytenkffjlpdappaa.Pr
open Go.RowKit Go.Shelf Go.Proofs.YtenkffjlpdappaaW.PrintWords Go.Proofs.YtenkffjlpdappaaW.PrintLast Go.Proofs.YtenkffjlpdappaaW.PrintMore
set_option linter.unusedVariables false
set_option linter.unusedSimpArgs false
attribute [local go_sem] Oper.semAt_some

/-! ### what is computed -/
/-- The first of n numbers from k on at which p says no; or the one behind them. -/
def firstBad (p : Nat → Bool) : Nat → Nat → Nat
  | k, 0 => k
  | k, n + 1 => if p k then firstBad p (k + 1) n else k
theorem firstBad_eq (p : Nat → Bool) : ∀ (n k m : Nat), k ≤ m → m ≤ k + n → (∀ j, k ≤ j → j < m → p j = true) → (m < k + n → p m = false) → firstBad p k n = m
  | 0, k, m, h0, h1, _, _ => by unfold firstBad; omega
  | n + 1, k, m, h0, h1, h2, h3 => by
    unfold firstBad
    by_cases e : k = m
    · subst e; rw [h3 (by omega)]; rfl
    · rw [h2 k (Nat.le_refl _) (by omega), if_pos rfl]
      exact firstBad_eq p n (k + 1) m (by omega) (by omega) (fun j a b => h2 j (by omega) b) (fun h => h3 (by omega))
theorem firstBad_spec (p : Nat → Bool) : ∀ (n k : Nat), k ≤ firstBad p k n ∧ firstBad p k n ≤ k + n ∧ (∀ j, k ≤ j → j < firstBad p k n → p j = true) ∧ (firstBad p k n < k + n → p (firstBad p k n) = false)
  | 0, k => ⟨Nat.le_refl _, Nat.le_refl _, fun j a b => by unfold firstBad at b; omega, fun h => by unfold firstBad at h; omega⟩
  | n + 1, k => by
    have ih := firstBad_spec p n (k + 1)
    unfold firstBad
    by_cases e : p k = true
    · rw [if_pos e]
      exact ⟨by omega, by omega, fun j a b => by by_cases h : j = k; exact h ▸ e; exact ih.2.2.1 j (by omega) b, fun h => ih.2.2.2 (by omega)⟩
    · rw [if_neg e]
      exact ⟨Nat.le_refl _, by omega, fun j a b => by omega, fun h => Bool.eq_false_iff.2 e⟩
/-- The state ahead of a reading. -/
def stF (s : Int) (l : List S44) (k : Nat) : Int := if k = 0 then s else (rd_T44 l ((k : Int) - 1)).f4
def linkOkAt (s : Int) (l : List S44) (k : Nat) : Bool :=
  decide ((rd_T44 l k).f4 = linkF [(rd_T44 l k).f0, (rd_T44 l k).f1, (rd_T44 l k).f2, (rd_T44 l k).f3] (stF s l k) 32)
def chkI (s : Int) (l : List S44) : Int := if firstBad (fun k => okAt l k && linkOkAt s l k) 0 l.length = l.length then -1 else (firstBad (fun k => okAt l k && linkOkAt s l k) 0 l.length : Int)
def chain_Check.f (a0 : Int) (l1 : List S44) : Option Int := some (chkI a0 l1)
/-- What the loop knows of what has come: are the links right? And the state behind. -/
def chkS (s : Int) (pre : List (Nat × S44)) : Bool × Int :=
  pre.foldl (fun b x => (b.1 && decide (x.2.f4 = linkF [x.2.f0, x.2.f1, x.2.f2, x.2.f3] b.2 32), x.2.f4)) (true, s)
theorem chkS_snoc (s : Int) (pre : List (Nat × S44)) (x : Nat × S44) : chkS s (pre ++ [x]) = ((chkS s pre).1 && decide (x.2.f4 = linkF [x.2.f0, x.2.f1, x.2.f2, x.2.f3] (chkS s pre).2 32), x.2.f4) := by unfold chkS; rw [List.foldl_append]; rfl
theorem chkS_upto (s : Int) (l : List S44) : ∀ m : Nat, (chkS s (uptoR (rdN l) m)).2 = stF s l m ∧ ((chkS s (uptoR (rdN l) m)).1 = true ↔ ∀ j, j < m → linkOkAt s l j = true)
  | 0 => ⟨rfl, ⟨fun _ j hj => absurd hj (Nat.not_lt_zero _), fun _ => rfl⟩⟩
  | m + 1 => by
    have ih := chkS_upto s l m
    rw [uptoR_succ, chkS_snoc, ih.1]
    refine ⟨?_, ?_⟩
    · show (rd_T44 l m).f4 = stF s l (m + 1)
      unfold stF; rw [if_neg (Nat.succ_ne_zero m), show (((m + 1 : Nat) : Int) - 1) = (m : Int) by omega]
    · show ((chkS s (uptoR (rdN l) m)).1 && linkOkAt s l m) = true ↔ _
      rw [Bool.and_eq_true, ih.2]
      exact ⟨fun h j hj => (Nat.lt_succ_iff_lt_or_eq.1 hj).elim (h.1 j) (fun e => e ▸ h.2), fun h => ⟨fun j hj => h j (by omega), h m (Nat.lt_succ_self _)⟩⟩
theorem stop_eq {s : Int} {l : List S44} {m : Nat} (hm : m ≤ l.length) (h1 : ∀ j, j < m → okAt l j = true) (h2 : ∀ j, j < m → linkOkAt s l j = true) (h3 : m < l.length → (okAt l m && linkOkAt s l m) = false) :
    chkI s l = if m = l.length then -1 else (m : Int) := by
  unfold chkI
  rw [firstBad_eq _ l.length 0 m (Nat.zero_le _) (by omega) (fun j _ hj => by simp only [h1 j hj, h2 j hj, Bool.and_self]) (fun h => h3 (by omega))]

/-! ### the iterator's value -/
set_option maxHeartbeats 1000000 in
theorem ordered_in (n : Nat) (a : Option Addr) (len cap : Nat) (w : World) :
    CallsIn Fence.wide n Try.prog 42 #[.slice a len cap] w fun e w' => e = .returned (.func (.func 52) #[] #[.pointer (some ⟨w.heap.size, 0, none⟩)]) ∧ w' = w.alloc (.cells #[.slice a len cap] 26) := by
  refine callsIn_of_wp Try.func42 rfl trivial ?_ rfl
  simp only [Try.ntmps42, List.size_toArray, List.length_cons, List.length_nil, Nat.reduceAdd, Nat.reduceSub, Array.replicate_succ, Array.replicate_zero, List.push_toArray, List.append_toArray, List.nil_append, List.cons_append]
  gi_wp2
  go_ret
  exact ⟨rfl, rfl⟩
theorem KpR_t {n₀ Bs : Nat} {A B C : World} (h : KpR n₀ Bs A B) (k : KpR n₀ Bs B C) : KpR n₀ Bs A C := ⟨h.1.trans k.1, k.2.trans h.2⟩
theorem KpR_b {n₀ Bs : Nat} {w : World} (hn : n₀ ≤ w.heap.size) (hb : Bs < w.heap.size) (W : World) (l : Nat) (o o' : Obj) (hl : w.heap.size ≤ l) (h : W.heap[l]? = some o) (h1 : o.isCells = false) (h2 : o.isWalk = false) : KpR n₀ Bs W (W.putObj l o') :=
  ⟨belowK_b hn W l o o' hl h h1 h2, World.putObj_heap_other (by omega)⟩
/-- A reading that is in order, with its index. -/
abbrev OrdR (l : List S44) := { p : Nat × S44 // p.1 < l.length ∧ (∀ j, j ≤ p.1 → okAt l j = true) ∧ p = rdN l p.1 }
theorem ordered_stops (n : Nat) (hn : 1 ≤ n) (Bs : Nat) (A : Option Addr) (c : Nat) (xs : List S44) (w0 w : World) (hr : Kd.C k44 w0 A xs.length xs) (h0 : Below w0.heap.size w0 w) (hb : w.heap[Bs]? = some (.cells #[.slice A xs.length c] 26 (0, 0))) :
    SeqStopsK Fence.wide n Try.prog 52 #[.pointer (some ⟨Bs, 0, none⟩)] (fun x : OrdR xs => encR x.1) (KpR w0.heap.size Bs) (fun ys => ∃ m, m ≤ xs.length ∧ (∀ j, j < m → okAt xs j = true) ∧ (m < xs.length → okAt xs m = false) ∧ ys.map (·.1) = uptoR (rdN xs) m)
      (fun pre => ∃ m, m < xs.length ∧ (∀ j, j < m + 1 → okAt xs j = true) ∧ pre.map (·.1) = uptoR (rdN xs) (m + 1)) (min xs.length 64) w := fun l J Jx W hW hJ hJx hY hj => by
  have hlt : Bs < w.heap.size := (Array.getElem?_eq_some_iff.1 hb).1
  have up : ∀ (k : Nat) (K : List (OrdR xs) → World → Prop), AbidesFrom W.heap.size K → AbidesFrom W.heap.size (fun (k : Nat) W => ∃ pre : List (OrdR xs), pre.map (·.1) = uptoR (rdN xs) k ∧ K pre W) := fun k K hK s A B row hs hg hr => by
    obtain ⟨pre, e, h⟩ := hs; exact ⟨pre, e, hK pre A B row h hg hr⟩
  refine (ordered1_in n hn l Bs A c xs w0 hr (fun k W => ∃ pre : List (OrdR xs), pre.map (·.1) = uptoR (rdN xs) k ∧ J pre W) (fun k W => ∃ pre : List (OrdR xs), pre.map (·.1) = uptoR (rdN xs) k ∧ Jx pre W) W (up 0 J hJ) (h0.trans (hW.mono h0.size)) ?_ ((hW.block Bs hlt).trans hb) ⟨[], rfl, hj⟩).mono ?_
  · rintro k W1 hk hok ⟨pre, e, hp⟩
    have hl : pre.length = k := by have := congrArg List.length e; simpa [uptoR_length] using this
    have h64 : k < 64 := by have hq := hok k (Nat.le_refl _); unfold okAt at hq; rw [Bool.and_eq_true] at hq; exact of_decide_eq_true hq.1
    refine (hY pre ⟨rdN xs k, hk, hok, rfl⟩ W1 hp (by rw [hl]; omega)).mono ?_
    rintro e' W' (⟨he, h1, h2⟩ | ⟨he, h1⟩)
    · exact .inl ⟨he, ⟨_, by rw [List.map_append, e, uptoR_succ]; rfl, h1⟩, h2⟩
    · exact .inr ⟨he, ⟨_, by rw [List.map_append, e, uptoR_succ]; rfl, h1⟩⟩
  · rintro e W' ⟨he, ⟨m, a, b, d, ys, ey, hj⟩ | ⟨m, a, b, ys, ey, hj⟩⟩
    · exact ⟨he, .inl ⟨ys, ⟨m, a, b, d, ey⟩, hj⟩⟩
    · exact ⟨he, .inr ⟨ys, ⟨m, a, b, ey⟩, hj⟩⟩
theorem cells_own {β : Type} (B : Nat) (cs : Array Value) (t : TypeId) : Own (fun (_ : β) W => W.heap[B]? = some (.cells cs t (0, 0))) := fun s A C row hs hg hr =>
  (hg.block B (Array.getElem?_eq_some_iff.1 hs).1 (fun e => by obtain ⟨o, ho, hc⟩ := hr B e.symm; rw [hs] at ho; cases ho; cases hc)).trans hs

/-- How the loop is left: at a link that is wrong. -/
def ChkBrk (s : Int) (B : Nat) (pre : List (Nat × S44)) (W : World) : Prop :=
  ∃ ini last, pre = ini ++ [last] ∧ (chkS s ini).1 = true ∧ (chkS s pre).1 = false ∧ Boxed W B 3 (.int .i64 (ini.length : Int))
set_option maxRecDepth 1000000 in
set_option maxHeartbeats 4000000 in
theorem chain_Check.calls (a0 : Int) (A1 : Option Addr) (c1 : Nat) (l1 : List S44) (r : Int) (w : World) (hr1 : Kd.C k44 w A1 l1.length l1) (hc1 : l1.length ≤ c1) (h : chain_Check.f a0 l1 = some r) :
    Calls Try.prog 35 #[.int .u64 a0, .slice A1 l1.length c1] w fun e w' => e = .returned (.int .i64 r) ∧ Below w.heap.size w w' := by
  obtain rfl := Option.some.inj h
  clear h hc1
  have hlen : l1.length ≤ 9223372036854775807 := hr1.2.1
  have HR := Aside0.mk hr1
  clear hr1
  refine (callsIn_wide (n := 9)).1 ?_
  refine callsIn_of_wp_marks Try.func35 rfl trivial ?_ rfl
  simp only [Try.ntmps35, List.size_toArray, List.length_cons, List.length_nil, Nat.reduceAdd, Nat.reduceSub, Array.replicate_succ, Array.replicate_zero, List.push_toArray, List.append_toArray, List.nil_append, List.cons_append]
  refine wpIn_wide.2 ?_
  go_wp2
  go_step3
  go_wp2
  try go_step3
  go_wp2_with (go_at_call 42; refine (callsIn_wide.1 (ordered_in 0 _ _ _ _)).mono ?_; rintro e w' ⟨rfl, rfl⟩)
  have bS := ((Boxed.new w 22 (.int .u64 a0)).alloc (.cells #[.int .i64 0] 3)).alloc (.cells #[.slice A1 l1.length c1] 26)
  have bR := (Boxed.new (w.alloc (.cells #[.int .u64 a0] 22)) 3 (.int .i64 0)).alloc (.cells #[.slice A1 l1.length c1] 26)
  have bI := Boxed.new ((w.alloc (.cells #[.int .u64 a0] 22)).alloc (.cells #[.int .i64 0] 3)) 26 (.slice A1 l1.length c1)
  simp only [World.size_alloc] at bR bI
  have hB0 : Below w.heap.size w (((w.alloc (.cells #[.int .u64 a0] 22)).alloc (.cells #[.int .i64 0] 3)).alloc (.cells #[.slice A1 l1.length c1] 26)) := (((Below.refl _ w).alloc (Nat.le_refl _) _).alloc (by simp) _).alloc (by simp; omega) _
  have hsz : (((w.alloc (.cells #[.int .u64 a0] 22)).alloc (.cells #[.int .i64 0] 3)).alloc (.cells #[.slice A1 l1.length c1] 26)).heap.size = w.heap.size + 3 := by simp
  obtain ⟨W0, hW0⟩ : ∃ W0, (((w.alloc (.cells #[.int .u64 a0] 22)).alloc (.cells #[.int .i64 0] 3)).alloc (.cells #[.slice A1 l1.length c1] 26)) = W0 := ⟨_, rfl⟩
  rw [hW0] at bS bR bI hB0 hsz ⊢
  clear hW0
  refine (wpIn_wide (n := 9)).1 ?_
  refine wpIn_rangeFunc_ownH rfl (by omega) (gf := 52) (lb := #[.pointer (some ⟨w.heap.size + 1 + 1, 0, none⟩)]) rfl trivial (enters_of Try.func52 (by kernel_rfl) rfl)
    (ordered_stops 8 (by omega) (w.heap.size + 1 + 1) A1 c1 l1 w W0 HR.out hB0 bI) KpR_t (KpR_b (by omega) (by omega)) (Below.refl _ _) (fun _ => rfl)
    (fun pre W => ((Boxed W w.heap.size 22 (.int .u64 (chkS a0 (pre.map (·.1))).2) ∧ Boxed W (w.heap.size + 1) 3 (.int .i64 (pre.length : Int))) ∧ (chkS a0 (pre.map (·.1))).1 = true) ∧ Below w.heap.size w W ∧ Boxed W (w.heap.size + 1 + 1) 26 (.slice A1 l1.length c1))
    (fun c pre W => (c = .exit 0 ∧ ChkBrk a0 (w.heap.size + 1) (pre.map (·.1)) W) ∧ Below w.heap.size w W)
    (OwnFrom.and (Own.from (fun s A B row hs hg hr => ⟨⟨boxed_own w.heap.size 22 (fun pre => .int .u64 (chkS a0 (pre.map (·.1))).2) s A B row hs.1.1 hg hr, boxed_own (w.heap.size + 1) 3 (fun pre => .int .i64 (pre.length : Int)) s A B row hs.1.2 hg hr⟩, hs.2⟩) _) (OwnFrom.and (ownFrom_below (Nat.le_refl _) (by omega)) (Own.from (boxed_own (w.heap.size + 1 + 1) 26 (fun (_ : List (OrdR l1)) => .slice A1 l1.length c1)) _)))
    (fun c => OwnFrom.and (Own.from (fun s A B row hs hg hr => by obtain ⟨hc, ini, last, e1, e2, e3, e4⟩ := hs; exact ⟨hc, ini, last, e1, e2, e3, boxed_own (w.heap.size + 1) 3 (fun (_ : Unit) => .int .i64 (ini.length : Int)) () A B row e4 hg hr⟩) _) (ownFrom_below (Nat.le_refl _) (by omega)))
    ⟨⟨⟨bS, bR⟩, rfl⟩, hB0, bI⟩
    (fun x a' W => ∃ Bx, w.heap.size + 1 + 1 < Bx ∧ W.heap[Bx]? = some (.cells #[.int .i64 x.1.2.f0, .int .i64 x.1.2.f1, .int .i64 x.1.2.f2, .int .i64 x.1.2.f3, .int .u64 x.1.2.f4] 44 (0, 0)) ∧
      a' = { tmps := #[.int .u64 a0, .slice A1 l1.length c1, .pointer (some ⟨w.heap.size, 0, none⟩), undef, .int .i64 0, .pointer (some ⟨w.heap.size + 1, 0, none⟩), undef, .pointer (some ⟨Bx, 0, none⟩), .slice A1 l1.length c1, .func (.func 52) #[] #[.pointer (some ⟨w.heap.size + 1 + 1, 0, none⟩)],
        .int .i64 (x.1.1 : Int), .agg #[.int .i64 x.1.2.f0, .int .i64 x.1.2.f1, .int .i64 x.1.2.f2, .int .i64 x.1.2.f3, .int .u64 x.1.2.f4], undef, undef, undef, undef, undef, undef, undef, undef, undef, undef, undef, undef, undef, undef, undef], defers := [] })
    (fun x a' _ X Y row hs hg hr => by obtain ⟨Bx, h1, h2, h3⟩ := hs; exact ⟨Bx, h1, cells_own (β := Unit) Bx _ _ () X Y row h2 hg (fun r e => (hr r e).2), h3⟩)
    ?assign ?body ?done ?stop
  case assign =>
    rintro l pre x W K ⟨⟨⟨bS1, bR1⟩, hp⟩, hB1, bI1⟩ hK
    dsimp only [encR]
    gi_wp2
    exact hK _ _ ((KeepsOthers.alloc _ _).from _) ⟨(Below.refl _ W).alloc hB1.size _, (bI1.alloc _).trans bI1.symm⟩ ⟨⟨⟨bS1.alloc _, bR1.alloc _⟩, hp⟩, hB1.alloc hB1.size _, bI1.alloc _⟩ ⟨W.heap.size, bI1.lt, heap_alloc_new W _, rfl⟩
  case body =>
    have HSZ := Aside0.mk hsz
    clear hsz
    rintro l pre x a' W hl ⟨lr, hlr⟩ ⟨⟨⟨bS1, bR1⟩, hp⟩, hB1, bI1⟩ ⟨Bx, hBx, bX, rfl⟩ hlt
    have hfn : ∀ f, Fence.wide.fn f := fun _ => trivial
    have cS := bS1.cell
    have cR := bR1.cell
    have fR := bR1.frozen
    have fS := bS1.frozen
    have x0 : W.cell? ⟨Bx, 0, none⟩ = some (.int .i64 x.1.2.f0) := (blk_cell bX 0).trans rfl
    have x1 : W.cell? ⟨Bx, 1, none⟩ = some (.int .i64 x.1.2.f1) := (blk_cell bX 1).trans rfl
    have x2 : W.cell? ⟨Bx, 2, none⟩ = some (.int .i64 x.1.2.f2) := (blk_cell bX 2).trans rfl
    have x3 : W.cell? ⟨Bx, 3, none⟩ = some (.int .i64 x.1.2.f3) := (blk_cell bX 3).trans rfl
    have x4 : W.cell? ⟨Bx, 4, none⟩ = some (.int .u64 x.1.2.f4) := (blk_cell bX 4).trans rfl
    have hu := Try.underlying44
    gi_wp2
    obtain ⟨y, hy⟩ : ∃ y, linkF [x.1.2.f0, x.1.2.f1, x.1.2.f2, x.1.2.f3] (chkS a0 (pre.map (·.1))).2 32 = y := ⟨_, rfl⟩
    have HL : Aside0 (chain_Link.f (chkS a0 (pre.map (·.1))).2 x.1.2.f0 x.1.2.f1 x.1.2.f2 x.1.2.f3 x.1.2.f4 = some y) := ⟨by rw [← hy]; rfl⟩
    have HS : Aside0 ((chkS a0 ((pre ++ [x]).map (·.1))).1 = decide (x.1.2.f4 = y) ∧ (chkS a0 ((pre ++ [x]).map (·.1))).2 = x.1.2.f4) := ⟨by rw [List.map_append, List.map_singleton, chkS_snoc, hp, hy]; exact ⟨rfl, rfl⟩⟩
    clear hy
    refine wpIn_mono (Q := fun e a' w2 => e = .normal ∧ a' = { tmps := #[.int .u64 a0, .slice A1 l1.length c1, .pointer (some ⟨w.heap.size, 0, none⟩), undef, .int .i64 0, .pointer (some ⟨w.heap.size + 1, 0, none⟩), undef, .pointer (some ⟨Bx, 0, none⟩), .slice A1 l1.length c1, .func (.func 52) #[] #[.pointer (some ⟨w.heap.size + 1 + 1, 0, none⟩)], .int .i64 (x.1.1 : Int), .agg #[.int .i64 x.1.2.f0, .int .i64 x.1.2.f1, .int .i64 x.1.2.f2, .int .i64 x.1.2.f3, .int .u64 x.1.2.f4], .pointer (some ⟨Bx, 4, none⟩), .int .u64 x.1.2.f4, .int .u64 (chkS a0 (pre.map (·.1))).2, .agg #[.int .i64 x.1.2.f0, .int .i64 x.1.2.f1, .int .i64 x.1.2.f2, .int .i64 x.1.2.f3, .int .u64 x.1.2.f4], .int .u64 y, .bool (x.1.2.f4 != y), undef, undef, undef, undef, undef, undef, undef, undef, undef], defers := [] } ∧ Aside0 (Below W.heap.size W.drew w2)) ?reg ?rest
    case reg =>
      refine wpIn_region_any (by kernel_rfl) ?_
      change wpAnyIn _ _ _ _ _ _ _ _ _ (World.drew _)
      refine wpAnyIn_ready (rs := [0, 2, 3]) (by kernel_rfl) (by simp) ?_
      refine (AllReadyIn.cons rfl (fun K hK => ?_) (AllReadyIn.cons rfl (fun K hK => ?_) (AllReadyIn.cons rfl (fun K hK => ?_) AllReadyIn.nil)))
      · go_simp
        refine hK _ _ ?_
        clear hK K
        refine wpAnyIn_ready (rs := [1, 2, 3]) (by kernel_rfl) (by simp) ?_
        refine (AllReadyIn.cons rfl (fun K hK => ?_) (AllReadyIn.cons rfl (fun K hK => ?_) (AllReadyIn.cons rfl (fun K hK => ?_) AllReadyIn.nil)))
        · go_simp
          refine hK _ _ ?_
          clear hK K
          refine wpAnyIn_ready (rs := [2, 3]) (by kernel_rfl) (by simp) ?_
          refine (AllReadyIn.cons rfl (fun K hK => ?_) (AllReadyIn.cons rfl (fun K hK => ?_) AllReadyIn.nil))
          · go_simp
            refine hK _ _ ?_
            clear hK K
            refine wpAnyIn_ready (rs := [3]) (by kernel_rfl) (by simp) ?_
            refine (AllReadyIn.cons rfl (fun K hK => ?_) AllReadyIn.nil)
            go_simp
            refine hK _ _ ?_
            clear hK K
            refine wpAnyIn_ready (rs := [4]) (by kernel_rfl) (by simp) ?_
            refine (AllReadyIn.cons rfl (fun K hK => ?_) AllReadyIn.nil)
            go_simp
            gi_wp2_with (gi_at_call 32; refine (CallsIn.inRound l (callsIn_wide.2 (chain_Link.calls _ _ _ _ _ _ y _ HL.out))).mono ?_; rintro e w2 ⟨rfl, hb2⟩; have v4 : w2.cell? ⟨Bx, 4, none⟩ = some (.int .u64 x.1.2.f4) := (hb2.cell (p := ⟨Bx, 4, none⟩) (blk_lt bX)).trans x4; have HB2 := Aside0.mk (hb2 : Below W.heap.size W.drew w2); clear hb2)
            refine wpAnyIn_ready (rs := [5]) (by kernel_rfl) (by simp) ?_
            refine (AllReadyIn.cons rfl (fun K hK => ?_) AllReadyIn.nil)
            go_simp
            refine hK _ _ ?_
            clear hK K
            refine wpAnyIn_done (by kernel_rfl) ?_ _
            exact ⟨rfl, rfl, HB2⟩
          · go_simp
            refine hK _ _ ?_
            clear hK K
            refine wpAnyIn_ready (rs := [2]) (by kernel_rfl) (by simp) ?_
            refine (AllReadyIn.cons rfl (fun K hK => ?_) AllReadyIn.nil)
            go_simp
            refine hK _ _ ?_
            clear hK K
            refine wpAnyIn_ready (rs := [4]) (by kernel_rfl) (by simp) ?_
            refine (AllReadyIn.cons rfl (fun K hK => ?_) AllReadyIn.nil)
            go_simp
            gi_wp2_with (gi_at_call 32; refine (CallsIn.inRound l (callsIn_wide.2 (chain_Link.calls _ _ _ _ _ _ y _ HL.out))).mono ?_; rintro e w2 ⟨rfl, hb2⟩; have v4 : w2.cell? ⟨Bx, 4, none⟩ = some (.int .u64 x.1.2.f4) := (hb2.cell (p := ⟨Bx, 4, none⟩) (blk_lt bX)).trans x4; have HB2 := Aside0.mk (hb2 : Below W.heap.size W.drew w2); clear hb2)
            refine wpAnyIn_ready (rs := [5]) (by kernel_rfl) (by simp) ?_
            refine (AllReadyIn.cons rfl (fun K hK => ?_) AllReadyIn.nil)
            go_simp
            refine hK _ _ ?_
            clear hK K
            refine wpAnyIn_done (by kernel_rfl) ?_ _
            exact ⟨rfl, rfl, HB2⟩
        · go_simp
          refine hK _ _ ?_
          clear hK K
          refine wpAnyIn_ready (rs := [1, 3]) (by kernel_rfl) (by simp) ?_
          refine (AllReadyIn.cons rfl (fun K hK => ?_) (AllReadyIn.cons rfl (fun K hK => ?_) AllReadyIn.nil))
          · go_simp
            refine hK _ _ ?_
            clear hK K
            refine wpAnyIn_ready (rs := [3]) (by kernel_rfl) (by simp) ?_
            refine (AllReadyIn.cons rfl (fun K hK => ?_) AllReadyIn.nil)
            go_simp
            refine hK _ _ ?_
            clear hK K
            refine wpAnyIn_ready (rs := [4]) (by kernel_rfl) (by simp) ?_
            refine (AllReadyIn.cons rfl (fun K hK => ?_) AllReadyIn.nil)
            go_simp
            gi_wp2_with (gi_at_call 32; refine (CallsIn.inRound l (callsIn_wide.2 (chain_Link.calls _ _ _ _ _ _ y _ HL.out))).mono ?_; rintro e w2 ⟨rfl, hb2⟩; have v4 : w2.cell? ⟨Bx, 4, none⟩ = some (.int .u64 x.1.2.f4) := (hb2.cell (p := ⟨Bx, 4, none⟩) (blk_lt bX)).trans x4; have HB2 := Aside0.mk (hb2 : Below W.heap.size W.drew w2); clear hb2)
            refine wpAnyIn_ready (rs := [5]) (by kernel_rfl) (by simp) ?_
            refine (AllReadyIn.cons rfl (fun K hK => ?_) AllReadyIn.nil)
            go_simp
            refine hK _ _ ?_
            clear hK K
            refine wpAnyIn_done (by kernel_rfl) ?_ _
            exact ⟨rfl, rfl, HB2⟩
          · go_simp
            refine hK _ _ ?_
            clear hK K
            refine wpAnyIn_ready (rs := [1, 4]) (by kernel_rfl) (by simp) ?_
            refine (AllReadyIn.cons rfl (fun K hK => ?_) (AllReadyIn.cons rfl (fun K hK => ?_) AllReadyIn.nil))
            · go_simp
              refine hK _ _ ?_
              clear hK K
              refine wpAnyIn_ready (rs := [4]) (by kernel_rfl) (by simp) ?_
              refine (AllReadyIn.cons rfl (fun K hK => ?_) AllReadyIn.nil)
              go_simp
              gi_wp2_with (gi_at_call 32; refine (CallsIn.inRound l (callsIn_wide.2 (chain_Link.calls _ _ _ _ _ _ y _ HL.out))).mono ?_; rintro e w2 ⟨rfl, hb2⟩; have v4 : w2.cell? ⟨Bx, 4, none⟩ = some (.int .u64 x.1.2.f4) := (hb2.cell (p := ⟨Bx, 4, none⟩) (blk_lt bX)).trans x4; have HB2 := Aside0.mk (hb2 : Below W.heap.size W.drew w2); clear hb2)
              refine wpAnyIn_ready (rs := [5]) (by kernel_rfl) (by simp) ?_
              refine (AllReadyIn.cons rfl (fun K hK => ?_) AllReadyIn.nil)
              go_simp
              refine hK _ _ ?_
              clear hK K
              refine wpAnyIn_done (by kernel_rfl) ?_ _
              exact ⟨rfl, rfl, HB2⟩
            · go_simp
              gi_wp2_with (gi_at_call 32; refine (CallsIn.inRound l (callsIn_wide.2 (chain_Link.calls _ _ _ _ _ _ y _ HL.out))).mono ?_; rintro e w2 ⟨rfl, hb2⟩; have v4 : w2.cell? ⟨Bx, 4, none⟩ = some (.int .u64 x.1.2.f4) := (hb2.cell (p := ⟨Bx, 4, none⟩) (blk_lt bX)).trans x4; have HB2 := Aside0.mk (hb2 : Below W.heap.size W.drew w2); clear hb2)
              refine wpAnyIn_ready (rs := [1]) (by kernel_rfl) (by simp) ?_
              refine (AllReadyIn.cons rfl (fun K hK => ?_) AllReadyIn.nil)
              go_simp
              refine hK _ _ ?_
              clear hK K
              refine wpAnyIn_ready (rs := [5]) (by kernel_rfl) (by simp) ?_
              refine (AllReadyIn.cons rfl (fun K hK => ?_) AllReadyIn.nil)
              go_simp
              refine hK _ _ ?_
              clear hK K
              refine wpAnyIn_done (by kernel_rfl) ?_ _
              exact ⟨rfl, rfl, HB2⟩
        · go_simp
          refine hK _ _ ?_
          clear hK K
          refine wpAnyIn_ready (rs := [1, 2]) (by kernel_rfl) (by simp) ?_
          refine (AllReadyIn.cons rfl (fun K hK => ?_) (AllReadyIn.cons rfl (fun K hK => ?_) AllReadyIn.nil))
          · go_simp
            refine hK _ _ ?_
            clear hK K
            refine wpAnyIn_ready (rs := [2]) (by kernel_rfl) (by simp) ?_
            refine (AllReadyIn.cons rfl (fun K hK => ?_) AllReadyIn.nil)
            go_simp
            refine hK _ _ ?_
            clear hK K
            refine wpAnyIn_ready (rs := [4]) (by kernel_rfl) (by simp) ?_
            refine (AllReadyIn.cons rfl (fun K hK => ?_) AllReadyIn.nil)
            go_simp
            gi_wp2_with (gi_at_call 32; refine (CallsIn.inRound l (callsIn_wide.2 (chain_Link.calls _ _ _ _ _ _ y _ HL.out))).mono ?_; rintro e w2 ⟨rfl, hb2⟩; have v4 : w2.cell? ⟨Bx, 4, none⟩ = some (.int .u64 x.1.2.f4) := (hb2.cell (p := ⟨Bx, 4, none⟩) (blk_lt bX)).trans x4; have HB2 := Aside0.mk (hb2 : Below W.heap.size W.drew w2); clear hb2)
            refine wpAnyIn_ready (rs := [5]) (by kernel_rfl) (by simp) ?_
            refine (AllReadyIn.cons rfl (fun K hK => ?_) AllReadyIn.nil)
            go_simp
            refine hK _ _ ?_
            clear hK K
            refine wpAnyIn_done (by kernel_rfl) ?_ _
            exact ⟨rfl, rfl, HB2⟩
          · go_simp
            refine hK _ _ ?_
            clear hK K
            refine wpAnyIn_ready (rs := [1, 4]) (by kernel_rfl) (by simp) ?_
            refine (AllReadyIn.cons rfl (fun K hK => ?_) (AllReadyIn.cons rfl (fun K hK => ?_) AllReadyIn.nil))
            · go_simp
              refine hK _ _ ?_
              clear hK K
              refine wpAnyIn_ready (rs := [4]) (by kernel_rfl) (by simp) ?_
              refine (AllReadyIn.cons rfl (fun K hK => ?_) AllReadyIn.nil)
              go_simp
              gi_wp2_with (gi_at_call 32; refine (CallsIn.inRound l (callsIn_wide.2 (chain_Link.calls _ _ _ _ _ _ y _ HL.out))).mono ?_; rintro e w2 ⟨rfl, hb2⟩; have v4 : w2.cell? ⟨Bx, 4, none⟩ = some (.int .u64 x.1.2.f4) := (hb2.cell (p := ⟨Bx, 4, none⟩) (blk_lt bX)).trans x4; have HB2 := Aside0.mk (hb2 : Below W.heap.size W.drew w2); clear hb2)
              refine wpAnyIn_ready (rs := [5]) (by kernel_rfl) (by simp) ?_
              refine (AllReadyIn.cons rfl (fun K hK => ?_) AllReadyIn.nil)
              go_simp
              refine hK _ _ ?_
              clear hK K
              refine wpAnyIn_done (by kernel_rfl) ?_ _
              exact ⟨rfl, rfl, HB2⟩
            · go_simp
              gi_wp2_with (gi_at_call 32; refine (CallsIn.inRound l (callsIn_wide.2 (chain_Link.calls _ _ _ _ _ _ y _ HL.out))).mono ?_; rintro e w2 ⟨rfl, hb2⟩; have v4 : w2.cell? ⟨Bx, 4, none⟩ = some (.int .u64 x.1.2.f4) := (hb2.cell (p := ⟨Bx, 4, none⟩) (blk_lt bX)).trans x4; have HB2 := Aside0.mk (hb2 : Below W.heap.size W.drew w2); clear hb2)
              refine wpAnyIn_ready (rs := [1]) (by kernel_rfl) (by simp) ?_
              refine (AllReadyIn.cons rfl (fun K hK => ?_) AllReadyIn.nil)
              go_simp
              refine hK _ _ ?_
              clear hK K
              refine wpAnyIn_ready (rs := [5]) (by kernel_rfl) (by simp) ?_
              refine (AllReadyIn.cons rfl (fun K hK => ?_) AllReadyIn.nil)
              go_simp
              refine hK _ _ ?_
              clear hK K
              refine wpAnyIn_done (by kernel_rfl) ?_ _
              exact ⟨rfl, rfl, HB2⟩
      · go_simp
        refine hK _ _ ?_
        clear hK K
        refine wpAnyIn_ready (rs := [0, 3]) (by kernel_rfl) (by simp) ?_
        refine (AllReadyIn.cons rfl (fun K hK => ?_) (AllReadyIn.cons rfl (fun K hK => ?_) AllReadyIn.nil))
        · go_simp
          refine hK _ _ ?_
          clear hK K
          refine wpAnyIn_ready (rs := [1, 3]) (by kernel_rfl) (by simp) ?_
          refine (AllReadyIn.cons rfl (fun K hK => ?_) (AllReadyIn.cons rfl (fun K hK => ?_) AllReadyIn.nil))
          · go_simp
            refine hK _ _ ?_
            clear hK K
            refine wpAnyIn_ready (rs := [3]) (by kernel_rfl) (by simp) ?_
            refine (AllReadyIn.cons rfl (fun K hK => ?_) AllReadyIn.nil)
            go_simp
            refine hK _ _ ?_
            clear hK K
            refine wpAnyIn_ready (rs := [4]) (by kernel_rfl) (by simp) ?_
            refine (AllReadyIn.cons rfl (fun K hK => ?_) AllReadyIn.nil)
            go_simp
            gi_wp2_with (gi_at_call 32; refine (CallsIn.inRound l (callsIn_wide.2 (chain_Link.calls _ _ _ _ _ _ y _ HL.out))).mono ?_; rintro e w2 ⟨rfl, hb2⟩; have v4 : w2.cell? ⟨Bx, 4, none⟩ = some (.int .u64 x.1.2.f4) := (hb2.cell (p := ⟨Bx, 4, none⟩) (blk_lt bX)).trans x4; have HB2 := Aside0.mk (hb2 : Below W.heap.size W.drew w2); clear hb2)
            refine wpAnyIn_ready (rs := [5]) (by kernel_rfl) (by simp) ?_
            refine (AllReadyIn.cons rfl (fun K hK => ?_) AllReadyIn.nil)
            go_simp
            refine hK _ _ ?_
            clear hK K
            refine wpAnyIn_done (by kernel_rfl) ?_ _
            exact ⟨rfl, rfl, HB2⟩
          · go_simp
            refine hK _ _ ?_
            clear hK K
            refine wpAnyIn_ready (rs := [1, 4]) (by kernel_rfl) (by simp) ?_
            refine (AllReadyIn.cons rfl (fun K hK => ?_) (AllReadyIn.cons rfl (fun K hK => ?_) AllReadyIn.nil))
            · go_simp
              refine hK _ _ ?_
              clear hK K
              refine wpAnyIn_ready (rs := [4]) (by kernel_rfl) (by simp) ?_
              refine (AllReadyIn.cons rfl (fun K hK => ?_) AllReadyIn.nil)
              go_simp
              gi_wp2_with (gi_at_call 32; refine (CallsIn.inRound l (callsIn_wide.2 (chain_Link.calls _ _ _ _ _ _ y _ HL.out))).mono ?_; rintro e w2 ⟨rfl, hb2⟩; have v4 : w2.cell? ⟨Bx, 4, none⟩ = some (.int .u64 x.1.2.f4) := (hb2.cell (p := ⟨Bx, 4, none⟩) (blk_lt bX)).trans x4; have HB2 := Aside0.mk (hb2 : Below W.heap.size W.drew w2); clear hb2)
              refine wpAnyIn_ready (rs := [5]) (by kernel_rfl) (by simp) ?_
              refine (AllReadyIn.cons rfl (fun K hK => ?_) AllReadyIn.nil)
              go_simp
              refine hK _ _ ?_
              clear hK K
              refine wpAnyIn_done (by kernel_rfl) ?_ _
              exact ⟨rfl, rfl, HB2⟩
            · go_simp
              gi_wp2_with (gi_at_call 32; refine (CallsIn.inRound l (callsIn_wide.2 (chain_Link.calls _ _ _ _ _ _ y _ HL.out))).mono ?_; rintro e w2 ⟨rfl, hb2⟩; have v4 : w2.cell? ⟨Bx, 4, none⟩ = some (.int .u64 x.1.2.f4) := (hb2.cell (p := ⟨Bx, 4, none⟩) (blk_lt bX)).trans x4; have HB2 := Aside0.mk (hb2 : Below W.heap.size W.drew w2); clear hb2)
              refine wpAnyIn_ready (rs := [1]) (by kernel_rfl) (by simp) ?_
              refine (AllReadyIn.cons rfl (fun K hK => ?_) AllReadyIn.nil)
              go_simp
              refine hK _ _ ?_
              clear hK K
              refine wpAnyIn_ready (rs := [5]) (by kernel_rfl) (by simp) ?_
              refine (AllReadyIn.cons rfl (fun K hK => ?_) AllReadyIn.nil)
              go_simp
              refine hK _ _ ?_
              clear hK K
              refine wpAnyIn_done (by kernel_rfl) ?_ _
              exact ⟨rfl, rfl, HB2⟩
        · go_simp
          refine hK _ _ ?_
          clear hK K
          refine wpAnyIn_ready (rs := [0, 4]) (by kernel_rfl) (by simp) ?_
          refine (AllReadyIn.cons rfl (fun K hK => ?_) (AllReadyIn.cons rfl (fun K hK => ?_) AllReadyIn.nil))
          · go_simp
            refine hK _ _ ?_
            clear hK K
            refine wpAnyIn_ready (rs := [1, 4]) (by kernel_rfl) (by simp) ?_
            refine (AllReadyIn.cons rfl (fun K hK => ?_) (AllReadyIn.cons rfl (fun K hK => ?_) AllReadyIn.nil))
            · go_simp
              refine hK _ _ ?_
              clear hK K
              refine wpAnyIn_ready (rs := [4]) (by kernel_rfl) (by simp) ?_
              refine (AllReadyIn.cons rfl (fun K hK => ?_) AllReadyIn.nil)
              go_simp
              gi_wp2_with (gi_at_call 32; refine (CallsIn.inRound l (callsIn_wide.2 (chain_Link.calls _ _ _ _ _ _ y _ HL.out))).mono ?_; rintro e w2 ⟨rfl, hb2⟩; have v4 : w2.cell? ⟨Bx, 4, none⟩ = some (.int .u64 x.1.2.f4) := (hb2.cell (p := ⟨Bx, 4, none⟩) (blk_lt bX)).trans x4; have HB2 := Aside0.mk (hb2 : Below W.heap.size W.drew w2); clear hb2)
              refine wpAnyIn_ready (rs := [5]) (by kernel_rfl) (by simp) ?_
              refine (AllReadyIn.cons rfl (fun K hK => ?_) AllReadyIn.nil)
              go_simp
              refine hK _ _ ?_
              clear hK K
              refine wpAnyIn_done (by kernel_rfl) ?_ _
              exact ⟨rfl, rfl, HB2⟩
            · go_simp
              gi_wp2_with (gi_at_call 32; refine (CallsIn.inRound l (callsIn_wide.2 (chain_Link.calls _ _ _ _ _ _ y _ HL.out))).mono ?_; rintro e w2 ⟨rfl, hb2⟩; have v4 : w2.cell? ⟨Bx, 4, none⟩ = some (.int .u64 x.1.2.f4) := (hb2.cell (p := ⟨Bx, 4, none⟩) (blk_lt bX)).trans x4; have HB2 := Aside0.mk (hb2 : Below W.heap.size W.drew w2); clear hb2)
              refine wpAnyIn_ready (rs := [1]) (by kernel_rfl) (by simp) ?_
              refine (AllReadyIn.cons rfl (fun K hK => ?_) AllReadyIn.nil)
              go_simp
              refine hK _ _ ?_
              clear hK K
              refine wpAnyIn_ready (rs := [5]) (by kernel_rfl) (by simp) ?_
              refine (AllReadyIn.cons rfl (fun K hK => ?_) AllReadyIn.nil)
              go_simp
              refine hK _ _ ?_
              clear hK K
              refine wpAnyIn_done (by kernel_rfl) ?_ _
              exact ⟨rfl, rfl, HB2⟩
          · go_simp
            gi_wp2_with (gi_at_call 32; refine (CallsIn.inRound l (callsIn_wide.2 (chain_Link.calls _ _ _ _ _ _ y _ HL.out))).mono ?_; rintro e w2 ⟨rfl, hb2⟩; have v4 : w2.cell? ⟨Bx, 4, none⟩ = some (.int .u64 x.1.2.f4) := (hb2.cell (p := ⟨Bx, 4, none⟩) (blk_lt bX)).trans x4; have HB2 := Aside0.mk (hb2 : Below W.heap.size W.drew w2); clear hb2)
            refine wpAnyIn_ready (rs := [0]) (by kernel_rfl) (by simp) ?_
            refine (AllReadyIn.cons rfl (fun K hK => ?_) AllReadyIn.nil)
            go_simp
            refine hK _ _ ?_
            clear hK K
            refine wpAnyIn_ready (rs := [1]) (by kernel_rfl) (by simp) ?_
            refine (AllReadyIn.cons rfl (fun K hK => ?_) AllReadyIn.nil)
            go_simp
            refine hK _ _ ?_
            clear hK K
            refine wpAnyIn_ready (rs := [5]) (by kernel_rfl) (by simp) ?_
            refine (AllReadyIn.cons rfl (fun K hK => ?_) AllReadyIn.nil)
            go_simp
            refine hK _ _ ?_
            clear hK K
            refine wpAnyIn_done (by kernel_rfl) ?_ _
            exact ⟨rfl, rfl, HB2⟩
      · go_simp
        refine hK _ _ ?_
        clear hK K
        refine wpAnyIn_ready (rs := [0, 2]) (by kernel_rfl) (by simp) ?_
        refine (AllReadyIn.cons rfl (fun K hK => ?_) (AllReadyIn.cons rfl (fun K hK => ?_) AllReadyIn.nil))
        · go_simp
          refine hK _ _ ?_
          clear hK K
          refine wpAnyIn_ready (rs := [1, 2]) (by kernel_rfl) (by simp) ?_
          refine (AllReadyIn.cons rfl (fun K hK => ?_) (AllReadyIn.cons rfl (fun K hK => ?_) AllReadyIn.nil))
          · go_simp
            refine hK _ _ ?_
            clear hK K
            refine wpAnyIn_ready (rs := [2]) (by kernel_rfl) (by simp) ?_
            refine (AllReadyIn.cons rfl (fun K hK => ?_) AllReadyIn.nil)
            go_simp
            refine hK _ _ ?_
            clear hK K
            refine wpAnyIn_ready (rs := [4]) (by kernel_rfl) (by simp) ?_
            refine (AllReadyIn.cons rfl (fun K hK => ?_) AllReadyIn.nil)
            go_simp
            gi_wp2_with (gi_at_call 32; refine (CallsIn.inRound l (callsIn_wide.2 (chain_Link.calls _ _ _ _ _ _ y _ HL.out))).mono ?_; rintro e w2 ⟨rfl, hb2⟩; have v4 : w2.cell? ⟨Bx, 4, none⟩ = some (.int .u64 x.1.2.f4) := (hb2.cell (p := ⟨Bx, 4, none⟩) (blk_lt bX)).trans x4; have HB2 := Aside0.mk (hb2 : Below W.heap.size W.drew w2); clear hb2)
            refine wpAnyIn_ready (rs := [5]) (by kernel_rfl) (by simp) ?_
            refine (AllReadyIn.cons rfl (fun K hK => ?_) AllReadyIn.nil)
            go_simp
            refine hK _ _ ?_
            clear hK K
            refine wpAnyIn_done (by kernel_rfl) ?_ _
            exact ⟨rfl, rfl, HB2⟩
          · go_simp
            refine hK _ _ ?_
            clear hK K
            refine wpAnyIn_ready (rs := [1, 4]) (by kernel_rfl) (by simp) ?_
            refine (AllReadyIn.cons rfl (fun K hK => ?_) (AllReadyIn.cons rfl (fun K hK => ?_) AllReadyIn.nil))
            · go_simp
              refine hK _ _ ?_
              clear hK K
              refine wpAnyIn_ready (rs := [4]) (by kernel_rfl) (by simp) ?_
              refine (AllReadyIn.cons rfl (fun K hK => ?_) AllReadyIn.nil)
              go_simp
              gi_wp2_with (gi_at_call 32; refine (CallsIn.inRound l (callsIn_wide.2 (chain_Link.calls _ _ _ _ _ _ y _ HL.out))).mono ?_; rintro e w2 ⟨rfl, hb2⟩; have v4 : w2.cell? ⟨Bx, 4, none⟩ = some (.int .u64 x.1.2.f4) := (hb2.cell (p := ⟨Bx, 4, none⟩) (blk_lt bX)).trans x4; have HB2 := Aside0.mk (hb2 : Below W.heap.size W.drew w2); clear hb2)
              refine wpAnyIn_ready (rs := [5]) (by kernel_rfl) (by simp) ?_
              refine (AllReadyIn.cons rfl (fun K hK => ?_) AllReadyIn.nil)
              go_simp
              refine hK _ _ ?_
              clear hK K
              refine wpAnyIn_done (by kernel_rfl) ?_ _
              exact ⟨rfl, rfl, HB2⟩
            · go_simp
              gi_wp2_with (gi_at_call 32; refine (CallsIn.inRound l (callsIn_wide.2 (chain_Link.calls _ _ _ _ _ _ y _ HL.out))).mono ?_; rintro e w2 ⟨rfl, hb2⟩; have v4 : w2.cell? ⟨Bx, 4, none⟩ = some (.int .u64 x.1.2.f4) := (hb2.cell (p := ⟨Bx, 4, none⟩) (blk_lt bX)).trans x4; have HB2 := Aside0.mk (hb2 : Below W.heap.size W.drew w2); clear hb2)
              refine wpAnyIn_ready (rs := [1]) (by kernel_rfl) (by simp) ?_
              refine (AllReadyIn.cons rfl (fun K hK => ?_) AllReadyIn.nil)
              go_simp
              refine hK _ _ ?_
              clear hK K
              refine wpAnyIn_ready (rs := [5]) (by kernel_rfl) (by simp) ?_
              refine (AllReadyIn.cons rfl (fun K hK => ?_) AllReadyIn.nil)
              go_simp
              refine hK _ _ ?_
              clear hK K
              refine wpAnyIn_done (by kernel_rfl) ?_ _
              exact ⟨rfl, rfl, HB2⟩
        · go_simp
          refine hK _ _ ?_
          clear hK K
          refine wpAnyIn_ready (rs := [0, 4]) (by kernel_rfl) (by simp) ?_
          refine (AllReadyIn.cons rfl (fun K hK => ?_) (AllReadyIn.cons rfl (fun K hK => ?_) AllReadyIn.nil))
          · go_simp
            refine hK _ _ ?_
            clear hK K
            refine wpAnyIn_ready (rs := [1, 4]) (by kernel_rfl) (by simp) ?_
            refine (AllReadyIn.cons rfl (fun K hK => ?_) (AllReadyIn.cons rfl (fun K hK => ?_) AllReadyIn.nil))
            · go_simp
              refine hK _ _ ?_
              clear hK K
              refine wpAnyIn_ready (rs := [4]) (by kernel_rfl) (by simp) ?_
              refine (AllReadyIn.cons rfl (fun K hK => ?_) AllReadyIn.nil)
              go_simp
              gi_wp2_with (gi_at_call 32; refine (CallsIn.inRound l (callsIn_wide.2 (chain_Link.calls _ _ _ _ _ _ y _ HL.out))).mono ?_; rintro e w2 ⟨rfl, hb2⟩; have v4 : w2.cell? ⟨Bx, 4, none⟩ = some (.int .u64 x.1.2.f4) := (hb2.cell (p := ⟨Bx, 4, none⟩) (blk_lt bX)).trans x4; have HB2 := Aside0.mk (hb2 : Below W.heap.size W.drew w2); clear hb2)
              refine wpAnyIn_ready (rs := [5]) (by kernel_rfl) (by simp) ?_
              refine (AllReadyIn.cons rfl (fun K hK => ?_) AllReadyIn.nil)
              go_simp
              refine hK _ _ ?_
              clear hK K
              refine wpAnyIn_done (by kernel_rfl) ?_ _
              exact ⟨rfl, rfl, HB2⟩
            · go_simp
              gi_wp2_with (gi_at_call 32; refine (CallsIn.inRound l (callsIn_wide.2 (chain_Link.calls _ _ _ _ _ _ y _ HL.out))).mono ?_; rintro e w2 ⟨rfl, hb2⟩; have v4 : w2.cell? ⟨Bx, 4, none⟩ = some (.int .u64 x.1.2.f4) := (hb2.cell (p := ⟨Bx, 4, none⟩) (blk_lt bX)).trans x4; have HB2 := Aside0.mk (hb2 : Below W.heap.size W.drew w2); clear hb2)
              refine wpAnyIn_ready (rs := [1]) (by kernel_rfl) (by simp) ?_
              refine (AllReadyIn.cons rfl (fun K hK => ?_) AllReadyIn.nil)
              go_simp
              refine hK _ _ ?_
              clear hK K
              refine wpAnyIn_ready (rs := [5]) (by kernel_rfl) (by simp) ?_
              refine (AllReadyIn.cons rfl (fun K hK => ?_) AllReadyIn.nil)
              go_simp
              refine hK _ _ ?_
              clear hK K
              refine wpAnyIn_done (by kernel_rfl) ?_ _
              exact ⟨rfl, rfl, HB2⟩
          · go_simp
            gi_wp2_with (gi_at_call 32; refine (CallsIn.inRound l (callsIn_wide.2 (chain_Link.calls _ _ _ _ _ _ y _ HL.out))).mono ?_; rintro e w2 ⟨rfl, hb2⟩; have v4 : w2.cell? ⟨Bx, 4, none⟩ = some (.int .u64 x.1.2.f4) := (hb2.cell (p := ⟨Bx, 4, none⟩) (blk_lt bX)).trans x4; have HB2 := Aside0.mk (hb2 : Below W.heap.size W.drew w2); clear hb2)
            refine wpAnyIn_ready (rs := [0]) (by kernel_rfl) (by simp) ?_
            refine (AllReadyIn.cons rfl (fun K hK => ?_) AllReadyIn.nil)
            go_simp
            refine hK _ _ ?_
            clear hK K
            refine wpAnyIn_ready (rs := [1]) (by kernel_rfl) (by simp) ?_
            refine (AllReadyIn.cons rfl (fun K hK => ?_) AllReadyIn.nil)
            go_simp
            refine hK _ _ ?_
            clear hK K
            refine wpAnyIn_ready (rs := [5]) (by kernel_rfl) (by simp) ?_
            refine (AllReadyIn.cons rfl (fun K hK => ?_) AllReadyIn.nil)
            go_simp
            refine hK _ _ ?_
            clear hK K
            refine wpAnyIn_done (by kernel_rfl) ?_ _
            exact ⟨rfl, rfl, HB2⟩
    case rest =>
      rintro e a' w2 ⟨rfl, rfl, HB2⟩
      have HW2 : Aside0 (Below W.heap.size W w2) := ⟨(show Below W.heap.size W W.drew from ⟨rfl, rfl, rfl, Nat.le_refl _, fun _ _ => rfl⟩).trans HB2.out⟩
      have HKF : Aside0 (KeepsFrom W0.heap.size W w2) := ⟨⟨HW2.out.size, fun k o _ hk ho => (HW2.out.block k (Array.getElem?_eq_some_iff.1 hk).1).trans hk⟩⟩
      have bS2 : Boxed w2 w.heap.size 22 (.int .u64 (chkS a0 (pre.map (·.1))).2) := (HW2.out.block _ bS1.lt).trans bS1
      have bR2 : Boxed w2 (w.heap.size + 1) 3 (.int .i64 (pre.length : Int)) := (HW2.out.block _ bR1.lt).trans bR1
      have bX2 := (HW2.out.block _ (blk_lt bX)).trans bX
      have cS2 := bS2.cell
      have cR2 := bR2.cell
      have fR2 := bR2.frozen
      have fS2 := bS2.frozen
      have y4 : w2.cell? ⟨Bx, 4, none⟩ = some (.int .u64 x.1.2.f4) := (blk_cell bX2 4).trans rfl
      have HX := Aside0.mk (And.intro bS2 bR2)
      clear bS2 bR2 bX2 cS cR fR fS x0 x1 x2 x3 x4
      by_cases g : x.1.2.f4 = y
      · have gb : (x.1.2.f4 != y) = false := bne_eq_false_iff_eq.mpr g
        have hs1 : (chkS a0 ((pre ++ [x]).map (·.1))).1 = true := by rw [HS.out.1, decide_eq_true g]
        have HS1 := Aside0.mk hs1
        clear g hs1
        gi_wp2
        refine ⟨HKF.out.trans (((KeepsOthers.setCell _ _ _).from _).trans ((KeepsOthers.setCell _ _ _).from _)), ⟨((HW2.out.mono hB1.size).setCell (p := ⟨w.heap.size, 0, none⟩) (Nat.le_refl _) _).setCell (p := ⟨w.heap.size + 1, 0, none⟩) (by simp) _, ?_⟩,
          ⟨⟨by rw [HS.out.2]; exact (HX.out.1.set _).other (by omega) _, by rw [List.length_append]; exact (HX.out.2.other (by omega) _).set _⟩, HS1.out⟩, ((hB1.trans (HW2.out.mono hB1.size)).setCell (p := ⟨w.heap.size, 0, none⟩) (Nat.le_refl _) _).setCell (p := ⟨w.heap.size + 1, 0, none⟩) (by simp) _, ?_⟩
        · exact (Boxed.other (Boxed.other (show Boxed w2 (w.heap.size + 1 + 1) _ _ from (HW2.out.block _ bI1.lt).trans bI1) (by omega) _) (by omega) _).trans bI1.symm
        · exact Boxed.other (Boxed.other (show Boxed w2 (w.heap.size + 1 + 1) _ _ from (HW2.out.block _ bI1.lt).trans bI1) (by omega) _) (by omega) _
      · have gb : (x.1.2.f4 != y) = true := bne_iff_ne.mpr g
        have hs1 : (chkS a0 ((pre ++ [x]).map (·.1))).1 = false := by rw [HS.out.1, decide_eq_false g]
        have HS1 := Aside0.mk hs1
        clear g hs1
        gi_wp2
        exact ⟨HKF.out, ⟨⟨rfl, pre.map (·.1), x.1, by simp, hp, by simpa using HS1.out, by simpa using HX.out.2⟩, hB1.trans (HW2.out.mono hB1.size)⟩⟩
  case done =>
    rintro D ys W hD ⟨m, hm, ho, hno, ey⟩ ⟨⟨⟨bS1, bR1⟩, hp⟩, hB1, bI1⟩ hK
    have el : ys.length = m := by have := congrArg List.length ey; simpa [uptoR_length] using this
    rw [ey] at hp bS1
    have cR := bR1.cell
    rw [el] at cR
    clear el ey
    have HE := Aside0.mk (stop_eq hm ho ((chkS_upto a0 l1 m).2.1 hp) (fun h => by rw [hno h]; rfl))
    by_cases g : m = l1.length
    · subst g
      rw [if_pos rfl] at HE
      go_wp2
      refine ⟨by simp, .inl ⟨_, _, rfl, run_takeDeferred hK, ?_⟩⟩
      exact ⟨_, results_tmp rfl _ _ _, by rw [HE.out]; rfl, hB1.trans (belowK_b (w := w) (Nat.le_refl _) W D _ _ (by omega) hK rfl rfl)⟩
    · have g1 : ((m : Int) == (l1.length : Int)) = false := beq_eq_false_iff_ne.2 (by omega)
      rw [if_neg g] at HE
      clear g
      go_wp2
      try simp only [Exit.noGoto_ret]
      refine ⟨by simp, .inl ⟨_, _, rfl, run_takeDeferred hK, ?_⟩⟩
      exact ⟨_, results_tmp rfl _ _ _, by rw [HE.out]; rfl, hB1.trans (belowK_b (w := w) (Nat.le_refl _) W D _ _ (by omega) hK rfl rfl)⟩
  case stop =>
    rintro D c pre W hD ⟨m, hm, ho, ey⟩ ⟨⟨rfl, ini, last, e1, e2, e3, bR1⟩, hB1⟩ hK
    rw [ey] at e3
    have e1' := ey
    rw [e1, uptoR_succ] at e1'
    obtain ⟨e4, e5⟩ := List.append_inj' e1' rfl
    rw [e4] at e2
    have el : ini.length = m := by rw [e4, uptoR_length]
    have cR := bR1.cell
    rw [el] at cR
    clear el e4 ey
    have hlk : linkOkAt a0 l1 m = false := by
      cases hq : linkOkAt a0 l1 m with
      | false => rfl
      | true =>
        have := (chkS_upto a0 l1 (m + 1)).2.2 (fun j hj => (Nat.lt_succ_iff_lt_or_eq.1 hj).elim ((chkS_upto a0 l1 m).2.1 e2 j) (fun e => e ▸ hq))
        rw [e3] at this; cases this
    have HE := Aside0.mk (stop_eq (Nat.le_of_lt hm) (fun j hj => ho j (by omega)) ((chkS_upto a0 l1 m).2.1 e2) (fun _ => by rw [hlk, Bool.and_false]))
    rw [if_neg (by omega)] at HE
    have g1 : ((m : Int) == (l1.length : Int)) = false := beq_eq_false_iff_ne.2 (by omega)
    clear hlk e1 e1' e2 e3 ho e5
    refine wpIn_wide.2 ?_
    go_wp2
    try simp only [Exit.noGoto_ret]
    refine ⟨by simp, .inl ⟨_, _, rfl, run_takeDeferred hK, ?_⟩⟩
    exact ⟨_, results_tmp rfl _ _ _, by rw [HE.out]; rfl, hB1.trans (belowK_b (w := w) (Nat.le_refl _) W D _ _ (by omega) hK rfl rfl)⟩
end Go.Proofs.Ytenkffjlpdappaa.Pr
