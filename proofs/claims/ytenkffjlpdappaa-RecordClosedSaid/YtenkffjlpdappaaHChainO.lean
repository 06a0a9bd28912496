/- Package chain over this program: the readings that are in order. -/
import Derived.Test.YtenkffjlpdappaaHChain
import Derived.Test.YtenkffjlpdappaaPrx3
import Derived.RangeFuncNested
import Derived.RangeFuncBound
import Derived.RangeFuncCalls
import Derived.RangeFuncLeaves
import Derived.Shelf.Abstract
import Derived.Shelf.RegionOpen
import Derived.WalkKit
import Derived.OwnWalkIn
import Derived.TacticsInMore
import Derived.LoopNIn
import Derived.LoopIn
import Derived.BigRegionIn
import Derived.Stop.RegionWithIn
namespace Go.Proofs.Ytenkffjlpdappaa.Pr
open Go.RowKit Go.Shelf Go.Proofs.YtenkffjlpdappaaW.PrintWords Go.Proofs.YtenkffjlpdappaaW.PrintLast Go.Proofs.YtenkffjlpdappaaW.PrintMore
set_option linter.unusedVariables false
set_option linter.unusedSimpArgs false
attribute [local go_sem] Oper.semAt_some

/-! ### what is computed -/
def rvalidB (a b c d : Int) : Bool := decide (1 ≤ a) && (decide (a ≤ 1000000) && (decide (1 ≤ b) && (decide (b ≤ 64) && (decide (0 ≤ c) && (decide (c ≤ 52560000) && (decide (0 ≤ d) && decide (d ≤ 1000000000)))))))
theorem rvalid_f (a b c d e : Int) : chain_valid.f a b c d e = some (rvalidB a b c d) := by
  unfold chain_valid.f chain_inside.f rvalidB
  simp only [ge_iff_le]
  by_cases h1 : 1 ≤ a <;> by_cases h2 : a ≤ 1000000 <;> by_cases h3 : 1 ≤ b <;> by_cases h4 : b ≤ 64 <;> by_cases h5 : 0 ≤ c <;> by_cases h6 : c ≤ 52560000 <;> by_cases h7 : 0 ≤ d <;> simp [h1, h2, h3, h4, h5, h6, h7]
/-- The reading with an index can be where it is, apart from its link. -/
def okAt (l : List S44) (k : Nat) : Bool :=
  decide (k < 64) && (rvalidB (rd_T44 l k).f0 (rd_T44 l k).f1 (rd_T44 l k).f2 (rd_T44 l k).f3 && (decide ((rd_T44 l k).f1 = (k : Int) + 1) &&
    (decide (k = 0) || decide (refusedI (rd_T44 l k).f0 (rd_T44 l k).f2 (rd_T44 l k).f3 (rd_T44 l ((k : Int) - 1)).f0 (rd_T44 l ((k : Int) - 1)).f2 (rd_T44 l ((k : Int) - 1)).f3 = 0))))
def rval (x : S44) : Value := .agg #[.int .i64 x.f0, .int .i64 x.f1, .int .i64 x.f2, .int .i64 x.f3, .int .u64 x.f4]
def encR (x : Nat × S44) : Array Value := #[.int .i64 (x.1 : Int), .agg #[.int .i64 x.2.f0, .int .i64 x.2.f1, .int .i64 x.2.f2, .int .i64 x.2.f3, .int .u64 x.2.f4]]
/-- What has come when k rounds are over. -/
def uptoR {α : Type} (f : Nat → α) (k : Nat) : List α := (List.range k).map f
theorem uptoR_succ {α : Type} (f : Nat → α) (k : Nat) : uptoR f (k + 1) = uptoR f k ++ [f k] := by simp [uptoR, List.range_succ]
theorem uptoR_length {α : Type} (f : Nat → α) (k : Nat) : (uptoR f k).length = k := by simp [uptoR]
def rdN (l : List S44) (k : Nat) : Nat × S44 := (k, rd_T44 l k)
theorem alloc_drew_below (W : World) (o : Obj) : Below W.heap.size W (W.alloc o).drew := ((Below.refl _ _).alloc (Nat.le_refl _) _).trans ⟨rfl, rfl, rfl, Nat.le_refl _, fun _ _ => rfl⟩
/-- What a round keeps: what lay, and the box that holds the readings. -/
def KpR (n₀ Bs : Nat) (W W' : World) : Prop := Below n₀ W W' ∧ W'.heap[Bs]? = W.heap[Bs]?

set_option maxRecDepth 1000000 in
set_option maxHeartbeats 4000000 in
theorem ordered1_in (n : Nat) (hn : 1 ≤ n) (lp Bs : Nat) (A : Option Addr) (c : Nat) (xs : List S44) (w0 : World) (hr : Kd.C k44 w0 A xs.length xs) (J Jx : Nat → World → Prop)
    (W : World) (hJ : AbidesFrom W.heap.size J) (hB0 : Below w0.heap.size w0 W)
    (hY : ∀ (k : Nat) W1, k < xs.length → (∀ j, j ≤ k → okAt xs j = true) → J k W1 → YieldAt Fence.wide (n - 1) Try.prog lp (encR (rdN xs k)) W1 fun e W' =>
      (e = .returned (.bool true) ∧ J (k + 1) W' ∧ KpR w0.heap.size Bs W1 W') ∨ (e = .returned (.bool false) ∧ Jx (k + 1) W'))
    (hBs : W.heap[Bs]? = some (.cells #[.slice A xs.length c] 26 (0, 0))) (h0 : J 0 W) :
    CallsIn Fence.wide n Try.prog 52 #[.func (.yield lp) #[] #[], .pointer (some ⟨Bs, 0, none⟩)] W fun e W' => (∃ v, e = .returned v) ∧
      ((∃ m, m ≤ xs.length ∧ (∀ j, j < m → okAt xs j = true) ∧ (m < xs.length → okAt xs m = false) ∧ J m W') ∨
       (∃ m, m < xs.length ∧ (∀ j, j < m + 1 → okAt xs j = true) ∧ Jx (m + 1) W')) := by
  have hlen : xs.length ≤ 9223372036854775807 := hr.2.1
  have HR := Aside0.mk hr
  have HY := Aside0.mk hY
  have HJ := Aside0.mk hJ
  have HBs := Aside0.mk hBs
  have HB0 := Aside0.mk hB0
  have hbs : W.cell? ⟨Bs, 0, none⟩ = some (.slice A xs.length c) := (blk_cell hBs 0).trans rfl
  have hu := Try.underlying44
  have hund : (undef : Value) = .tuple #[] := rfl
  have hfn : ∀ f, Fence.wide.fn f := fun _ => trivial
  clear hr hY hJ hBs hB0
  refine callsIn_of_wp Try.func52 rfl trivial ?_ rfl
  simp only [Try.ntmps52, List.size_toArray, List.length_cons, List.length_nil, Nat.reduceAdd, Nat.reduceSub, Array.replicate_succ, Array.replicate_zero, List.push_toArray, List.append_toArray, List.nil_append, List.cons_append]
  gi_wp2
  gi_loopw [7] (fun i wr => ∃ k : Nat, i = .int .i64 k ∧ k ≤ xs.length ∧ Aside0 (J k wr ∧ Below w0.heap.size w0 wr ∧ wr.heap[Bs]? = some (.cells #[.slice A xs.length c] 26 (0, 0)) ∧ W.heap.size ≤ wr.heap.size ∧ ∀ j, j < k → okAt xs j = true))
    (fun i _ => xs.length - (intOf i).toNat)
  case atStart => exact ⟨0, rfl, Nat.zero_le _, ⟨h0, HB0.out, HBs.out, Nat.le_refl _, fun j hj => absurd hj (Nat.not_lt_zero _)⟩⟩
  case round =>
    clear hbs
    obtain ⟨k, rfl, hk, HI⟩ := hrel
    by_cases hlt : k < xs.length
    · obtain ⟨ad, rfl, hc0, hc1, hc2, hc3, hc4⟩ := at_T44 HR.out k (Int.natCast_nonneg _) (by omega)
      simp only [Int.toNat_natCast] at hc0 hc1 hc2 hc3 hc4
      have hbs : wr.cell? ⟨Bs, 0, none⟩ = some (.slice (some ad) xs.length c) := (blk_cell HI.out.2.2.1 0).trans rfl
      replace hc0 := (HI.out.2.1.cell (World.block_lt_of_cell? w0 _ hc0)).trans hc0
      replace hc1 := (HI.out.2.1.cell (World.block_lt_of_cell? w0 _ hc1)).trans hc1
      replace hc2 := (HI.out.2.1.cell (World.block_lt_of_cell? w0 _ hc2)).trans hc2
      replace hc3 := (HI.out.2.1.cell (World.block_lt_of_cell? w0 _ hc3)).trans hc3
      replace hc4 := (HI.out.2.1.cell (World.block_lt_of_cell? w0 _ hc4)).trans hc4
      have HX : Aside0 (∃ x, x = rd_T44 xs k) := ⟨_, rfl⟩
      obtain ⟨x, hx⟩ := HX.out
      rw [← hx] at hc0 hc1 hc2 hc3 hc4
      replace HX := Aside0.mk hx
      clear hx
      have hw1 : IntKind.i64.wrap ((k : Int) + 1) = k + 1 := by simp [IntKind.wrap, IntKind.bits, IntKind.signed]; omega
      by_cases g1 : k < 64
      · have g1b : decide (64 ≤ (k : Int)) = false := decide_eq_false (by omega)
        have HLT := Aside0.mk hlt
        have HV := Aside0.mk (rvalid_f x.f0 x.f1 x.f2 x.f3 x.f4)
        cases v : rvalidB x.f0 x.f1 x.f2 x.f3 with
        | false =>
          have HO : Aside0 (okAt xs k = false) := ⟨by unfold okAt; rw [← HX.out, v, decide_eq_true g1]; rfl⟩
          rw [v] at HV
          clear v g1
          gi_wp2
          refine wpIn_region_any (by kernel_rfl) ?_
          change wpAnyIn _ _ _ _ _ _ _ _ _ (World.drew _)
          refine wpAnyIn_take (i := 0) (v := ?_) rfl rfl (by kernel_rfl) (by kernel_rfl) (by kernel_rfl) (fun _ _ _ h => h) ⟨Or.inl ⟨by kernel_rfl, ?_⟩, fun _ => rfl⟩ ?_
          case refine_2 => (intro w; go_simp <;> with_reducible rfl)
          try simp only [Act.put, List.setIfInBounds_toArray, List.set_cons_zero, List.set_cons_succ, List.getElem_toArray, List.getElem_cons_zero, List.getElem_cons_succ]
          refine wpAnyIn_take (i := 1) (v := ?_) rfl rfl (by kernel_rfl) (by kernel_rfl) (by kernel_rfl) (fun _ _ _ h => h) ⟨Or.inl ⟨by kernel_rfl, ?_⟩, fun _ => rfl⟩ ?_
          case refine_2 => (intro w; go_simp <;> with_reducible rfl)
          try simp only [Act.put, List.setIfInBounds_toArray, List.set_cons_zero, List.set_cons_succ, List.getElem_toArray, List.getElem_cons_zero, List.getElem_cons_succ]
          refine wpAnyIn_take (i := 2) (v := ?_) rfl rfl (by kernel_rfl) (by kernel_rfl) (by kernel_rfl) (fun _ _ _ h => h) ⟨Or.inl ⟨by kernel_rfl, ?_⟩, fun _ => rfl⟩ ?_
          case refine_2 => (intro w; go_simp <;> with_reducible rfl)
          try simp only [Act.put, List.setIfInBounds_toArray, List.set_cons_zero, List.set_cons_succ, List.getElem_toArray, List.getElem_cons_zero, List.getElem_cons_succ]
          refine wpAnyIn_ready (rs := [3]) (by kernel_rfl) (by simp) ?_
          refine AllReadyIn.cons rfl (fun K hK => ?_) AllReadyIn.nil
          go_simp
          refine hK _ _ ?_
          clear hK K
          refine wpAnyIn_ready (rs := [4]) (by kernel_rfl) (by simp) ?_
          refine AllReadyIn.cons rfl (fun K hK => ?_) AllReadyIn.nil
          go_simp
          gi_wp2_with (gi_at_call 45; refine (callsIn_wide.2 (chain_valid.calls _ _ _ _ _ false _ HV.out)).mono ?_; rintro e w2 ⟨rfl, hb2⟩; have hk2 := (hb2.block wr.heap.size (by simp)).trans (heap_alloc_new wr _); have HB2 := Aside0.mk hb2; clear hb2)
          refine wpAnyIn_take (i := 5) (v := ?_) rfl rfl (by kernel_rfl) (by kernel_rfl) (by kernel_rfl) (fun _ _ _ h => h) ⟨Or.inl ⟨by kernel_rfl, ?_⟩, fun _ => rfl⟩ ?_
          case refine_2 => (intro w; go_simp <;> with_reducible rfl)
          try simp only [Act.put, List.setIfInBounds_toArray, List.set_cons_zero, List.set_cons_succ, List.getElem_toArray, List.getElem_cons_zero, List.getElem_cons_succ]
          refine wpAnyIn_take (i := 6) (v := ?_) rfl rfl (by kernel_rfl) (by kernel_rfl) (by kernel_rfl) (fun _ _ _ h => h) ⟨Or.inl ⟨by kernel_rfl, ?_⟩, fun _ => rfl⟩ ?_
          case refine_2 => (intro w; go_simp <;> with_reducible rfl)
          try simp only [Act.put, List.setIfInBounds_toArray, List.set_cons_zero, List.set_cons_succ, List.getElem_toArray, List.getElem_cons_zero, List.getElem_cons_succ]
          refine wpAnyIn_take (i := 7) (v := ?_) rfl rfl (by kernel_rfl) (by kernel_rfl) (by kernel_rfl) (fun _ _ _ h => h) ⟨Or.inl ⟨by kernel_rfl, ?_⟩, fun _ => rfl⟩ ?_
          case refine_2 => (intro w; go_simp <;> with_reducible rfl)
          try simp only [Act.put, List.setIfInBounds_toArray, List.set_cons_zero, List.set_cons_succ, List.getElem_toArray, List.getElem_cons_zero, List.getElem_cons_succ]
          refine wpAnyIn_take (i := 8) (v := undef) rfl rfl (by kernel_rfl) (by kernel_rfl) (by kernel_rfl) (fun _ _ _ h => h) ⟨Or.inr ⟨by kernel_rfl, rfl⟩, fun _ => rfl⟩ ?_
          try simp only [Act.put, List.setIfInBounds_toArray, List.set_cons_zero, List.set_cons_succ, List.getElem_toArray, List.getElem_cons_zero, List.getElem_cons_succ]
          refine wpAnyIn_take (i := 10) (v := undef) rfl rfl (by kernel_rfl) (by kernel_rfl) (by kernel_rfl) (fun _ _ _ h => h) ⟨Or.inr ⟨by kernel_rfl, rfl⟩, fun _ => rfl⟩ ?_
          try simp only [Act.put, List.setIfInBounds_toArray, List.set_cons_zero, List.set_cons_succ, List.getElem_toArray, List.getElem_cons_zero, List.getElem_cons_succ]
          refine wpAnyIn_take (i := 9) (v := undef) rfl rfl (by kernel_rfl) (by kernel_rfl) (by kernel_rfl) (fun _ _ _ h => h) ⟨Or.inr ⟨by kernel_rfl, rfl⟩, fun _ => rfl⟩ ?_
          try simp only [Act.put, List.setIfInBounds_toArray, List.set_cons_zero, List.set_cons_succ, List.getElem_toArray, List.getElem_cons_zero, List.getElem_cons_succ]
          refine wpAnyIn_take (i := 11) (v := undef) rfl rfl (by kernel_rfl) (by kernel_rfl) (by kernel_rfl) (fun _ _ _ h => h) ⟨Or.inr ⟨by kernel_rfl, rfl⟩, fun _ => rfl⟩ ?_
          try simp only [Act.put, List.setIfInBounds_toArray, List.set_cons_zero, List.set_cons_succ, List.getElem_toArray, List.getElem_cons_zero, List.getElem_cons_succ]
          refine wpAnyIn_take (i := 12) (v := undef) rfl rfl (by kernel_rfl) (by kernel_rfl) (by kernel_rfl) (fun _ _ _ h => h) ⟨Or.inr ⟨by kernel_rfl, rfl⟩, fun _ => rfl⟩ ?_
          try simp only [Act.put, List.setIfInBounds_toArray, List.set_cons_zero, List.set_cons_succ, List.getElem_toArray, List.getElem_cons_zero, List.getElem_cons_succ]
          refine wpAnyIn_take (i := 13) (v := ?_) rfl rfl (by kernel_rfl) (by kernel_rfl) (by kernel_rfl) (fun _ _ _ h => h) ⟨Or.inl ⟨by kernel_rfl, ?_⟩, fun _ => rfl⟩ ?_
          case refine_2 => (intro w; go_simp <;> with_reducible rfl)
          try simp only [Act.put, List.setIfInBounds_toArray, List.set_cons_zero, List.set_cons_succ, List.getElem_toArray, List.getElem_cons_zero, List.getElem_cons_succ]
          refine wpAnyIn_take (i := 14) (v := ?_) rfl rfl (by kernel_rfl) (by kernel_rfl) (by kernel_rfl) (fun _ _ _ h => h) ⟨Or.inl ⟨by kernel_rfl, ?_⟩, fun _ => rfl⟩ ?_
          case refine_2 => (intro w; go_simp <;> with_reducible rfl)
          try simp only [Act.put, List.setIfInBounds_toArray, List.set_cons_zero, List.set_cons_succ, List.getElem_toArray, List.getElem_cons_zero, List.getElem_cons_succ]
          refine wpAnyIn_take (i := 15) (v := undef) rfl rfl (by kernel_rfl) (by kernel_rfl) (by kernel_rfl) (fun _ _ _ h => h) ⟨Or.inr ⟨by kernel_rfl, rfl⟩, fun _ => rfl⟩ ?_
          try simp only [Act.put, List.setIfInBounds_toArray, List.set_cons_zero, List.set_cons_succ, List.getElem_toArray, List.getElem_cons_zero, List.getElem_cons_succ]
          refine wpAnyIn_take (i := 16) (v := undef) rfl rfl (by kernel_rfl) (by kernel_rfl) (by kernel_rfl) (fun _ _ _ h => h) ⟨Or.inr ⟨by kernel_rfl, rfl⟩, fun _ => rfl⟩ ?_
          try simp only [Act.put, List.setIfInBounds_toArray, List.set_cons_zero, List.set_cons_succ, List.getElem_toArray, List.getElem_cons_zero, List.getElem_cons_succ]
          refine wpAnyIn_take (i := 17) (v := undef) rfl rfl (by kernel_rfl) (by kernel_rfl) (by kernel_rfl) (fun _ _ _ h => h) ⟨Or.inr ⟨by kernel_rfl, rfl⟩, fun _ => rfl⟩ ?_
          try simp only [Act.put, List.setIfInBounds_toArray, List.set_cons_zero, List.set_cons_succ, List.getElem_toArray, List.getElem_cons_zero, List.getElem_cons_succ]
          refine wpAnyIn_take (i := 20) (v := undef) rfl rfl (by kernel_rfl) (by kernel_rfl) (by kernel_rfl) (fun _ _ _ h => h) ⟨Or.inr ⟨by kernel_rfl, rfl⟩, fun _ => rfl⟩ ?_
          try simp only [Act.put, List.setIfInBounds_toArray, List.set_cons_zero, List.set_cons_succ, List.getElem_toArray, List.getElem_cons_zero, List.getElem_cons_succ]
          refine wpAnyIn_take (i := 21) (v := undef) rfl rfl (by kernel_rfl) (by kernel_rfl) (by kernel_rfl) (fun _ _ _ h => h) ⟨Or.inr ⟨by kernel_rfl, rfl⟩, fun _ => rfl⟩ ?_
          try simp only [Act.put, List.setIfInBounds_toArray, List.set_cons_zero, List.set_cons_succ, List.getElem_toArray, List.getElem_cons_zero, List.getElem_cons_succ]
          refine wpAnyIn_take (i := 18) (v := undef) rfl rfl (by kernel_rfl) (by kernel_rfl) (by kernel_rfl) (fun _ _ _ h => h) ⟨Or.inr ⟨by kernel_rfl, rfl⟩, fun _ => rfl⟩ ?_
          try simp only [Act.put, List.setIfInBounds_toArray, List.set_cons_zero, List.set_cons_succ, List.getElem_toArray, List.getElem_cons_zero, List.getElem_cons_succ]
          refine wpAnyIn_take (i := 19) (v := undef) rfl rfl (by kernel_rfl) (by kernel_rfl) (by kernel_rfl) (fun _ _ _ h => h) ⟨Or.inr ⟨by kernel_rfl, rfl⟩, fun _ => rfl⟩ ?_
          try simp only [Act.put, List.setIfInBounds_toArray, List.set_cons_zero, List.set_cons_succ, List.getElem_toArray, List.getElem_cons_zero, List.getElem_cons_succ]
          refine wpAnyIn_take (i := 22) (v := undef) rfl rfl (by kernel_rfl) (by kernel_rfl) (by kernel_rfl) (fun _ _ _ h => h) ⟨Or.inr ⟨by kernel_rfl, rfl⟩, fun _ => rfl⟩ ?_
          try simp only [Act.put, List.setIfInBounds_toArray, List.set_cons_zero, List.set_cons_succ, List.getElem_toArray, List.getElem_cons_zero, List.getElem_cons_succ]
          refine wpAnyIn_take (i := 23) (v := undef) rfl rfl (by kernel_rfl) (by kernel_rfl) (by kernel_rfl) (fun _ _ _ h => h) ⟨Or.inr ⟨by kernel_rfl, rfl⟩, fun _ => rfl⟩ ?_
          try simp only [Act.put, List.setIfInBounds_toArray, List.set_cons_zero, List.set_cons_succ, List.getElem_toArray, List.getElem_cons_zero, List.getElem_cons_succ]
          refine wpAnyIn_ready (rs := [24]) (by kernel_rfl) (by simp) ?_
          refine AllReadyIn.cons rfl (fun K hK => ?_) AllReadyIn.nil
          go_simp
          refine hK _ _ ?_
          clear hK K
          refine wpAnyIn_take (i := 25) (v := undef) rfl rfl (by kernel_rfl) (by kernel_rfl) (by kernel_rfl) (fun _ _ _ h => h) ⟨Or.inr ⟨by kernel_rfl, rfl⟩, fun _ => rfl⟩ ?_
          try simp only [Act.put, List.setIfInBounds_toArray, List.set_cons_zero, List.set_cons_succ, List.getElem_toArray, List.getElem_cons_zero, List.getElem_cons_succ]
          refine wpAnyIn_take (i := 26) (v := undef) rfl rfl (by kernel_rfl) (by kernel_rfl) (by kernel_rfl) (fun _ _ _ h => h) ⟨Or.inr ⟨by kernel_rfl, rfl⟩, fun _ => rfl⟩ ?_
          try simp only [Act.put, List.setIfInBounds_toArray, List.set_cons_zero, List.set_cons_succ, List.getElem_toArray, List.getElem_cons_zero, List.getElem_cons_succ]
          refine wpAnyIn_take (i := 27) (v := ?_) rfl rfl (by kernel_rfl) (by kernel_rfl) (by kernel_rfl) (fun _ _ _ h => h) ⟨Or.inl ⟨by kernel_rfl, ?_⟩, fun _ => rfl⟩ ?_
          case refine_2 => (intro w; go_simp <;> with_reducible rfl)
          try simp only [Act.put, List.setIfInBounds_toArray, List.set_cons_zero, List.set_cons_succ, List.getElem_toArray, List.getElem_cons_zero, List.getElem_cons_succ]
          refine wpAnyIn_take (i := 28) (v := ?_) rfl rfl (by kernel_rfl) (by kernel_rfl) (by kernel_rfl) (fun _ _ _ h => h) ⟨Or.inl ⟨by kernel_rfl, ?_⟩, fun _ => rfl⟩ ?_
          case refine_2 => (intro w; go_simp <;> with_reducible rfl)
          try simp only [Act.put, List.setIfInBounds_toArray, List.set_cons_zero, List.set_cons_succ, List.getElem_toArray, List.getElem_cons_zero, List.getElem_cons_succ]
          refine wpAnyIn_take (i := 29) (v := undef) rfl rfl (by kernel_rfl) (by kernel_rfl) (by kernel_rfl) (fun _ _ _ h => h) ⟨Or.inr ⟨by kernel_rfl, rfl⟩, fun _ => rfl⟩ ?_
          try simp only [Act.put, List.setIfInBounds_toArray, List.set_cons_zero, List.set_cons_succ, List.getElem_toArray, List.getElem_cons_zero, List.getElem_cons_succ]
          refine wpAnyIn_take (i := 30) (v := undef) rfl rfl (by kernel_rfl) (by kernel_rfl) (by kernel_rfl) (fun _ _ _ h => h) ⟨Or.inr ⟨by kernel_rfl, rfl⟩, fun _ => rfl⟩ ?_
          try simp only [Act.put, List.setIfInBounds_toArray, List.set_cons_zero, List.set_cons_succ, List.getElem_toArray, List.getElem_cons_zero, List.getElem_cons_succ]
          refine wpAnyIn_take (i := 31) (v := undef) rfl rfl (by kernel_rfl) (by kernel_rfl) (by kernel_rfl) (fun _ _ _ h => h) ⟨Or.inr ⟨by kernel_rfl, rfl⟩, fun _ => rfl⟩ ?_
          try simp only [Act.put, List.setIfInBounds_toArray, List.set_cons_zero, List.set_cons_succ, List.getElem_toArray, List.getElem_cons_zero, List.getElem_cons_succ]
          refine wpAnyIn_ready (rs := [32]) (by kernel_rfl) (by simp) ?_
          refine AllReadyIn.cons rfl (fun K hK => ?_) AllReadyIn.nil
          go_simp
          refine hK _ _ ?_
          clear hK K
          refine wpAnyIn_take (i := 33) (v := undef) rfl rfl (by kernel_rfl) (by kernel_rfl) (by kernel_rfl) (fun _ _ _ h => h) ⟨Or.inr ⟨by kernel_rfl, rfl⟩, fun _ => rfl⟩ ?_
          try simp only [Act.put, List.setIfInBounds_toArray, List.set_cons_zero, List.set_cons_succ, List.getElem_toArray, List.getElem_cons_zero, List.getElem_cons_succ]
          refine wpAnyIn_take (i := 34) (v := ?_) rfl rfl (by kernel_rfl) (by kernel_rfl) (by kernel_rfl) (fun _ _ _ h => h) ⟨Or.inl ⟨by kernel_rfl, ?_⟩, fun _ => rfl⟩ ?_
          case refine_2 => (intro w; go_simp <;> with_reducible rfl)
          try simp only [Act.put, List.setIfInBounds_toArray, List.set_cons_zero, List.set_cons_succ, List.getElem_toArray, List.getElem_cons_zero, List.getElem_cons_succ]
          refine wpAnyIn_done (by kernel_rfl) ?_ _
          gi_wp2
          refine bodyPost_ret (results_none rfl _ _ _) rfl ?_
          exact ⟨⟨_, rfl⟩, .inl ⟨k, by omega, HI.out.2.2.2.2, fun _ => HO.out, HJ.out _ _ _ none (HJ.out _ _ _ none HI.out.1 (grown_of_below (alloc_drew_below _ _) none) (fun r e => by cases e)) (grown_of_below HB2.out none) (fun r e => by cases e)⟩⟩
        | true =>
          rw [v] at HV
          by_cases g2 : x.f1 = (k : Int) + 1
          rotate_left
          · have HO : Aside0 (okAt xs k = false) := ⟨by unfold okAt; rw [← HX.out, v, decide_eq_true g1, decide_eq_false g2]; rfl⟩
            have g2b : (x.f1 != (k : Int) + 1) = true := bne_iff_ne.mpr g2
            clear v g1 g2
            gi_wp2
            refine wpIn_region_any (by kernel_rfl) ?_
            change wpAnyIn _ _ _ _ _ _ _ _ _ (World.drew _)
            refine wpAnyIn_take (i := 0) (v := ?_) rfl rfl (by kernel_rfl) (by kernel_rfl) (by kernel_rfl) (fun _ _ _ h => h) ⟨Or.inl ⟨by kernel_rfl, ?_⟩, fun _ => rfl⟩ ?_
            case refine_2 => (intro w; go_simp <;> with_reducible rfl)
            try simp only [Act.put, List.setIfInBounds_toArray, List.set_cons_zero, List.set_cons_succ, List.getElem_toArray, List.getElem_cons_zero, List.getElem_cons_succ]
            refine wpAnyIn_take (i := 1) (v := ?_) rfl rfl (by kernel_rfl) (by kernel_rfl) (by kernel_rfl) (fun _ _ _ h => h) ⟨Or.inl ⟨by kernel_rfl, ?_⟩, fun _ => rfl⟩ ?_
            case refine_2 => (intro w; go_simp <;> with_reducible rfl)
            try simp only [Act.put, List.setIfInBounds_toArray, List.set_cons_zero, List.set_cons_succ, List.getElem_toArray, List.getElem_cons_zero, List.getElem_cons_succ]
            refine wpAnyIn_take (i := 2) (v := ?_) rfl rfl (by kernel_rfl) (by kernel_rfl) (by kernel_rfl) (fun _ _ _ h => h) ⟨Or.inl ⟨by kernel_rfl, ?_⟩, fun _ => rfl⟩ ?_
            case refine_2 => (intro w; go_simp <;> with_reducible rfl)
            try simp only [Act.put, List.setIfInBounds_toArray, List.set_cons_zero, List.set_cons_succ, List.getElem_toArray, List.getElem_cons_zero, List.getElem_cons_succ]
            refine wpAnyIn_ready (rs := [3]) (by kernel_rfl) (by simp) ?_
            refine AllReadyIn.cons rfl (fun K hK => ?_) AllReadyIn.nil
            go_simp
            refine hK _ _ ?_
            clear hK K
            refine wpAnyIn_ready (rs := [4]) (by kernel_rfl) (by simp) ?_
            refine AllReadyIn.cons rfl (fun K hK => ?_) AllReadyIn.nil
            go_simp
            gi_wp2_with (gi_at_call 45; refine (callsIn_wide.2 (chain_valid.calls _ _ _ _ _ true _ HV.out)).mono ?_; rintro e w2 ⟨rfl, hb2⟩; have hk2 := (hb2.block wr.heap.size (by simp)).trans (heap_alloc_new wr _); have z0 : w2.cell? ⟨wr.heap.size, 0, none⟩ = some (.int .i64 x.f0) := (blk_cell hk2 0).trans rfl; have z1 : w2.cell? ⟨wr.heap.size, 1, none⟩ = some (.int .i64 x.f1) := (blk_cell hk2 1).trans rfl; have z2 : w2.cell? ⟨wr.heap.size, 2, none⟩ = some (.int .i64 x.f2) := (blk_cell hk2 2).trans rfl; have z3 : w2.cell? ⟨wr.heap.size, 3, none⟩ = some (.int .i64 x.f3) := (blk_cell hk2 3).trans rfl; have z4 : w2.cell? ⟨wr.heap.size, 4, none⟩ = some (.int .u64 x.f4) := (blk_cell hk2 4).trans rfl; have HB2 := Aside0.mk hb2; clear hb2)
            refine wpAnyIn_take (i := 5) (v := ?_) rfl rfl (by kernel_rfl) (by kernel_rfl) (by kernel_rfl) (fun _ _ _ h => h) ⟨Or.inl ⟨by kernel_rfl, ?_⟩, fun _ => rfl⟩ ?_
            case refine_2 => (intro w; go_simp <;> with_reducible rfl)
            try simp only [Act.put, List.setIfInBounds_toArray, List.set_cons_zero, List.set_cons_succ, List.getElem_toArray, List.getElem_cons_zero, List.getElem_cons_succ]
            refine wpAnyIn_take (i := 6) (v := ?_) rfl rfl (by kernel_rfl) (by kernel_rfl) (by kernel_rfl) (fun _ _ _ h => h) ⟨Or.inl ⟨by kernel_rfl, ?_⟩, fun _ => rfl⟩ ?_
            case refine_2 => (intro w; go_simp <;> with_reducible rfl)
            try simp only [Act.put, List.setIfInBounds_toArray, List.set_cons_zero, List.set_cons_succ, List.getElem_toArray, List.getElem_cons_zero, List.getElem_cons_succ]
            refine wpAnyIn_take (i := 7) (v := ?_) rfl rfl (by kernel_rfl) (by kernel_rfl) (by kernel_rfl) (fun _ _ _ h => h) ⟨Or.inl ⟨by kernel_rfl, ?_⟩, fun _ => rfl⟩ ?_
            case refine_2 => (intro w; go_simp <;> with_reducible rfl)
            try simp only [Act.put, List.setIfInBounds_toArray, List.set_cons_zero, List.set_cons_succ, List.getElem_toArray, List.getElem_cons_zero, List.getElem_cons_succ]
            refine wpAnyIn_take (i := 8) (v := ?_) rfl rfl (by kernel_rfl) (by kernel_rfl) (by kernel_rfl) (fun _ _ _ h => h) ⟨Or.inl ⟨by kernel_rfl, ?_⟩, fun _ => rfl⟩ ?_
            case refine_2 => (intro w; go_simp <;> with_reducible rfl)
            try simp only [Act.put, List.setIfInBounds_toArray, List.set_cons_zero, List.set_cons_succ, List.getElem_toArray, List.getElem_cons_zero, List.getElem_cons_succ]
            refine wpAnyIn_take (i := 10) (v := ?_) rfl rfl (by kernel_rfl) (by kernel_rfl) (by kernel_rfl) (fun _ _ _ h => h) ⟨Or.inl ⟨by kernel_rfl, ?_⟩, fun _ => rfl⟩ ?_
            case refine_2 => (intro w; go_simp <;> with_reducible rfl)
            try simp only [Act.put, List.setIfInBounds_toArray, List.set_cons_zero, List.set_cons_succ, List.getElem_toArray, List.getElem_cons_zero, List.getElem_cons_succ]
            refine wpAnyIn_take (i := 11) (v := ?_) rfl rfl (by kernel_rfl) (by kernel_rfl) (by kernel_rfl) (fun _ _ _ h => h) ⟨Or.inl ⟨by kernel_rfl, ?_⟩, fun _ => rfl⟩ ?_
            case refine_2 => (intro w; go_simp <;> with_reducible rfl)
            try simp only [Act.put, List.setIfInBounds_toArray, List.set_cons_zero, List.set_cons_succ, List.getElem_toArray, List.getElem_cons_zero, List.getElem_cons_succ]
            refine wpAnyIn_ready (rs := [9]) (by kernel_rfl) (by simp) ?_
            refine AllReadyIn.cons rfl (fun K hK => ?_) AllReadyIn.nil
            go_simp
            refine hK _ _ ?_
            clear hK K
            refine wpAnyIn_take (i := 12) (v := ?_) rfl rfl (by kernel_rfl) (by kernel_rfl) (by kernel_rfl) (fun _ _ _ h => h) ⟨Or.inl ⟨by kernel_rfl, ?_⟩, fun _ => rfl⟩ ?_
            case refine_2 => (intro w; go_simp <;> with_reducible rfl)
            try simp only [Act.put, List.setIfInBounds_toArray, List.set_cons_zero, List.set_cons_succ, List.getElem_toArray, List.getElem_cons_zero, List.getElem_cons_succ]
            refine wpAnyIn_take (i := 13) (v := ?_) rfl rfl (by kernel_rfl) (by kernel_rfl) (by kernel_rfl) (fun _ _ _ h => h) ⟨Or.inl ⟨by kernel_rfl, ?_⟩, fun _ => rfl⟩ ?_
            case refine_2 => (intro w; go_simp <;> with_reducible rfl)
            try simp only [Act.put, List.setIfInBounds_toArray, List.set_cons_zero, List.set_cons_succ, List.getElem_toArray, List.getElem_cons_zero, List.getElem_cons_succ]
            refine wpAnyIn_take (i := 14) (v := ?_) rfl rfl (by kernel_rfl) (by kernel_rfl) (by kernel_rfl) (fun _ _ _ h => h) ⟨Or.inl ⟨by kernel_rfl, ?_⟩, fun _ => rfl⟩ ?_
            case refine_2 => (intro w; go_simp <;> with_reducible rfl)
            try simp only [Act.put, List.setIfInBounds_toArray, List.set_cons_zero, List.set_cons_succ, List.getElem_toArray, List.getElem_cons_zero, List.getElem_cons_succ]
            refine wpAnyIn_take (i := 15) (v := undef) rfl rfl (by kernel_rfl) (by kernel_rfl) (by kernel_rfl) (fun _ _ _ h => h) ⟨Or.inr ⟨by kernel_rfl, rfl⟩, fun _ => rfl⟩ ?_
            try simp only [Act.put, List.setIfInBounds_toArray, List.set_cons_zero, List.set_cons_succ, List.getElem_toArray, List.getElem_cons_zero, List.getElem_cons_succ]
            refine wpAnyIn_take (i := 16) (v := undef) rfl rfl (by kernel_rfl) (by kernel_rfl) (by kernel_rfl) (fun _ _ _ h => h) ⟨Or.inr ⟨by kernel_rfl, rfl⟩, fun _ => rfl⟩ ?_
            try simp only [Act.put, List.setIfInBounds_toArray, List.set_cons_zero, List.set_cons_succ, List.getElem_toArray, List.getElem_cons_zero, List.getElem_cons_succ]
            refine wpAnyIn_take (i := 17) (v := undef) rfl rfl (by kernel_rfl) (by kernel_rfl) (by kernel_rfl) (fun _ _ _ h => h) ⟨Or.inr ⟨by kernel_rfl, rfl⟩, fun _ => rfl⟩ ?_
            try simp only [Act.put, List.setIfInBounds_toArray, List.set_cons_zero, List.set_cons_succ, List.getElem_toArray, List.getElem_cons_zero, List.getElem_cons_succ]
            refine wpAnyIn_take (i := 20) (v := undef) rfl rfl (by kernel_rfl) (by kernel_rfl) (by kernel_rfl) (fun _ _ _ h => h) ⟨Or.inr ⟨by kernel_rfl, rfl⟩, fun _ => rfl⟩ ?_
            try simp only [Act.put, List.setIfInBounds_toArray, List.set_cons_zero, List.set_cons_succ, List.getElem_toArray, List.getElem_cons_zero, List.getElem_cons_succ]
            refine wpAnyIn_take (i := 21) (v := undef) rfl rfl (by kernel_rfl) (by kernel_rfl) (by kernel_rfl) (fun _ _ _ h => h) ⟨Or.inr ⟨by kernel_rfl, rfl⟩, fun _ => rfl⟩ ?_
            try simp only [Act.put, List.setIfInBounds_toArray, List.set_cons_zero, List.set_cons_succ, List.getElem_toArray, List.getElem_cons_zero, List.getElem_cons_succ]
            refine wpAnyIn_take (i := 18) (v := undef) rfl rfl (by kernel_rfl) (by kernel_rfl) (by kernel_rfl) (fun _ _ _ h => h) ⟨Or.inr ⟨by kernel_rfl, rfl⟩, fun _ => rfl⟩ ?_
            try simp only [Act.put, List.setIfInBounds_toArray, List.set_cons_zero, List.set_cons_succ, List.getElem_toArray, List.getElem_cons_zero, List.getElem_cons_succ]
            refine wpAnyIn_take (i := 19) (v := undef) rfl rfl (by kernel_rfl) (by kernel_rfl) (by kernel_rfl) (fun _ _ _ h => h) ⟨Or.inr ⟨by kernel_rfl, rfl⟩, fun _ => rfl⟩ ?_
            try simp only [Act.put, List.setIfInBounds_toArray, List.set_cons_zero, List.set_cons_succ, List.getElem_toArray, List.getElem_cons_zero, List.getElem_cons_succ]
            refine wpAnyIn_take (i := 22) (v := undef) rfl rfl (by kernel_rfl) (by kernel_rfl) (by kernel_rfl) (fun _ _ _ h => h) ⟨Or.inr ⟨by kernel_rfl, rfl⟩, fun _ => rfl⟩ ?_
            try simp only [Act.put, List.setIfInBounds_toArray, List.set_cons_zero, List.set_cons_succ, List.getElem_toArray, List.getElem_cons_zero, List.getElem_cons_succ]
            refine wpAnyIn_take (i := 23) (v := undef) rfl rfl (by kernel_rfl) (by kernel_rfl) (by kernel_rfl) (fun _ _ _ h => h) ⟨Or.inr ⟨by kernel_rfl, rfl⟩, fun _ => rfl⟩ ?_
            try simp only [Act.put, List.setIfInBounds_toArray, List.set_cons_zero, List.set_cons_succ, List.getElem_toArray, List.getElem_cons_zero, List.getElem_cons_succ]
            refine wpAnyIn_ready (rs := [24]) (by kernel_rfl) (by simp) ?_
            refine AllReadyIn.cons rfl (fun K hK => ?_) AllReadyIn.nil
            go_simp
            refine hK _ _ ?_
            clear hK K
            refine wpAnyIn_take (i := 25) (v := undef) rfl rfl (by kernel_rfl) (by kernel_rfl) (by kernel_rfl) (fun _ _ _ h => h) ⟨Or.inr ⟨by kernel_rfl, rfl⟩, fun _ => rfl⟩ ?_
            try simp only [Act.put, List.setIfInBounds_toArray, List.set_cons_zero, List.set_cons_succ, List.getElem_toArray, List.getElem_cons_zero, List.getElem_cons_succ]
            refine wpAnyIn_take (i := 26) (v := undef) rfl rfl (by kernel_rfl) (by kernel_rfl) (by kernel_rfl) (fun _ _ _ h => h) ⟨Or.inr ⟨by kernel_rfl, rfl⟩, fun _ => rfl⟩ ?_
            try simp only [Act.put, List.setIfInBounds_toArray, List.set_cons_zero, List.set_cons_succ, List.getElem_toArray, List.getElem_cons_zero, List.getElem_cons_succ]
            refine wpAnyIn_take (i := 27) (v := ?_) rfl rfl (by kernel_rfl) (by kernel_rfl) (by kernel_rfl) (fun _ _ _ h => h) ⟨Or.inl ⟨by kernel_rfl, ?_⟩, fun _ => rfl⟩ ?_
            case refine_2 => (intro w; go_simp <;> with_reducible rfl)
            try simp only [Act.put, List.setIfInBounds_toArray, List.set_cons_zero, List.set_cons_succ, List.getElem_toArray, List.getElem_cons_zero, List.getElem_cons_succ]
            refine wpAnyIn_take (i := 28) (v := ?_) rfl rfl (by kernel_rfl) (by kernel_rfl) (by kernel_rfl) (fun _ _ _ h => h) ⟨Or.inl ⟨by kernel_rfl, ?_⟩, fun _ => rfl⟩ ?_
            case refine_2 => (intro w; go_simp <;> with_reducible rfl)
            try simp only [Act.put, List.setIfInBounds_toArray, List.set_cons_zero, List.set_cons_succ, List.getElem_toArray, List.getElem_cons_zero, List.getElem_cons_succ]
            refine wpAnyIn_take (i := 29) (v := undef) rfl rfl (by kernel_rfl) (by kernel_rfl) (by kernel_rfl) (fun _ _ _ h => h) ⟨Or.inr ⟨by kernel_rfl, rfl⟩, fun _ => rfl⟩ ?_
            try simp only [Act.put, List.setIfInBounds_toArray, List.set_cons_zero, List.set_cons_succ, List.getElem_toArray, List.getElem_cons_zero, List.getElem_cons_succ]
            refine wpAnyIn_take (i := 30) (v := undef) rfl rfl (by kernel_rfl) (by kernel_rfl) (by kernel_rfl) (fun _ _ _ h => h) ⟨Or.inr ⟨by kernel_rfl, rfl⟩, fun _ => rfl⟩ ?_
            try simp only [Act.put, List.setIfInBounds_toArray, List.set_cons_zero, List.set_cons_succ, List.getElem_toArray, List.getElem_cons_zero, List.getElem_cons_succ]
            refine wpAnyIn_take (i := 31) (v := undef) rfl rfl (by kernel_rfl) (by kernel_rfl) (by kernel_rfl) (fun _ _ _ h => h) ⟨Or.inr ⟨by kernel_rfl, rfl⟩, fun _ => rfl⟩ ?_
            try simp only [Act.put, List.setIfInBounds_toArray, List.set_cons_zero, List.set_cons_succ, List.getElem_toArray, List.getElem_cons_zero, List.getElem_cons_succ]
            refine wpAnyIn_ready (rs := [32]) (by kernel_rfl) (by simp) ?_
            refine AllReadyIn.cons rfl (fun K hK => ?_) AllReadyIn.nil
            go_simp
            refine hK _ _ ?_
            clear hK K
            refine wpAnyIn_take (i := 33) (v := undef) rfl rfl (by kernel_rfl) (by kernel_rfl) (by kernel_rfl) (fun _ _ _ h => h) ⟨Or.inr ⟨by kernel_rfl, rfl⟩, fun _ => rfl⟩ ?_
            try simp only [Act.put, List.setIfInBounds_toArray, List.set_cons_zero, List.set_cons_succ, List.getElem_toArray, List.getElem_cons_zero, List.getElem_cons_succ]
            refine wpAnyIn_take (i := 34) (v := ?_) rfl rfl (by kernel_rfl) (by kernel_rfl) (by kernel_rfl) (fun _ _ _ h => h) ⟨Or.inl ⟨by kernel_rfl, ?_⟩, fun _ => rfl⟩ ?_
            case refine_2 => (intro w; go_simp <;> with_reducible rfl)
            try simp only [Act.put, List.setIfInBounds_toArray, List.set_cons_zero, List.set_cons_succ, List.getElem_toArray, List.getElem_cons_zero, List.getElem_cons_succ]
            refine wpAnyIn_done (by kernel_rfl) ?_ _
            gi_wp2
            refine bodyPost_ret (results_none rfl _ _ _) rfl ?_
            exact ⟨⟨_, rfl⟩, .inl ⟨k, by omega, HI.out.2.2.2.2, fun _ => HO.out, HJ.out _ _ _ none (HJ.out _ _ _ none HI.out.1 (grown_of_below (alloc_drew_below _ _) none) (fun r e => by cases e)) (grown_of_below HB2.out none) (fun r e => by cases e)⟩⟩
          · have g2b : (x.f1 != (k : Int) + 1) = false := bne_eq_false_iff_eq.mpr g2
            by_cases g3 : k = 0
            · have HO : Aside0 (okAt xs k = true) := ⟨by unfold okAt; rw [← HX.out, v, decide_eq_true g1, decide_eq_true g2, decide_eq_true g3]; rfl⟩
              have g3b : decide (0 < (k : Int)) = false := decide_eq_false (by omega)
              have g3c : decide (0 < k) = false := decide_eq_false (by omega)
              have G3 := Aside0.mk g3
              clear v g1 g2 g3
              gi_wp2
              refine wpIn_region_any (by kernel_rfl) ?_
              change wpAnyIn _ _ _ _ _ _ _ _ _ (World.drew _)
              refine wpAnyIn_take (i := 0) (v := ?_) rfl rfl (by kernel_rfl) (by kernel_rfl) (by kernel_rfl) (fun _ _ _ h => h) ⟨Or.inl ⟨by kernel_rfl, ?_⟩, fun _ => rfl⟩ ?_
              case refine_2 => (intro w; go_simp <;> with_reducible rfl)
              try simp only [Act.put, List.setIfInBounds_toArray, List.set_cons_zero, List.set_cons_succ, List.getElem_toArray, List.getElem_cons_zero, List.getElem_cons_succ]
              refine wpAnyIn_take (i := 1) (v := ?_) rfl rfl (by kernel_rfl) (by kernel_rfl) (by kernel_rfl) (fun _ _ _ h => h) ⟨Or.inl ⟨by kernel_rfl, ?_⟩, fun _ => rfl⟩ ?_
              case refine_2 => (intro w; go_simp <;> with_reducible rfl)
              try simp only [Act.put, List.setIfInBounds_toArray, List.set_cons_zero, List.set_cons_succ, List.getElem_toArray, List.getElem_cons_zero, List.getElem_cons_succ]
              refine wpAnyIn_take (i := 2) (v := ?_) rfl rfl (by kernel_rfl) (by kernel_rfl) (by kernel_rfl) (fun _ _ _ h => h) ⟨Or.inl ⟨by kernel_rfl, ?_⟩, fun _ => rfl⟩ ?_
              case refine_2 => (intro w; go_simp <;> with_reducible rfl)
              try simp only [Act.put, List.setIfInBounds_toArray, List.set_cons_zero, List.set_cons_succ, List.getElem_toArray, List.getElem_cons_zero, List.getElem_cons_succ]
              refine wpAnyIn_ready (rs := [3]) (by kernel_rfl) (by simp) ?_
              refine AllReadyIn.cons rfl (fun K hK => ?_) AllReadyIn.nil
              go_simp
              refine hK _ _ ?_
              clear hK K
              refine wpAnyIn_ready (rs := [4]) (by kernel_rfl) (by simp) ?_
              refine AllReadyIn.cons rfl (fun K hK => ?_) AllReadyIn.nil
              go_simp
              gi_wp2_with (gi_at_call 45; refine (callsIn_wide.2 (chain_valid.calls _ _ _ _ _ true _ HV.out)).mono ?_; rintro e w2 ⟨rfl, hb2⟩; have hk2 := (hb2.block wr.heap.size (by simp)).trans (heap_alloc_new wr _); have z0 : w2.cell? ⟨wr.heap.size, 0, none⟩ = some (.int .i64 x.f0) := (blk_cell hk2 0).trans rfl; have z1 : w2.cell? ⟨wr.heap.size, 1, none⟩ = some (.int .i64 x.f1) := (blk_cell hk2 1).trans rfl; have z2 : w2.cell? ⟨wr.heap.size, 2, none⟩ = some (.int .i64 x.f2) := (blk_cell hk2 2).trans rfl; have z3 : w2.cell? ⟨wr.heap.size, 3, none⟩ = some (.int .i64 x.f3) := (blk_cell hk2 3).trans rfl; have z4 : w2.cell? ⟨wr.heap.size, 4, none⟩ = some (.int .u64 x.f4) := (blk_cell hk2 4).trans rfl; have hj2 := HJ.out _ _ _ none (HJ.out _ _ _ none HI.out.1 (grown_of_below (alloc_drew_below _ _) none) (fun r e => by cases e)) (grown_of_below hb2 none) (fun r e => by cases e); obtain ⟨fn, tmps, assign, body, hy, hR⟩ := HY.out k w2 HLT.out (fun j hj => (Nat.lt_or_eq_of_le hj).elim (HI.out.2.2.2.2 j) (fun e => e ▸ HO.out)) hj2; dsimp only [encR, rdN] at hy; rw [← HX.out] at hy; have HJ2 := Aside0.mk hj2; clear hj2; have HBW := Aside0.mk ((alloc_drew_below wr _).trans (hb2.mono (by simp))); have HB2 := Aside0.mk hb2; clear hb2; have HK2 := Aside0.mk hk2; clear hk2)
              refine wpAnyIn_take (i := 5) (v := ?_) rfl rfl (by kernel_rfl) (by kernel_rfl) (by kernel_rfl) (fun _ _ _ h => h) ⟨Or.inl ⟨by kernel_rfl, ?_⟩, fun _ => rfl⟩ ?_
              case refine_2 => (intro w; go_simp <;> with_reducible rfl)
              try simp only [Act.put, List.setIfInBounds_toArray, List.set_cons_zero, List.set_cons_succ, List.getElem_toArray, List.getElem_cons_zero, List.getElem_cons_succ]
              refine wpAnyIn_take (i := 6) (v := ?_) rfl rfl (by kernel_rfl) (by kernel_rfl) (by kernel_rfl) (fun _ _ _ h => h) ⟨Or.inl ⟨by kernel_rfl, ?_⟩, fun _ => rfl⟩ ?_
              case refine_2 => (intro w; go_simp <;> with_reducible rfl)
              try simp only [Act.put, List.setIfInBounds_toArray, List.set_cons_zero, List.set_cons_succ, List.getElem_toArray, List.getElem_cons_zero, List.getElem_cons_succ]
              refine wpAnyIn_take (i := 7) (v := ?_) rfl rfl (by kernel_rfl) (by kernel_rfl) (by kernel_rfl) (fun _ _ _ h => h) ⟨Or.inl ⟨by kernel_rfl, ?_⟩, fun _ => rfl⟩ ?_
              case refine_2 => (intro w; go_simp <;> with_reducible rfl)
              try simp only [Act.put, List.setIfInBounds_toArray, List.set_cons_zero, List.set_cons_succ, List.getElem_toArray, List.getElem_cons_zero, List.getElem_cons_succ]
              refine wpAnyIn_take (i := 8) (v := ?_) rfl rfl (by kernel_rfl) (by kernel_rfl) (by kernel_rfl) (fun _ _ _ h => h) ⟨Or.inl ⟨by kernel_rfl, ?_⟩, fun _ => rfl⟩ ?_
              case refine_2 => (intro w; go_simp <;> with_reducible rfl)
              try simp only [Act.put, List.setIfInBounds_toArray, List.set_cons_zero, List.set_cons_succ, List.getElem_toArray, List.getElem_cons_zero, List.getElem_cons_succ]
              refine wpAnyIn_take (i := 10) (v := ?_) rfl rfl (by kernel_rfl) (by kernel_rfl) (by kernel_rfl) (fun _ _ _ h => h) ⟨Or.inl ⟨by kernel_rfl, ?_⟩, fun _ => rfl⟩ ?_
              case refine_2 => (intro w; go_simp <;> with_reducible rfl)
              try simp only [Act.put, List.setIfInBounds_toArray, List.set_cons_zero, List.set_cons_succ, List.getElem_toArray, List.getElem_cons_zero, List.getElem_cons_succ]
              refine wpAnyIn_take (i := 11) (v := ?_) rfl rfl (by kernel_rfl) (by kernel_rfl) (by kernel_rfl) (fun _ _ _ h => h) ⟨Or.inl ⟨by kernel_rfl, ?_⟩, fun _ => rfl⟩ ?_
              case refine_2 => (intro w; go_simp <;> with_reducible rfl)
              try simp only [Act.put, List.setIfInBounds_toArray, List.set_cons_zero, List.set_cons_succ, List.getElem_toArray, List.getElem_cons_zero, List.getElem_cons_succ]
              refine wpAnyIn_ready (rs := [9]) (by kernel_rfl) (by simp) ?_
              refine AllReadyIn.cons rfl (fun K hK => ?_) AllReadyIn.nil
              go_simp
              refine hK _ _ ?_
              clear hK K
              refine wpAnyIn_take (i := 12) (v := ?_) rfl rfl (by kernel_rfl) (by kernel_rfl) (by kernel_rfl) (fun _ _ _ h => h) ⟨Or.inl ⟨by kernel_rfl, ?_⟩, fun _ => rfl⟩ ?_
              case refine_2 => (intro w; go_simp <;> with_reducible rfl)
              try simp only [Act.put, List.setIfInBounds_toArray, List.set_cons_zero, List.set_cons_succ, List.getElem_toArray, List.getElem_cons_zero, List.getElem_cons_succ]
              refine wpAnyIn_take (i := 13) (v := ?_) rfl rfl (by kernel_rfl) (by kernel_rfl) (by kernel_rfl) (fun _ _ _ h => h) ⟨Or.inl ⟨by kernel_rfl, ?_⟩, fun _ => rfl⟩ ?_
              case refine_2 => (intro w; go_simp <;> with_reducible rfl)
              try simp only [Act.put, List.setIfInBounds_toArray, List.set_cons_zero, List.set_cons_succ, List.getElem_toArray, List.getElem_cons_zero, List.getElem_cons_succ]
              refine wpAnyIn_take (i := 14) (v := ?_) rfl rfl (by kernel_rfl) (by kernel_rfl) (by kernel_rfl) (fun _ _ _ h => h) ⟨Or.inl ⟨by kernel_rfl, ?_⟩, fun _ => rfl⟩ ?_
              case refine_2 => (intro w; go_simp <;> with_reducible rfl)
              try simp only [Act.put, List.setIfInBounds_toArray, List.set_cons_zero, List.set_cons_succ, List.getElem_toArray, List.getElem_cons_zero, List.getElem_cons_succ]
              refine wpAnyIn_take (i := 15) (v := ?_) rfl rfl (by kernel_rfl) (by kernel_rfl) (by kernel_rfl) (fun _ _ _ h => h) ⟨Or.inl ⟨by kernel_rfl, ?_⟩, fun _ => rfl⟩ ?_
              case refine_2 => (intro w; go_simp <;> with_reducible rfl)
              try simp only [Act.put, List.setIfInBounds_toArray, List.set_cons_zero, List.set_cons_succ, List.getElem_toArray, List.getElem_cons_zero, List.getElem_cons_succ]
              refine wpAnyIn_take (i := 16) (v := ?_) rfl rfl (by kernel_rfl) (by kernel_rfl) (by kernel_rfl) (fun _ _ _ h => h) ⟨Or.inl ⟨by kernel_rfl, ?_⟩, fun _ => rfl⟩ ?_
              case refine_2 => (intro w; go_simp <;> with_reducible rfl)
              try simp only [Act.put, List.setIfInBounds_toArray, List.set_cons_zero, List.set_cons_succ, List.getElem_toArray, List.getElem_cons_zero, List.getElem_cons_succ]
              refine wpAnyIn_take (i := 17) (v := ?_) rfl rfl (by kernel_rfl) (by kernel_rfl) (by kernel_rfl) (fun _ _ _ h => h) ⟨Or.inl ⟨by kernel_rfl, ?_⟩, fun _ => rfl⟩ ?_
              case refine_2 => (intro w; go_simp <;> with_reducible rfl)
              try simp only [Act.put, List.setIfInBounds_toArray, List.set_cons_zero, List.set_cons_succ, List.getElem_toArray, List.getElem_cons_zero, List.getElem_cons_succ]
              refine wpAnyIn_take (i := 20) (v := undef) rfl rfl (by kernel_rfl) (by kernel_rfl) (by kernel_rfl) (fun _ _ _ h => h) ⟨Or.inr ⟨by kernel_rfl, rfl⟩, fun _ => rfl⟩ ?_
              try simp only [Act.put, List.setIfInBounds_toArray, List.set_cons_zero, List.set_cons_succ, List.getElem_toArray, List.getElem_cons_zero, List.getElem_cons_succ]
              refine wpAnyIn_take (i := 21) (v := undef) rfl rfl (by kernel_rfl) (by kernel_rfl) (by kernel_rfl) (fun _ _ _ h => h) ⟨Or.inr ⟨by kernel_rfl, rfl⟩, fun _ => rfl⟩ ?_
              try simp only [Act.put, List.setIfInBounds_toArray, List.set_cons_zero, List.set_cons_succ, List.getElem_toArray, List.getElem_cons_zero, List.getElem_cons_succ]
              refine wpAnyIn_take (i := 18) (v := undef) rfl rfl (by kernel_rfl) (by kernel_rfl) (by kernel_rfl) (fun _ _ _ h => h) ⟨Or.inr ⟨by kernel_rfl, rfl⟩, fun _ => rfl⟩ ?_
              try simp only [Act.put, List.setIfInBounds_toArray, List.set_cons_zero, List.set_cons_succ, List.getElem_toArray, List.getElem_cons_zero, List.getElem_cons_succ]
              refine wpAnyIn_take (i := 19) (v := undef) rfl rfl (by kernel_rfl) (by kernel_rfl) (by kernel_rfl) (fun _ _ _ h => h) ⟨Or.inr ⟨by kernel_rfl, rfl⟩, fun _ => rfl⟩ ?_
              try simp only [Act.put, List.setIfInBounds_toArray, List.set_cons_zero, List.set_cons_succ, List.getElem_toArray, List.getElem_cons_zero, List.getElem_cons_succ]
              refine wpAnyIn_take (i := 22) (v := undef) rfl rfl (by kernel_rfl) (by kernel_rfl) (by kernel_rfl) (fun _ _ _ h => h) ⟨Or.inr ⟨by kernel_rfl, rfl⟩, fun _ => rfl⟩ ?_
              try simp only [Act.put, List.setIfInBounds_toArray, List.set_cons_zero, List.set_cons_succ, List.getElem_toArray, List.getElem_cons_zero, List.getElem_cons_succ]
              refine wpAnyIn_take (i := 23) (v := undef) rfl rfl (by kernel_rfl) (by kernel_rfl) (by kernel_rfl) (fun _ _ _ h => h) ⟨Or.inr ⟨by kernel_rfl, rfl⟩, fun _ => rfl⟩ ?_
              try simp only [Act.put, List.setIfInBounds_toArray, List.set_cons_zero, List.set_cons_succ, List.getElem_toArray, List.getElem_cons_zero, List.getElem_cons_succ]
              refine wpAnyIn_ready (rs := [24]) (by kernel_rfl) (by simp) ?_
              refine AllReadyIn.cons rfl (fun K hK => ?_) AllReadyIn.nil
              go_simp
              refine hK _ _ ?_
              clear hK K
              refine wpAnyIn_take (i := 25) (v := undef) rfl rfl (by kernel_rfl) (by kernel_rfl) (by kernel_rfl) (fun _ _ _ h => h) ⟨Or.inr ⟨by kernel_rfl, rfl⟩, fun _ => rfl⟩ ?_
              try simp only [Act.put, List.setIfInBounds_toArray, List.set_cons_zero, List.set_cons_succ, List.getElem_toArray, List.getElem_cons_zero, List.getElem_cons_succ]
              refine wpAnyIn_take (i := 26) (v := ?_) rfl rfl (by kernel_rfl) (by kernel_rfl) (by kernel_rfl) (fun _ _ _ h => h) ⟨Or.inl ⟨by kernel_rfl, ?_⟩, fun _ => rfl⟩ ?_
              case refine_2 => (intro w; go_simp <;> with_reducible rfl)
              try simp only [Act.put, List.setIfInBounds_toArray, List.set_cons_zero, List.set_cons_succ, List.getElem_toArray, List.getElem_cons_zero, List.getElem_cons_succ]
              refine wpAnyIn_take (i := 27) (v := ?_) rfl rfl (by kernel_rfl) (by kernel_rfl) (by kernel_rfl) (fun _ _ _ h => h) ⟨Or.inl ⟨by kernel_rfl, ?_⟩, fun _ => rfl⟩ ?_
              case refine_2 => (intro w; go_simp <;> with_reducible rfl)
              try simp only [Act.put, List.setIfInBounds_toArray, List.set_cons_zero, List.set_cons_succ, List.getElem_toArray, List.getElem_cons_zero, List.getElem_cons_succ]
              refine wpAnyIn_take (i := 28) (v := ?_) rfl rfl (by kernel_rfl) (by kernel_rfl) (by kernel_rfl) (fun _ _ _ h => h) ⟨Or.inl ⟨by kernel_rfl, ?_⟩, fun _ => rfl⟩ ?_
              case refine_2 => (intro w; go_simp <;> with_reducible rfl)
              try simp only [Act.put, List.setIfInBounds_toArray, List.set_cons_zero, List.set_cons_succ, List.getElem_toArray, List.getElem_cons_zero, List.getElem_cons_succ]
              refine wpAnyIn_take (i := 29) (v := ?_) rfl rfl (by kernel_rfl) (by kernel_rfl) (by kernel_rfl) (fun _ _ _ h => h) ⟨Or.inl ⟨by kernel_rfl, ?_⟩, fun _ => rfl⟩ ?_
              case refine_2 => (intro w; go_simp <;> with_reducible rfl)
              try simp only [Act.put, List.setIfInBounds_toArray, List.set_cons_zero, List.set_cons_succ, List.getElem_toArray, List.getElem_cons_zero, List.getElem_cons_succ]
              refine wpAnyIn_take (i := 30) (v := ?_) rfl rfl (by kernel_rfl) (by kernel_rfl) (by kernel_rfl) (fun _ _ _ h => h) ⟨Or.inl ⟨by kernel_rfl, ?_⟩, fun _ => rfl⟩ ?_
              case refine_2 => (intro w; go_simp <;> with_reducible rfl)
              try simp only [Act.put, List.setIfInBounds_toArray, List.set_cons_zero, List.set_cons_succ, List.getElem_toArray, List.getElem_cons_zero, List.getElem_cons_succ]
              refine wpAnyIn_ready (rs := [31]) (by kernel_rfl) (by simp) ?_
              refine AllReadyIn.cons rfl (fun K hK => ?_) AllReadyIn.nil
              go_simp
              refine hK _ _ ?_
              clear hK K
              refine wpAnyIn_ready (rs := [32]) (by kernel_rfl) (by simp) ?_
              refine AllReadyIn.cons rfl (fun K hK => ?_) AllReadyIn.nil
              go_simp
              refine hR.mono ?_
              rintro e W3 (⟨rfl, hJ3, hk3⟩ | ⟨rfl, hJx3⟩)
              · refine hK _ _ ?_
                clear hK K
                refine wpAnyIn_take (i := 33) (v := ?_) rfl rfl (by kernel_rfl) (by kernel_rfl) (by kernel_rfl) (fun _ _ _ h => h) ⟨Or.inl ⟨by kernel_rfl, ?_⟩, fun _ => rfl⟩ ?_
                case refine_2 => (intro w; go_simp <;> with_reducible rfl)
                try simp only [Act.put, List.setIfInBounds_toArray, List.set_cons_zero, List.set_cons_succ, List.getElem_toArray, List.getElem_cons_zero, List.getElem_cons_succ]
                refine wpAnyIn_take (i := 34) (v := ?_) rfl rfl (by kernel_rfl) (by kernel_rfl) (by kernel_rfl) (fun _ _ _ h => h) ⟨Or.inl ⟨by kernel_rfl, ?_⟩, fun _ => rfl⟩ ?_
                case refine_2 => (intro w; go_simp <;> with_reducible rfl)
                try simp only [Act.put, List.setIfInBounds_toArray, List.set_cons_zero, List.set_cons_succ, List.getElem_toArray, List.getElem_cons_zero, List.getElem_cons_succ]
                refine wpAnyIn_done (by kernel_rfl) ?_ _
                clear hund
                gi_wp2
                simp only [show (Value.tuple #[] : Value) = undef from rfl]
                go_roundw
                case rel =>
                  exact ⟨k + 1, by simp, by omega, ⟨hJ3, HI.out.2.1.trans ((HBW.out.mono HI.out.2.1.size).trans hk3.1), hk3.2.trans ((HBW.out.block Bs (blk_lt HI.out.2.2.1)).trans HI.out.2.2.1), Nat.le_trans HI.out.2.2.2.1 (Nat.le_trans HBW.out.size hk3.1.size), fun j hj => (Nat.lt_succ_iff_lt_or_eq.1 hj).elim (HI.out.2.2.2.2 j) (fun e => e ▸ HO.out)⟩⟩
                case measure => simp [intOf]; omega
              · refine hK _ _ ?_
                clear hK K
                refine wpAnyIn_take (i := 33) (v := ?_) rfl rfl (by kernel_rfl) (by kernel_rfl) (by kernel_rfl) (fun _ _ _ h => h) ⟨Or.inl ⟨by kernel_rfl, ?_⟩, fun _ => rfl⟩ ?_
                case refine_2 => (intro w; go_simp <;> with_reducible rfl)
                try simp only [Act.put, List.setIfInBounds_toArray, List.set_cons_zero, List.set_cons_succ, List.getElem_toArray, List.getElem_cons_zero, List.getElem_cons_succ]
                refine wpAnyIn_take (i := 34) (v := ?_) rfl rfl (by kernel_rfl) (by kernel_rfl) (by kernel_rfl) (fun _ _ _ h => h) ⟨Or.inl ⟨by kernel_rfl, ?_⟩, fun _ => rfl⟩ ?_
                case refine_2 => (intro w; go_simp <;> with_reducible rfl)
                try simp only [Act.put, List.setIfInBounds_toArray, List.set_cons_zero, List.set_cons_succ, List.getElem_toArray, List.getElem_cons_zero, List.getElem_cons_succ]
                refine wpAnyIn_done (by kernel_rfl) ?_ _
                gi_wp2
                refine bodyPost_ret (results_none rfl _ _ _) rfl ?_
                exact ⟨⟨_, rfl⟩, .inr ⟨k, HLT.out, fun j hj => (Nat.lt_succ_iff_lt_or_eq.1 hj).elim (HI.out.2.2.2.2 j) (fun e => e ▸ HO.out), hJx3⟩⟩
            · obtain ⟨ad', e', hp0, hp1, hp2, hp3, hp4⟩ := at_T44 HR.out ((k : Int) - 1) (by omega) (by omega)
              obtain rfl : ad = ad' := Option.some.inj e'
              clear e'
              rw [show ((k : Int) - 1).toNat = k - 1 by omega] at hp0 hp1 hp2 hp3 hp4
              replace hp0 := (HI.out.2.1.cell (World.block_lt_of_cell? w0 _ hp0)).trans hp0
              replace hp1 := (HI.out.2.1.cell (World.block_lt_of_cell? w0 _ hp1)).trans hp1
              replace hp2 := (HI.out.2.1.cell (World.block_lt_of_cell? w0 _ hp2)).trans hp2
              replace hp3 := (HI.out.2.1.cell (World.block_lt_of_cell? w0 _ hp3)).trans hp3
              replace hp4 := (HI.out.2.1.cell (World.block_lt_of_cell? w0 _ hp4)).trans hp4
              have HP : Aside0 (∃ p, p = rd_T44 xs ((k : Int) - 1)) := ⟨_, rfl⟩
              obtain ⟨p, hp⟩ := HP.out
              rw [← hp] at hp0 hp1 hp2 hp3 hp4
              replace HP := Aside0.mk hp
              clear hp
              have HRV : Aside0 (∃ rv, rv = refusedI x.f0 x.f2 x.f3 p.f0 p.f2 p.f3) := ⟨_, rfl⟩
              obtain ⟨rv, hrv⟩ := HRV.out
              have HRF : Aside0 (chain_refused.f x.f0 x.f1 x.f2 x.f3 x.f4 p.f0 p.f1 p.f2 p.f3 p.f4 = some rv) := ⟨by rw [hrv]; rfl⟩
              have g3b : decide (0 < (k : Int)) = true := decide_eq_true (by omega)
              have g3c : decide (0 < k) = true := decide_eq_true (by omega)
              have hw2 : IntKind.i64.wrap ((k : Int) - 1) = k - 1 := by simp [IntKind.wrap, IntKind.bits, IntKind.signed]; omega
              have x0 : 0 ≤ (k : Int) - 1 := by omega
              have x3 : 1 ≤ (k : Int) := by omega
              have x1 : (k : Int) - 1 < (xs.length : Int) := by omega
              have x2 : ((k : Int) - 1).toNat = k - 1 := by omega
              by_cases g4 : rv = 0
              rotate_left
              · have HO : Aside0 (okAt xs k = false) := ⟨by unfold okAt; rw [← HX.out, ← HP.out, ← hrv, v, decide_eq_true g1, decide_eq_true g2, decide_eq_false g3, decide_eq_false g4]; rfl⟩
                have g4b : (rv != 0) = true := bne_iff_ne.mpr g4
                have G3 := Aside0.mk g3
                clear v g1 g2 g3 g4 hrv HRV
                gi_wp2
                refine wpIn_region_any (by kernel_rfl) ?_
                change wpAnyIn _ _ _ _ _ _ _ _ _ (World.drew _)
                refine wpAnyIn_take (i := 0) (v := ?_) rfl rfl (by kernel_rfl) (by kernel_rfl) (by kernel_rfl) (fun _ _ _ h => h) ⟨Or.inl ⟨by kernel_rfl, ?_⟩, fun _ => rfl⟩ ?_
                case refine_2 => (intro w; go_simp <;> with_reducible rfl)
                try simp only [Act.put, List.setIfInBounds_toArray, List.set_cons_zero, List.set_cons_succ, List.getElem_toArray, List.getElem_cons_zero, List.getElem_cons_succ]
                refine wpAnyIn_take (i := 1) (v := ?_) rfl rfl (by kernel_rfl) (by kernel_rfl) (by kernel_rfl) (fun _ _ _ h => h) ⟨Or.inl ⟨by kernel_rfl, ?_⟩, fun _ => rfl⟩ ?_
                case refine_2 => (intro w; go_simp <;> with_reducible rfl)
                try simp only [Act.put, List.setIfInBounds_toArray, List.set_cons_zero, List.set_cons_succ, List.getElem_toArray, List.getElem_cons_zero, List.getElem_cons_succ]
                refine wpAnyIn_take (i := 2) (v := ?_) rfl rfl (by kernel_rfl) (by kernel_rfl) (by kernel_rfl) (fun _ _ _ h => h) ⟨Or.inl ⟨by kernel_rfl, ?_⟩, fun _ => rfl⟩ ?_
                case refine_2 => (intro w; go_simp <;> with_reducible rfl)
                try simp only [Act.put, List.setIfInBounds_toArray, List.set_cons_zero, List.set_cons_succ, List.getElem_toArray, List.getElem_cons_zero, List.getElem_cons_succ]
                refine wpAnyIn_ready (rs := [3]) (by kernel_rfl) (by simp) ?_
                refine AllReadyIn.cons rfl (fun K hK => ?_) AllReadyIn.nil
                go_simp
                refine hK _ _ ?_
                clear hK K
                refine wpAnyIn_ready (rs := [4]) (by kernel_rfl) (by simp) ?_
                refine AllReadyIn.cons rfl (fun K hK => ?_) AllReadyIn.nil
                go_simp
                gi_wp2_with (gi_at_call 45; refine (callsIn_wide.2 (chain_valid.calls _ _ _ _ _ true _ HV.out)).mono ?_; rintro e w2 ⟨rfl, hb2⟩; have hk2 := (hb2.block wr.heap.size (by simp)).trans (heap_alloc_new wr _); have z0 : w2.cell? ⟨wr.heap.size, 0, none⟩ = some (.int .i64 x.f0) := (blk_cell hk2 0).trans rfl; have z1 : w2.cell? ⟨wr.heap.size, 1, none⟩ = some (.int .i64 x.f1) := (blk_cell hk2 1).trans rfl; have z2 : w2.cell? ⟨wr.heap.size, 2, none⟩ = some (.int .i64 x.f2) := (blk_cell hk2 2).trans rfl; have z3 : w2.cell? ⟨wr.heap.size, 3, none⟩ = some (.int .i64 x.f3) := (blk_cell hk2 3).trans rfl; have z4 : w2.cell? ⟨wr.heap.size, 4, none⟩ = some (.int .u64 x.f4) := (blk_cell hk2 4).trans rfl; have hbs2 : w2.cell? ⟨Bs, 0, none⟩ = some (.slice (some ad) xs.length c) := ((alloc_drew_below wr _).trans (hb2.mono (by simp))).cell (World.block_lt_of_cell? wr _ hbs) |>.trans hbs; have q0 := (((alloc_drew_below wr _).trans (hb2.mono (by simp))).cell (World.block_lt_of_cell? wr _ hp0)).trans hp0; have q1 := (((alloc_drew_below wr _).trans (hb2.mono (by simp))).cell (World.block_lt_of_cell? wr _ hp1)).trans hp1; have q2 := (((alloc_drew_below wr _).trans (hb2.mono (by simp))).cell (World.block_lt_of_cell? wr _ hp2)).trans hp2; have q3 := (((alloc_drew_below wr _).trans (hb2.mono (by simp))).cell (World.block_lt_of_cell? wr _ hp3)).trans hp3; have q4 := (((alloc_drew_below wr _).trans (hb2.mono (by simp))).cell (World.block_lt_of_cell? wr _ hp4)).trans hp4; have hj2 := HJ.out _ _ _ none (HJ.out _ _ _ none HI.out.1 (grown_of_below (alloc_drew_below _ _) none) (fun r e => by cases e)) (grown_of_below hb2 none) (fun r e => by cases e); have HBW := Aside0.mk ((alloc_drew_below wr _).trans (hb2.mono (by simp))); have HJ2 := Aside0.mk hj2; have HB2 := Aside0.mk hb2; clear hb2; have HK2 := Aside0.mk hk2; clear hk2; clear hj2)
                refine wpAnyIn_take (i := 5) (v := ?_) rfl rfl (by kernel_rfl) (by kernel_rfl) (by kernel_rfl) (fun _ _ _ h => h) ⟨Or.inl ⟨by kernel_rfl, ?_⟩, fun _ => rfl⟩ ?_
                case refine_2 => (intro w; go_simp <;> with_reducible rfl)
                try simp only [Act.put, List.setIfInBounds_toArray, List.set_cons_zero, List.set_cons_succ, List.getElem_toArray, List.getElem_cons_zero, List.getElem_cons_succ]
                refine wpAnyIn_take (i := 6) (v := ?_) rfl rfl (by kernel_rfl) (by kernel_rfl) (by kernel_rfl) (fun _ _ _ h => h) ⟨Or.inl ⟨by kernel_rfl, ?_⟩, fun _ => rfl⟩ ?_
                case refine_2 => (intro w; go_simp <;> with_reducible rfl)
                try simp only [Act.put, List.setIfInBounds_toArray, List.set_cons_zero, List.set_cons_succ, List.getElem_toArray, List.getElem_cons_zero, List.getElem_cons_succ]
                refine wpAnyIn_take (i := 7) (v := ?_) rfl rfl (by kernel_rfl) (by kernel_rfl) (by kernel_rfl) (fun _ _ _ h => h) ⟨Or.inl ⟨by kernel_rfl, ?_⟩, fun _ => rfl⟩ ?_
                case refine_2 => (intro w; go_simp <;> with_reducible rfl)
                try simp only [Act.put, List.setIfInBounds_toArray, List.set_cons_zero, List.set_cons_succ, List.getElem_toArray, List.getElem_cons_zero, List.getElem_cons_succ]
                refine wpAnyIn_take (i := 8) (v := ?_) rfl rfl (by kernel_rfl) (by kernel_rfl) (by kernel_rfl) (fun _ _ _ h => h) ⟨Or.inl ⟨by kernel_rfl, ?_⟩, fun _ => rfl⟩ ?_
                case refine_2 => (intro w; go_simp <;> with_reducible rfl)
                try simp only [Act.put, List.setIfInBounds_toArray, List.set_cons_zero, List.set_cons_succ, List.getElem_toArray, List.getElem_cons_zero, List.getElem_cons_succ]
                refine wpAnyIn_take (i := 10) (v := ?_) rfl rfl (by kernel_rfl) (by kernel_rfl) (by kernel_rfl) (fun _ _ _ h => h) ⟨Or.inl ⟨by kernel_rfl, ?_⟩, fun _ => rfl⟩ ?_
                case refine_2 => (intro w; go_simp <;> with_reducible rfl)
                try simp only [Act.put, List.setIfInBounds_toArray, List.set_cons_zero, List.set_cons_succ, List.getElem_toArray, List.getElem_cons_zero, List.getElem_cons_succ]
                refine wpAnyIn_take (i := 11) (v := ?_) rfl rfl (by kernel_rfl) (by kernel_rfl) (by kernel_rfl) (fun _ _ _ h => h) ⟨Or.inl ⟨by kernel_rfl, ?_⟩, fun _ => rfl⟩ ?_
                case refine_2 => (intro w; go_simp <;> with_reducible rfl)
                try simp only [Act.put, List.setIfInBounds_toArray, List.set_cons_zero, List.set_cons_succ, List.getElem_toArray, List.getElem_cons_zero, List.getElem_cons_succ]
                refine wpAnyIn_ready (rs := [9]) (by kernel_rfl) (by simp) ?_
                refine AllReadyIn.cons rfl (fun K hK => ?_) AllReadyIn.nil
                go_simp
                refine hK _ _ ?_
                clear hK K
                refine wpAnyIn_take (i := 12) (v := ?_) rfl rfl (by kernel_rfl) (by kernel_rfl) (by kernel_rfl) (fun _ _ _ h => h) ⟨Or.inl ⟨by kernel_rfl, ?_⟩, fun _ => rfl⟩ ?_
                case refine_2 => (intro w; go_simp <;> with_reducible rfl)
                try simp only [Act.put, List.setIfInBounds_toArray, List.set_cons_zero, List.set_cons_succ, List.getElem_toArray, List.getElem_cons_zero, List.getElem_cons_succ]
                refine wpAnyIn_take (i := 13) (v := ?_) rfl rfl (by kernel_rfl) (by kernel_rfl) (by kernel_rfl) (fun _ _ _ h => h) ⟨Or.inl ⟨by kernel_rfl, ?_⟩, fun _ => rfl⟩ ?_
                case refine_2 => (intro w; go_simp <;> with_reducible rfl)
                try simp only [Act.put, List.setIfInBounds_toArray, List.set_cons_zero, List.set_cons_succ, List.getElem_toArray, List.getElem_cons_zero, List.getElem_cons_succ]
                refine wpAnyIn_take (i := 14) (v := ?_) rfl rfl (by kernel_rfl) (by kernel_rfl) (by kernel_rfl) (fun _ _ _ h => h) ⟨Or.inl ⟨by kernel_rfl, ?_⟩, fun _ => rfl⟩ ?_
                case refine_2 => (intro w; go_simp <;> with_reducible rfl)
                try simp only [Act.put, List.setIfInBounds_toArray, List.set_cons_zero, List.set_cons_succ, List.getElem_toArray, List.getElem_cons_zero, List.getElem_cons_succ]
                refine wpAnyIn_take (i := 15) (v := ?_) rfl rfl (by kernel_rfl) (by kernel_rfl) (by kernel_rfl) (fun _ _ _ h => h) ⟨Or.inl ⟨by kernel_rfl, ?_⟩, fun _ => rfl⟩ ?_
                case refine_2 => (intro w; go_simp <;> with_reducible rfl)
                try simp only [Act.put, List.setIfInBounds_toArray, List.set_cons_zero, List.set_cons_succ, List.getElem_toArray, List.getElem_cons_zero, List.getElem_cons_succ]
                refine wpAnyIn_take (i := 16) (v := ?_) rfl rfl (by kernel_rfl) (by kernel_rfl) (by kernel_rfl) (fun _ _ _ h => h) ⟨Or.inl ⟨by kernel_rfl, ?_⟩, fun _ => rfl⟩ ?_
                case refine_2 => (intro w; go_simp <;> with_reducible rfl)
                try simp only [Act.put, List.setIfInBounds_toArray, List.set_cons_zero, List.set_cons_succ, List.getElem_toArray, List.getElem_cons_zero, List.getElem_cons_succ]
                refine wpAnyIn_take (i := 17) (v := ?_) rfl rfl (by kernel_rfl) (by kernel_rfl) (by kernel_rfl) (fun _ _ _ h => h) ⟨Or.inl ⟨by kernel_rfl, ?_⟩, fun _ => rfl⟩ ?_
                case refine_2 => (intro w; go_simp <;> with_reducible rfl)
                try simp only [Act.put, List.setIfInBounds_toArray, List.set_cons_zero, List.set_cons_succ, List.getElem_toArray, List.getElem_cons_zero, List.getElem_cons_succ]
                refine wpAnyIn_take (i := 20) (v := ?_) rfl rfl (by kernel_rfl) (by kernel_rfl) (by kernel_rfl) (fun _ _ _ h => h) ⟨Or.inl ⟨by kernel_rfl, ?_⟩, fun _ => rfl⟩ ?_
                case refine_2 => (intro w; go_simp <;> with_reducible rfl)
                try simp only [Act.put, List.setIfInBounds_toArray, List.set_cons_zero, List.set_cons_succ, List.getElem_toArray, List.getElem_cons_zero, List.getElem_cons_succ]
                refine wpAnyIn_take (i := 21) (v := ?_) rfl rfl (by kernel_rfl) (by kernel_rfl) (by kernel_rfl) (fun _ _ _ h => h) ⟨Or.inl ⟨by kernel_rfl, ?_⟩, fun _ => rfl⟩ ?_
                case refine_2 => (intro w; go_simp <;> with_reducible rfl)
                try simp only [Act.put, List.setIfInBounds_toArray, List.set_cons_zero, List.set_cons_succ, List.getElem_toArray, List.getElem_cons_zero, List.getElem_cons_succ]
                refine wpAnyIn_ready (rs := [18, 19]) (by kernel_rfl) (by simp) ?_
                refine AllReadyIn.cons rfl (fun K hK => ?_) (AllReadyIn.cons rfl (fun K hK => ?_) AllReadyIn.nil)
                · go_simp
                  refine hK _ _ ?_
                  clear hK K
                  refine wpAnyIn_ready (rs := [19]) (by kernel_rfl) (by simp) ?_
                  refine AllReadyIn.cons rfl (fun K hK => ?_) AllReadyIn.nil
                  go_simp
                  refine hK _ _ ?_
                  clear hK K
                  refine wpAnyIn_take (i := 22) (v := ?_) rfl rfl (by kernel_rfl) (by kernel_rfl) (by kernel_rfl) (fun _ _ _ h => h) ⟨Or.inl ⟨by kernel_rfl, ?_⟩, fun _ => rfl⟩ ?_
                  case refine_2 => (intro w; go_simp <;> with_reducible rfl)
                  try simp only [Act.put, List.setIfInBounds_toArray, List.set_cons_zero, List.set_cons_succ, List.getElem_toArray, List.getElem_cons_zero, List.getElem_cons_succ]
                  refine wpAnyIn_ready (rs := [23]) (by kernel_rfl) (by simp) ?_
                  refine AllReadyIn.cons rfl (fun K hK => ?_) AllReadyIn.nil
                  go_simp
                  refine hK _ _ ?_
                  clear hK K
                  refine wpAnyIn_ready (rs := [24]) (by kernel_rfl) (by simp) ?_
                  refine AllReadyIn.cons rfl (fun K hK => ?_) AllReadyIn.nil
                  go_simp
                  gi_wp2_with (gi_at_call 46; refine (callsIn_wide.2 (chain_refused.calls _ _ _ _ _ _ _ _ _ _ rv _ HRF.out)).mono ?_; rintro e w3 ⟨rfl, hb3⟩; have hk3 := (hb3.block wr.heap.size (by have := HB2.out.size; simp at this; omega)).trans HK2.out; have HB3 := Aside0.mk hb3; clear hb3 hk3)
                  refine wpAnyIn_take (i := 25) (v := ?_) rfl rfl (by kernel_rfl) (by kernel_rfl) (by kernel_rfl) (fun _ _ _ h => h) ⟨Or.inl ⟨by kernel_rfl, ?_⟩, fun _ => rfl⟩ ?_
                  case refine_2 => (intro w; go_simp <;> with_reducible rfl)
                  try simp only [Act.put, List.setIfInBounds_toArray, List.set_cons_zero, List.set_cons_succ, List.getElem_toArray, List.getElem_cons_zero, List.getElem_cons_succ]
                  refine wpAnyIn_take (i := 26) (v := ?_) rfl rfl (by kernel_rfl) (by kernel_rfl) (by kernel_rfl) (fun _ _ _ h => h) ⟨Or.inl ⟨by kernel_rfl, ?_⟩, fun _ => rfl⟩ ?_
                  case refine_2 => (intro w; go_simp <;> with_reducible rfl)
                  try simp only [Act.put, List.setIfInBounds_toArray, List.set_cons_zero, List.set_cons_succ, List.getElem_toArray, List.getElem_cons_zero, List.getElem_cons_succ]
                  refine wpAnyIn_take (i := 27) (v := ?_) rfl rfl (by kernel_rfl) (by kernel_rfl) (by kernel_rfl) (fun _ _ _ h => h) ⟨Or.inl ⟨by kernel_rfl, ?_⟩, fun _ => rfl⟩ ?_
                  case refine_2 => (intro w; go_simp <;> with_reducible rfl)
                  try simp only [Act.put, List.setIfInBounds_toArray, List.set_cons_zero, List.set_cons_succ, List.getElem_toArray, List.getElem_cons_zero, List.getElem_cons_succ]
                  refine wpAnyIn_take (i := 28) (v := ?_) rfl rfl (by kernel_rfl) (by kernel_rfl) (by kernel_rfl) (fun _ _ _ h => h) ⟨Or.inl ⟨by kernel_rfl, ?_⟩, fun _ => rfl⟩ ?_
                  case refine_2 => (intro w; go_simp <;> with_reducible rfl)
                  try simp only [Act.put, List.setIfInBounds_toArray, List.set_cons_zero, List.set_cons_succ, List.getElem_toArray, List.getElem_cons_zero, List.getElem_cons_succ]
                  refine wpAnyIn_take (i := 29) (v := undef) rfl rfl (by kernel_rfl) (by kernel_rfl) (by kernel_rfl) (fun _ _ _ h => h) ⟨Or.inr ⟨by kernel_rfl, rfl⟩, fun _ => rfl⟩ ?_
                  try simp only [Act.put, List.setIfInBounds_toArray, List.set_cons_zero, List.set_cons_succ, List.getElem_toArray, List.getElem_cons_zero, List.getElem_cons_succ]
                  refine wpAnyIn_take (i := 30) (v := undef) rfl rfl (by kernel_rfl) (by kernel_rfl) (by kernel_rfl) (fun _ _ _ h => h) ⟨Or.inr ⟨by kernel_rfl, rfl⟩, fun _ => rfl⟩ ?_
                  try simp only [Act.put, List.setIfInBounds_toArray, List.set_cons_zero, List.set_cons_succ, List.getElem_toArray, List.getElem_cons_zero, List.getElem_cons_succ]
                  refine wpAnyIn_take (i := 31) (v := undef) rfl rfl (by kernel_rfl) (by kernel_rfl) (by kernel_rfl) (fun _ _ _ h => h) ⟨Or.inr ⟨by kernel_rfl, rfl⟩, fun _ => rfl⟩ ?_
                  try simp only [Act.put, List.setIfInBounds_toArray, List.set_cons_zero, List.set_cons_succ, List.getElem_toArray, List.getElem_cons_zero, List.getElem_cons_succ]
                  refine wpAnyIn_ready (rs := [32]) (by kernel_rfl) (by simp) ?_
                  refine AllReadyIn.cons rfl (fun K hK => ?_) AllReadyIn.nil
                  go_simp
                  refine hK _ _ ?_
                  clear hK K
                  refine wpAnyIn_take (i := 33) (v := undef) rfl rfl (by kernel_rfl) (by kernel_rfl) (by kernel_rfl) (fun _ _ _ h => h) ⟨Or.inr ⟨by kernel_rfl, rfl⟩, fun _ => rfl⟩ ?_
                  try simp only [Act.put, List.setIfInBounds_toArray, List.set_cons_zero, List.set_cons_succ, List.getElem_toArray, List.getElem_cons_zero, List.getElem_cons_succ]
                  refine wpAnyIn_take (i := 34) (v := ?_) rfl rfl (by kernel_rfl) (by kernel_rfl) (by kernel_rfl) (fun _ _ _ h => h) ⟨Or.inl ⟨by kernel_rfl, ?_⟩, fun _ => rfl⟩ ?_
                  case refine_2 => (intro w; go_simp <;> with_reducible rfl)
                  try simp only [Act.put, List.setIfInBounds_toArray, List.set_cons_zero, List.set_cons_succ, List.getElem_toArray, List.getElem_cons_zero, List.getElem_cons_succ]
                  refine wpAnyIn_done (by kernel_rfl) ?_ _
                  gi_wp2
                  refine bodyPost_ret (results_none rfl _ _ _) rfl ?_
                  exact ⟨⟨_, rfl⟩, .inl ⟨k, by omega, HI.out.2.2.2.2, fun _ => HO.out, HJ.out _ _ _ none HJ2.out (grown_of_below HB3.out none) (fun r e => by cases e)⟩⟩
                · go_simp
                  refine hK _ _ ?_
                  clear hK K
                  refine wpAnyIn_take (i := 22) (v := ?_) rfl rfl (by kernel_rfl) (by kernel_rfl) (by kernel_rfl) (fun _ _ _ h => h) ⟨Or.inl ⟨by kernel_rfl, ?_⟩, fun _ => rfl⟩ ?_
                  case refine_2 => (intro w; go_simp <;> with_reducible rfl)
                  try simp only [Act.put, List.setIfInBounds_toArray, List.set_cons_zero, List.set_cons_succ, List.getElem_toArray, List.getElem_cons_zero, List.getElem_cons_succ]
                  refine wpAnyIn_ready (rs := [18, 23]) (by kernel_rfl) (by simp) ?_
                  refine AllReadyIn.cons rfl (fun K hK => ?_) (AllReadyIn.cons rfl (fun K hK => ?_) AllReadyIn.nil)
                  · go_simp
                    refine hK _ _ ?_
                    clear hK K
                    refine wpAnyIn_ready (rs := [23]) (by kernel_rfl) (by simp) ?_
                    refine AllReadyIn.cons rfl (fun K hK => ?_) AllReadyIn.nil
                    go_simp
                    refine hK _ _ ?_
                    clear hK K
                    refine wpAnyIn_ready (rs := [24]) (by kernel_rfl) (by simp) ?_
                    refine AllReadyIn.cons rfl (fun K hK => ?_) AllReadyIn.nil
                    go_simp
                    gi_wp2_with (gi_at_call 46; refine (callsIn_wide.2 (chain_refused.calls _ _ _ _ _ _ _ _ _ _ rv _ HRF.out)).mono ?_; rintro e w3 ⟨rfl, hb3⟩; have hk3 := (hb3.block wr.heap.size (by have := HB2.out.size; simp at this; omega)).trans HK2.out; have HB3 := Aside0.mk hb3; clear hb3 hk3)
                    refine wpAnyIn_take (i := 25) (v := ?_) rfl rfl (by kernel_rfl) (by kernel_rfl) (by kernel_rfl) (fun _ _ _ h => h) ⟨Or.inl ⟨by kernel_rfl, ?_⟩, fun _ => rfl⟩ ?_
                    case refine_2 => (intro w; go_simp <;> with_reducible rfl)
                    try simp only [Act.put, List.setIfInBounds_toArray, List.set_cons_zero, List.set_cons_succ, List.getElem_toArray, List.getElem_cons_zero, List.getElem_cons_succ]
                    refine wpAnyIn_take (i := 26) (v := ?_) rfl rfl (by kernel_rfl) (by kernel_rfl) (by kernel_rfl) (fun _ _ _ h => h) ⟨Or.inl ⟨by kernel_rfl, ?_⟩, fun _ => rfl⟩ ?_
                    case refine_2 => (intro w; go_simp <;> with_reducible rfl)
                    try simp only [Act.put, List.setIfInBounds_toArray, List.set_cons_zero, List.set_cons_succ, List.getElem_toArray, List.getElem_cons_zero, List.getElem_cons_succ]
                    refine wpAnyIn_take (i := 27) (v := ?_) rfl rfl (by kernel_rfl) (by kernel_rfl) (by kernel_rfl) (fun _ _ _ h => h) ⟨Or.inl ⟨by kernel_rfl, ?_⟩, fun _ => rfl⟩ ?_
                    case refine_2 => (intro w; go_simp <;> with_reducible rfl)
                    try simp only [Act.put, List.setIfInBounds_toArray, List.set_cons_zero, List.set_cons_succ, List.getElem_toArray, List.getElem_cons_zero, List.getElem_cons_succ]
                    refine wpAnyIn_take (i := 28) (v := ?_) rfl rfl (by kernel_rfl) (by kernel_rfl) (by kernel_rfl) (fun _ _ _ h => h) ⟨Or.inl ⟨by kernel_rfl, ?_⟩, fun _ => rfl⟩ ?_
                    case refine_2 => (intro w; go_simp <;> with_reducible rfl)
                    try simp only [Act.put, List.setIfInBounds_toArray, List.set_cons_zero, List.set_cons_succ, List.getElem_toArray, List.getElem_cons_zero, List.getElem_cons_succ]
                    refine wpAnyIn_take (i := 29) (v := undef) rfl rfl (by kernel_rfl) (by kernel_rfl) (by kernel_rfl) (fun _ _ _ h => h) ⟨Or.inr ⟨by kernel_rfl, rfl⟩, fun _ => rfl⟩ ?_
                    try simp only [Act.put, List.setIfInBounds_toArray, List.set_cons_zero, List.set_cons_succ, List.getElem_toArray, List.getElem_cons_zero, List.getElem_cons_succ]
                    refine wpAnyIn_take (i := 30) (v := undef) rfl rfl (by kernel_rfl) (by kernel_rfl) (by kernel_rfl) (fun _ _ _ h => h) ⟨Or.inr ⟨by kernel_rfl, rfl⟩, fun _ => rfl⟩ ?_
                    try simp only [Act.put, List.setIfInBounds_toArray, List.set_cons_zero, List.set_cons_succ, List.getElem_toArray, List.getElem_cons_zero, List.getElem_cons_succ]
                    refine wpAnyIn_take (i := 31) (v := undef) rfl rfl (by kernel_rfl) (by kernel_rfl) (by kernel_rfl) (fun _ _ _ h => h) ⟨Or.inr ⟨by kernel_rfl, rfl⟩, fun _ => rfl⟩ ?_
                    try simp only [Act.put, List.setIfInBounds_toArray, List.set_cons_zero, List.set_cons_succ, List.getElem_toArray, List.getElem_cons_zero, List.getElem_cons_succ]
                    refine wpAnyIn_ready (rs := [32]) (by kernel_rfl) (by simp) ?_
                    refine AllReadyIn.cons rfl (fun K hK => ?_) AllReadyIn.nil
                    go_simp
                    refine hK _ _ ?_
                    clear hK K
                    refine wpAnyIn_take (i := 33) (v := undef) rfl rfl (by kernel_rfl) (by kernel_rfl) (by kernel_rfl) (fun _ _ _ h => h) ⟨Or.inr ⟨by kernel_rfl, rfl⟩, fun _ => rfl⟩ ?_
                    try simp only [Act.put, List.setIfInBounds_toArray, List.set_cons_zero, List.set_cons_succ, List.getElem_toArray, List.getElem_cons_zero, List.getElem_cons_succ]
                    refine wpAnyIn_take (i := 34) (v := ?_) rfl rfl (by kernel_rfl) (by kernel_rfl) (by kernel_rfl) (fun _ _ _ h => h) ⟨Or.inl ⟨by kernel_rfl, ?_⟩, fun _ => rfl⟩ ?_
                    case refine_2 => (intro w; go_simp <;> with_reducible rfl)
                    try simp only [Act.put, List.setIfInBounds_toArray, List.set_cons_zero, List.set_cons_succ, List.getElem_toArray, List.getElem_cons_zero, List.getElem_cons_succ]
                    refine wpAnyIn_done (by kernel_rfl) ?_ _
                    gi_wp2
                    refine bodyPost_ret (results_none rfl _ _ _) rfl ?_
                    exact ⟨⟨_, rfl⟩, .inl ⟨k, by omega, HI.out.2.2.2.2, fun _ => HO.out, HJ.out _ _ _ none HJ2.out (grown_of_below HB3.out none) (fun r e => by cases e)⟩⟩
                  · go_simp
                    refine hK _ _ ?_
                    clear hK K
                    refine wpAnyIn_ready (rs := [18]) (by kernel_rfl) (by simp) ?_
                    refine AllReadyIn.cons rfl (fun K hK => ?_) AllReadyIn.nil
                    go_simp
                    refine hK _ _ ?_
                    clear hK K
                    refine wpAnyIn_ready (rs := [24]) (by kernel_rfl) (by simp) ?_
                    refine AllReadyIn.cons rfl (fun K hK => ?_) AllReadyIn.nil
                    go_simp
                    gi_wp2_with (gi_at_call 46; refine (callsIn_wide.2 (chain_refused.calls _ _ _ _ _ _ _ _ _ _ rv _ HRF.out)).mono ?_; rintro e w3 ⟨rfl, hb3⟩; have hk3 := (hb3.block wr.heap.size (by have := HB2.out.size; simp at this; omega)).trans HK2.out; have HB3 := Aside0.mk hb3; clear hb3 hk3)
                    refine wpAnyIn_take (i := 25) (v := ?_) rfl rfl (by kernel_rfl) (by kernel_rfl) (by kernel_rfl) (fun _ _ _ h => h) ⟨Or.inl ⟨by kernel_rfl, ?_⟩, fun _ => rfl⟩ ?_
                    case refine_2 => (intro w; go_simp <;> with_reducible rfl)
                    try simp only [Act.put, List.setIfInBounds_toArray, List.set_cons_zero, List.set_cons_succ, List.getElem_toArray, List.getElem_cons_zero, List.getElem_cons_succ]
                    refine wpAnyIn_take (i := 26) (v := ?_) rfl rfl (by kernel_rfl) (by kernel_rfl) (by kernel_rfl) (fun _ _ _ h => h) ⟨Or.inl ⟨by kernel_rfl, ?_⟩, fun _ => rfl⟩ ?_
                    case refine_2 => (intro w; go_simp <;> with_reducible rfl)
                    try simp only [Act.put, List.setIfInBounds_toArray, List.set_cons_zero, List.set_cons_succ, List.getElem_toArray, List.getElem_cons_zero, List.getElem_cons_succ]
                    refine wpAnyIn_take (i := 27) (v := ?_) rfl rfl (by kernel_rfl) (by kernel_rfl) (by kernel_rfl) (fun _ _ _ h => h) ⟨Or.inl ⟨by kernel_rfl, ?_⟩, fun _ => rfl⟩ ?_
                    case refine_2 => (intro w; go_simp <;> with_reducible rfl)
                    try simp only [Act.put, List.setIfInBounds_toArray, List.set_cons_zero, List.set_cons_succ, List.getElem_toArray, List.getElem_cons_zero, List.getElem_cons_succ]
                    refine wpAnyIn_take (i := 28) (v := ?_) rfl rfl (by kernel_rfl) (by kernel_rfl) (by kernel_rfl) (fun _ _ _ h => h) ⟨Or.inl ⟨by kernel_rfl, ?_⟩, fun _ => rfl⟩ ?_
                    case refine_2 => (intro w; go_simp <;> with_reducible rfl)
                    try simp only [Act.put, List.setIfInBounds_toArray, List.set_cons_zero, List.set_cons_succ, List.getElem_toArray, List.getElem_cons_zero, List.getElem_cons_succ]
                    refine wpAnyIn_take (i := 29) (v := undef) rfl rfl (by kernel_rfl) (by kernel_rfl) (by kernel_rfl) (fun _ _ _ h => h) ⟨Or.inr ⟨by kernel_rfl, rfl⟩, fun _ => rfl⟩ ?_
                    try simp only [Act.put, List.setIfInBounds_toArray, List.set_cons_zero, List.set_cons_succ, List.getElem_toArray, List.getElem_cons_zero, List.getElem_cons_succ]
                    refine wpAnyIn_take (i := 30) (v := undef) rfl rfl (by kernel_rfl) (by kernel_rfl) (by kernel_rfl) (fun _ _ _ h => h) ⟨Or.inr ⟨by kernel_rfl, rfl⟩, fun _ => rfl⟩ ?_
                    try simp only [Act.put, List.setIfInBounds_toArray, List.set_cons_zero, List.set_cons_succ, List.getElem_toArray, List.getElem_cons_zero, List.getElem_cons_succ]
                    refine wpAnyIn_take (i := 31) (v := undef) rfl rfl (by kernel_rfl) (by kernel_rfl) (by kernel_rfl) (fun _ _ _ h => h) ⟨Or.inr ⟨by kernel_rfl, rfl⟩, fun _ => rfl⟩ ?_
                    try simp only [Act.put, List.setIfInBounds_toArray, List.set_cons_zero, List.set_cons_succ, List.getElem_toArray, List.getElem_cons_zero, List.getElem_cons_succ]
                    refine wpAnyIn_ready (rs := [32]) (by kernel_rfl) (by simp) ?_
                    refine AllReadyIn.cons rfl (fun K hK => ?_) AllReadyIn.nil
                    go_simp
                    refine hK _ _ ?_
                    clear hK K
                    refine wpAnyIn_take (i := 33) (v := undef) rfl rfl (by kernel_rfl) (by kernel_rfl) (by kernel_rfl) (fun _ _ _ h => h) ⟨Or.inr ⟨by kernel_rfl, rfl⟩, fun _ => rfl⟩ ?_
                    try simp only [Act.put, List.setIfInBounds_toArray, List.set_cons_zero, List.set_cons_succ, List.getElem_toArray, List.getElem_cons_zero, List.getElem_cons_succ]
                    refine wpAnyIn_take (i := 34) (v := ?_) rfl rfl (by kernel_rfl) (by kernel_rfl) (by kernel_rfl) (fun _ _ _ h => h) ⟨Or.inl ⟨by kernel_rfl, ?_⟩, fun _ => rfl⟩ ?_
                    case refine_2 => (intro w; go_simp <;> with_reducible rfl)
                    try simp only [Act.put, List.setIfInBounds_toArray, List.set_cons_zero, List.set_cons_succ, List.getElem_toArray, List.getElem_cons_zero, List.getElem_cons_succ]
                    refine wpAnyIn_done (by kernel_rfl) ?_ _
                    gi_wp2
                    refine bodyPost_ret (results_none rfl _ _ _) rfl ?_
                    exact ⟨⟨_, rfl⟩, .inl ⟨k, by omega, HI.out.2.2.2.2, fun _ => HO.out, HJ.out _ _ _ none HJ2.out (grown_of_below HB3.out none) (fun r e => by cases e)⟩⟩
              · have HO : Aside0 (okAt xs k = true) := ⟨by unfold okAt; rw [← HX.out, ← HP.out, ← hrv, v, decide_eq_true g1, decide_eq_true g2, decide_eq_false g3, decide_eq_true g4]; rfl⟩
                rw [g4] at HRF
                have G3 := Aside0.mk g3
                clear v g1 g2 g3 g4 hrv HRV
                gi_wp2
                refine wpIn_region_any (by kernel_rfl) ?_
                change wpAnyIn _ _ _ _ _ _ _ _ _ (World.drew _)
                refine wpAnyIn_take (i := 0) (v := ?_) rfl rfl (by kernel_rfl) (by kernel_rfl) (by kernel_rfl) (fun _ _ _ h => h) ⟨Or.inl ⟨by kernel_rfl, ?_⟩, fun _ => rfl⟩ ?_
                case refine_2 => (intro w; go_simp <;> with_reducible rfl)
                try simp only [Act.put, List.setIfInBounds_toArray, List.set_cons_zero, List.set_cons_succ, List.getElem_toArray, List.getElem_cons_zero, List.getElem_cons_succ]
                refine wpAnyIn_take (i := 1) (v := ?_) rfl rfl (by kernel_rfl) (by kernel_rfl) (by kernel_rfl) (fun _ _ _ h => h) ⟨Or.inl ⟨by kernel_rfl, ?_⟩, fun _ => rfl⟩ ?_
                case refine_2 => (intro w; go_simp <;> with_reducible rfl)
                try simp only [Act.put, List.setIfInBounds_toArray, List.set_cons_zero, List.set_cons_succ, List.getElem_toArray, List.getElem_cons_zero, List.getElem_cons_succ]
                refine wpAnyIn_take (i := 2) (v := ?_) rfl rfl (by kernel_rfl) (by kernel_rfl) (by kernel_rfl) (fun _ _ _ h => h) ⟨Or.inl ⟨by kernel_rfl, ?_⟩, fun _ => rfl⟩ ?_
                case refine_2 => (intro w; go_simp <;> with_reducible rfl)
                try simp only [Act.put, List.setIfInBounds_toArray, List.set_cons_zero, List.set_cons_succ, List.getElem_toArray, List.getElem_cons_zero, List.getElem_cons_succ]
                refine wpAnyIn_ready (rs := [3]) (by kernel_rfl) (by simp) ?_
                refine AllReadyIn.cons rfl (fun K hK => ?_) AllReadyIn.nil
                go_simp
                refine hK _ _ ?_
                clear hK K
                refine wpAnyIn_ready (rs := [4]) (by kernel_rfl) (by simp) ?_
                refine AllReadyIn.cons rfl (fun K hK => ?_) AllReadyIn.nil
                go_simp
                gi_wp2_with (gi_at_call 45; refine (callsIn_wide.2 (chain_valid.calls _ _ _ _ _ true _ HV.out)).mono ?_; rintro e w2 ⟨rfl, hb2⟩; have hk2 := (hb2.block wr.heap.size (by simp)).trans (heap_alloc_new wr _); have z0 : w2.cell? ⟨wr.heap.size, 0, none⟩ = some (.int .i64 x.f0) := (blk_cell hk2 0).trans rfl; have z1 : w2.cell? ⟨wr.heap.size, 1, none⟩ = some (.int .i64 x.f1) := (blk_cell hk2 1).trans rfl; have z2 : w2.cell? ⟨wr.heap.size, 2, none⟩ = some (.int .i64 x.f2) := (blk_cell hk2 2).trans rfl; have z3 : w2.cell? ⟨wr.heap.size, 3, none⟩ = some (.int .i64 x.f3) := (blk_cell hk2 3).trans rfl; have z4 : w2.cell? ⟨wr.heap.size, 4, none⟩ = some (.int .u64 x.f4) := (blk_cell hk2 4).trans rfl; have hbs2 : w2.cell? ⟨Bs, 0, none⟩ = some (.slice (some ad) xs.length c) := ((alloc_drew_below wr _).trans (hb2.mono (by simp))).cell (World.block_lt_of_cell? wr _ hbs) |>.trans hbs; have q0 := (((alloc_drew_below wr _).trans (hb2.mono (by simp))).cell (World.block_lt_of_cell? wr _ hp0)).trans hp0; have q1 := (((alloc_drew_below wr _).trans (hb2.mono (by simp))).cell (World.block_lt_of_cell? wr _ hp1)).trans hp1; have q2 := (((alloc_drew_below wr _).trans (hb2.mono (by simp))).cell (World.block_lt_of_cell? wr _ hp2)).trans hp2; have q3 := (((alloc_drew_below wr _).trans (hb2.mono (by simp))).cell (World.block_lt_of_cell? wr _ hp3)).trans hp3; have q4 := (((alloc_drew_below wr _).trans (hb2.mono (by simp))).cell (World.block_lt_of_cell? wr _ hp4)).trans hp4; have hj2 := HJ.out _ _ _ none (HJ.out _ _ _ none HI.out.1 (grown_of_below (alloc_drew_below _ _) none) (fun r e => by cases e)) (grown_of_below hb2 none) (fun r e => by cases e); have HBW := Aside0.mk ((alloc_drew_below wr _).trans (hb2.mono (by simp))); have HJ2 := Aside0.mk hj2; have HB2 := Aside0.mk hb2; clear hb2; have HK2 := Aside0.mk hk2; clear hk2)
                refine wpAnyIn_take (i := 5) (v := ?_) rfl rfl (by kernel_rfl) (by kernel_rfl) (by kernel_rfl) (fun _ _ _ h => h) ⟨Or.inl ⟨by kernel_rfl, ?_⟩, fun _ => rfl⟩ ?_
                case refine_2 => (intro w; go_simp <;> with_reducible rfl)
                try simp only [Act.put, List.setIfInBounds_toArray, List.set_cons_zero, List.set_cons_succ, List.getElem_toArray, List.getElem_cons_zero, List.getElem_cons_succ]
                refine wpAnyIn_take (i := 6) (v := ?_) rfl rfl (by kernel_rfl) (by kernel_rfl) (by kernel_rfl) (fun _ _ _ h => h) ⟨Or.inl ⟨by kernel_rfl, ?_⟩, fun _ => rfl⟩ ?_
                case refine_2 => (intro w; go_simp <;> with_reducible rfl)
                try simp only [Act.put, List.setIfInBounds_toArray, List.set_cons_zero, List.set_cons_succ, List.getElem_toArray, List.getElem_cons_zero, List.getElem_cons_succ]
                refine wpAnyIn_take (i := 7) (v := ?_) rfl rfl (by kernel_rfl) (by kernel_rfl) (by kernel_rfl) (fun _ _ _ h => h) ⟨Or.inl ⟨by kernel_rfl, ?_⟩, fun _ => rfl⟩ ?_
                case refine_2 => (intro w; go_simp <;> with_reducible rfl)
                try simp only [Act.put, List.setIfInBounds_toArray, List.set_cons_zero, List.set_cons_succ, List.getElem_toArray, List.getElem_cons_zero, List.getElem_cons_succ]
                refine wpAnyIn_take (i := 8) (v := ?_) rfl rfl (by kernel_rfl) (by kernel_rfl) (by kernel_rfl) (fun _ _ _ h => h) ⟨Or.inl ⟨by kernel_rfl, ?_⟩, fun _ => rfl⟩ ?_
                case refine_2 => (intro w; go_simp <;> with_reducible rfl)
                try simp only [Act.put, List.setIfInBounds_toArray, List.set_cons_zero, List.set_cons_succ, List.getElem_toArray, List.getElem_cons_zero, List.getElem_cons_succ]
                refine wpAnyIn_take (i := 10) (v := ?_) rfl rfl (by kernel_rfl) (by kernel_rfl) (by kernel_rfl) (fun _ _ _ h => h) ⟨Or.inl ⟨by kernel_rfl, ?_⟩, fun _ => rfl⟩ ?_
                case refine_2 => (intro w; go_simp <;> with_reducible rfl)
                try simp only [Act.put, List.setIfInBounds_toArray, List.set_cons_zero, List.set_cons_succ, List.getElem_toArray, List.getElem_cons_zero, List.getElem_cons_succ]
                refine wpAnyIn_take (i := 11) (v := ?_) rfl rfl (by kernel_rfl) (by kernel_rfl) (by kernel_rfl) (fun _ _ _ h => h) ⟨Or.inl ⟨by kernel_rfl, ?_⟩, fun _ => rfl⟩ ?_
                case refine_2 => (intro w; go_simp <;> with_reducible rfl)
                try simp only [Act.put, List.setIfInBounds_toArray, List.set_cons_zero, List.set_cons_succ, List.getElem_toArray, List.getElem_cons_zero, List.getElem_cons_succ]
                refine wpAnyIn_ready (rs := [9]) (by kernel_rfl) (by simp) ?_
                refine AllReadyIn.cons rfl (fun K hK => ?_) AllReadyIn.nil
                go_simp
                refine hK _ _ ?_
                clear hK K
                refine wpAnyIn_take (i := 12) (v := ?_) rfl rfl (by kernel_rfl) (by kernel_rfl) (by kernel_rfl) (fun _ _ _ h => h) ⟨Or.inl ⟨by kernel_rfl, ?_⟩, fun _ => rfl⟩ ?_
                case refine_2 => (intro w; go_simp <;> with_reducible rfl)
                try simp only [Act.put, List.setIfInBounds_toArray, List.set_cons_zero, List.set_cons_succ, List.getElem_toArray, List.getElem_cons_zero, List.getElem_cons_succ]
                refine wpAnyIn_take (i := 13) (v := ?_) rfl rfl (by kernel_rfl) (by kernel_rfl) (by kernel_rfl) (fun _ _ _ h => h) ⟨Or.inl ⟨by kernel_rfl, ?_⟩, fun _ => rfl⟩ ?_
                case refine_2 => (intro w; go_simp <;> with_reducible rfl)
                try simp only [Act.put, List.setIfInBounds_toArray, List.set_cons_zero, List.set_cons_succ, List.getElem_toArray, List.getElem_cons_zero, List.getElem_cons_succ]
                refine wpAnyIn_take (i := 14) (v := ?_) rfl rfl (by kernel_rfl) (by kernel_rfl) (by kernel_rfl) (fun _ _ _ h => h) ⟨Or.inl ⟨by kernel_rfl, ?_⟩, fun _ => rfl⟩ ?_
                case refine_2 => (intro w; go_simp <;> with_reducible rfl)
                try simp only [Act.put, List.setIfInBounds_toArray, List.set_cons_zero, List.set_cons_succ, List.getElem_toArray, List.getElem_cons_zero, List.getElem_cons_succ]
                refine wpAnyIn_take (i := 15) (v := ?_) rfl rfl (by kernel_rfl) (by kernel_rfl) (by kernel_rfl) (fun _ _ _ h => h) ⟨Or.inl ⟨by kernel_rfl, ?_⟩, fun _ => rfl⟩ ?_
                case refine_2 => (intro w; go_simp <;> with_reducible rfl)
                try simp only [Act.put, List.setIfInBounds_toArray, List.set_cons_zero, List.set_cons_succ, List.getElem_toArray, List.getElem_cons_zero, List.getElem_cons_succ]
                refine wpAnyIn_take (i := 16) (v := ?_) rfl rfl (by kernel_rfl) (by kernel_rfl) (by kernel_rfl) (fun _ _ _ h => h) ⟨Or.inl ⟨by kernel_rfl, ?_⟩, fun _ => rfl⟩ ?_
                case refine_2 => (intro w; go_simp <;> with_reducible rfl)
                try simp only [Act.put, List.setIfInBounds_toArray, List.set_cons_zero, List.set_cons_succ, List.getElem_toArray, List.getElem_cons_zero, List.getElem_cons_succ]
                refine wpAnyIn_take (i := 17) (v := ?_) rfl rfl (by kernel_rfl) (by kernel_rfl) (by kernel_rfl) (fun _ _ _ h => h) ⟨Or.inl ⟨by kernel_rfl, ?_⟩, fun _ => rfl⟩ ?_
                case refine_2 => (intro w; go_simp <;> with_reducible rfl)
                try simp only [Act.put, List.setIfInBounds_toArray, List.set_cons_zero, List.set_cons_succ, List.getElem_toArray, List.getElem_cons_zero, List.getElem_cons_succ]
                refine wpAnyIn_take (i := 20) (v := ?_) rfl rfl (by kernel_rfl) (by kernel_rfl) (by kernel_rfl) (fun _ _ _ h => h) ⟨Or.inl ⟨by kernel_rfl, ?_⟩, fun _ => rfl⟩ ?_
                case refine_2 => (intro w; go_simp <;> with_reducible rfl)
                try simp only [Act.put, List.setIfInBounds_toArray, List.set_cons_zero, List.set_cons_succ, List.getElem_toArray, List.getElem_cons_zero, List.getElem_cons_succ]
                refine wpAnyIn_take (i := 21) (v := ?_) rfl rfl (by kernel_rfl) (by kernel_rfl) (by kernel_rfl) (fun _ _ _ h => h) ⟨Or.inl ⟨by kernel_rfl, ?_⟩, fun _ => rfl⟩ ?_
                case refine_2 => (intro w; go_simp <;> with_reducible rfl)
                try simp only [Act.put, List.setIfInBounds_toArray, List.set_cons_zero, List.set_cons_succ, List.getElem_toArray, List.getElem_cons_zero, List.getElem_cons_succ]
                refine wpAnyIn_ready (rs := [18, 19]) (by kernel_rfl) (by simp) ?_
                refine AllReadyIn.cons rfl (fun K hK => ?_) (AllReadyIn.cons rfl (fun K hK => ?_) AllReadyIn.nil)
                · go_simp
                  refine hK _ _ ?_
                  clear hK K
                  refine wpAnyIn_ready (rs := [19]) (by kernel_rfl) (by simp) ?_
                  refine AllReadyIn.cons rfl (fun K hK => ?_) AllReadyIn.nil
                  go_simp
                  refine hK _ _ ?_
                  clear hK K
                  refine wpAnyIn_take (i := 22) (v := ?_) rfl rfl (by kernel_rfl) (by kernel_rfl) (by kernel_rfl) (fun _ _ _ h => h) ⟨Or.inl ⟨by kernel_rfl, ?_⟩, fun _ => rfl⟩ ?_
                  case refine_2 => (intro w; go_simp <;> with_reducible rfl)
                  try simp only [Act.put, List.setIfInBounds_toArray, List.set_cons_zero, List.set_cons_succ, List.getElem_toArray, List.getElem_cons_zero, List.getElem_cons_succ]
                  refine wpAnyIn_ready (rs := [23]) (by kernel_rfl) (by simp) ?_
                  refine AllReadyIn.cons rfl (fun K hK => ?_) AllReadyIn.nil
                  go_simp
                  refine hK _ _ ?_
                  clear hK K
                  refine wpAnyIn_ready (rs := [24]) (by kernel_rfl) (by simp) ?_
                  refine AllReadyIn.cons rfl (fun K hK => ?_) AllReadyIn.nil
                  go_simp
                  gi_wp2_with (gi_at_call 46; refine (callsIn_wide.2 (chain_refused.calls _ _ _ _ _ _ _ _ _ _ 0 _ HRF.out)).mono ?_; rintro e w3 ⟨rfl, hb3⟩; have hk3 := (hb3.block wr.heap.size (by have := HB2.out.size; simp at this; omega)).trans HK2.out; have y0 : w3.cell? ⟨wr.heap.size, 0, none⟩ = some (.int .i64 x.f0) := (blk_cell hk3 0).trans rfl; have y1 : w3.cell? ⟨wr.heap.size, 1, none⟩ = some (.int .i64 x.f1) := (blk_cell hk3 1).trans rfl; have y2 : w3.cell? ⟨wr.heap.size, 2, none⟩ = some (.int .i64 x.f2) := (blk_cell hk3 2).trans rfl; have y3 : w3.cell? ⟨wr.heap.size, 3, none⟩ = some (.int .i64 x.f3) := (blk_cell hk3 3).trans rfl; have y4 : w3.cell? ⟨wr.heap.size, 4, none⟩ = some (.int .u64 x.f4) := (blk_cell hk3 4).trans rfl; have hj3 := HJ.out _ _ _ none hj2 (grown_of_below hb3 none) (fun r e => by cases e); obtain ⟨fn, tmps, assign, body, hy, hR⟩ := HY.out k w3 HLT.out (fun j hj => (Nat.lt_or_eq_of_le hj).elim (HI.out.2.2.2.2 j) (fun e => e ▸ HO.out)) hj3; dsimp only [encR, rdN] at hy; rw [← HX.out] at hy; have HJ3 := Aside0.mk hj3; clear hj3; have HBW3 := Aside0.mk (HBW.out.trans (hb3.mono HBW.out.size)); have HB3 := Aside0.mk hb3; clear hb3; have HK3 := Aside0.mk hk3; clear hk3 hj2)
                  refine wpAnyIn_take (i := 25) (v := ?_) rfl rfl (by kernel_rfl) (by kernel_rfl) (by kernel_rfl) (fun _ _ _ h => h) ⟨Or.inl ⟨by kernel_rfl, ?_⟩, fun _ => rfl⟩ ?_
                  case refine_2 => (intro w; go_simp <;> with_reducible rfl)
                  try simp only [Act.put, List.setIfInBounds_toArray, List.set_cons_zero, List.set_cons_succ, List.getElem_toArray, List.getElem_cons_zero, List.getElem_cons_succ]
                  refine wpAnyIn_take (i := 26) (v := ?_) rfl rfl (by kernel_rfl) (by kernel_rfl) (by kernel_rfl) (fun _ _ _ h => h) ⟨Or.inl ⟨by kernel_rfl, ?_⟩, fun _ => rfl⟩ ?_
                  case refine_2 => (intro w; go_simp <;> with_reducible rfl)
                  try simp only [Act.put, List.setIfInBounds_toArray, List.set_cons_zero, List.set_cons_succ, List.getElem_toArray, List.getElem_cons_zero, List.getElem_cons_succ]
                  refine wpAnyIn_take (i := 27) (v := ?_) rfl rfl (by kernel_rfl) (by kernel_rfl) (by kernel_rfl) (fun _ _ _ h => h) ⟨Or.inl ⟨by kernel_rfl, ?_⟩, fun _ => rfl⟩ ?_
                  case refine_2 => (intro w; go_simp <;> with_reducible rfl)
                  try simp only [Act.put, List.setIfInBounds_toArray, List.set_cons_zero, List.set_cons_succ, List.getElem_toArray, List.getElem_cons_zero, List.getElem_cons_succ]
                  refine wpAnyIn_take (i := 28) (v := ?_) rfl rfl (by kernel_rfl) (by kernel_rfl) (by kernel_rfl) (fun _ _ _ h => h) ⟨Or.inl ⟨by kernel_rfl, ?_⟩, fun _ => rfl⟩ ?_
                  case refine_2 => (intro w; go_simp <;> with_reducible rfl)
                  try simp only [Act.put, List.setIfInBounds_toArray, List.set_cons_zero, List.set_cons_succ, List.getElem_toArray, List.getElem_cons_zero, List.getElem_cons_succ]
                  refine wpAnyIn_take (i := 29) (v := ?_) rfl rfl (by kernel_rfl) (by kernel_rfl) (by kernel_rfl) (fun _ _ _ h => h) ⟨Or.inl ⟨by kernel_rfl, ?_⟩, fun _ => rfl⟩ ?_
                  case refine_2 => (intro w; go_simp <;> with_reducible rfl)
                  try simp only [Act.put, List.setIfInBounds_toArray, List.set_cons_zero, List.set_cons_succ, List.getElem_toArray, List.getElem_cons_zero, List.getElem_cons_succ]
                  refine wpAnyIn_take (i := 30) (v := ?_) rfl rfl (by kernel_rfl) (by kernel_rfl) (by kernel_rfl) (fun _ _ _ h => h) ⟨Or.inl ⟨by kernel_rfl, ?_⟩, fun _ => rfl⟩ ?_
                  case refine_2 => (intro w; go_simp <;> with_reducible rfl)
                  try simp only [Act.put, List.setIfInBounds_toArray, List.set_cons_zero, List.set_cons_succ, List.getElem_toArray, List.getElem_cons_zero, List.getElem_cons_succ]
                  refine wpAnyIn_ready (rs := [31]) (by kernel_rfl) (by simp) ?_
                  refine AllReadyIn.cons rfl (fun K hK => ?_) AllReadyIn.nil
                  go_simp
                  refine hK _ _ ?_
                  clear hK K
                  refine wpAnyIn_ready (rs := [32]) (by kernel_rfl) (by simp) ?_
                  refine AllReadyIn.cons rfl (fun K hK => ?_) AllReadyIn.nil
                  go_simp
                  refine hR.mono ?_
                  rintro e W3 (⟨rfl, hJ3, hk3⟩ | ⟨rfl, hJx3⟩)
                  · refine hK _ _ ?_
                    clear hK K
                    refine wpAnyIn_take (i := 33) (v := ?_) rfl rfl (by kernel_rfl) (by kernel_rfl) (by kernel_rfl) (fun _ _ _ h => h) ⟨Or.inl ⟨by kernel_rfl, ?_⟩, fun _ => rfl⟩ ?_
                    case refine_2 => (intro w; go_simp <;> with_reducible rfl)
                    try simp only [Act.put, List.setIfInBounds_toArray, List.set_cons_zero, List.set_cons_succ, List.getElem_toArray, List.getElem_cons_zero, List.getElem_cons_succ]
                    refine wpAnyIn_take (i := 34) (v := ?_) rfl rfl (by kernel_rfl) (by kernel_rfl) (by kernel_rfl) (fun _ _ _ h => h) ⟨Or.inl ⟨by kernel_rfl, ?_⟩, fun _ => rfl⟩ ?_
                    case refine_2 => (intro w; go_simp <;> with_reducible rfl)
                    try simp only [Act.put, List.setIfInBounds_toArray, List.set_cons_zero, List.set_cons_succ, List.getElem_toArray, List.getElem_cons_zero, List.getElem_cons_succ]
                    refine wpAnyIn_done (by kernel_rfl) ?_ _
                    clear hund
                    gi_wp2
                    simp only [show (Value.tuple #[] : Value) = undef from rfl]
                    go_roundw
                    case rel =>
                      exact ⟨k + 1, by simp, by omega, ⟨hJ3, HI.out.2.1.trans ((HBW3.out.mono HI.out.2.1.size).trans hk3.1), hk3.2.trans ((HBW3.out.block Bs (blk_lt HI.out.2.2.1)).trans HI.out.2.2.1), Nat.le_trans HI.out.2.2.2.1 (Nat.le_trans HBW3.out.size hk3.1.size), fun j hj => (Nat.lt_succ_iff_lt_or_eq.1 hj).elim (HI.out.2.2.2.2 j) (fun e => e ▸ HO.out)⟩⟩
                    case measure => simp [intOf]; omega
                  · refine hK _ _ ?_
                    clear hK K
                    refine wpAnyIn_take (i := 33) (v := ?_) rfl rfl (by kernel_rfl) (by kernel_rfl) (by kernel_rfl) (fun _ _ _ h => h) ⟨Or.inl ⟨by kernel_rfl, ?_⟩, fun _ => rfl⟩ ?_
                    case refine_2 => (intro w; go_simp <;> with_reducible rfl)
                    try simp only [Act.put, List.setIfInBounds_toArray, List.set_cons_zero, List.set_cons_succ, List.getElem_toArray, List.getElem_cons_zero, List.getElem_cons_succ]
                    refine wpAnyIn_take (i := 34) (v := ?_) rfl rfl (by kernel_rfl) (by kernel_rfl) (by kernel_rfl) (fun _ _ _ h => h) ⟨Or.inl ⟨by kernel_rfl, ?_⟩, fun _ => rfl⟩ ?_
                    case refine_2 => (intro w; go_simp <;> with_reducible rfl)
                    try simp only [Act.put, List.setIfInBounds_toArray, List.set_cons_zero, List.set_cons_succ, List.getElem_toArray, List.getElem_cons_zero, List.getElem_cons_succ]
                    refine wpAnyIn_done (by kernel_rfl) ?_ _
                    gi_wp2
                    refine bodyPost_ret (results_none rfl _ _ _) rfl ?_
                    exact ⟨⟨_, rfl⟩, .inr ⟨k, HLT.out, fun j hj => (Nat.lt_succ_iff_lt_or_eq.1 hj).elim (HI.out.2.2.2.2 j) (fun e => e ▸ HO.out), hJx3⟩⟩
                · go_simp
                  refine hK _ _ ?_
                  clear hK K
                  refine wpAnyIn_take (i := 22) (v := ?_) rfl rfl (by kernel_rfl) (by kernel_rfl) (by kernel_rfl) (fun _ _ _ h => h) ⟨Or.inl ⟨by kernel_rfl, ?_⟩, fun _ => rfl⟩ ?_
                  case refine_2 => (intro w; go_simp <;> with_reducible rfl)
                  try simp only [Act.put, List.setIfInBounds_toArray, List.set_cons_zero, List.set_cons_succ, List.getElem_toArray, List.getElem_cons_zero, List.getElem_cons_succ]
                  refine wpAnyIn_ready (rs := [18, 23]) (by kernel_rfl) (by simp) ?_
                  refine AllReadyIn.cons rfl (fun K hK => ?_) (AllReadyIn.cons rfl (fun K hK => ?_) AllReadyIn.nil)
                  · go_simp
                    refine hK _ _ ?_
                    clear hK K
                    refine wpAnyIn_ready (rs := [23]) (by kernel_rfl) (by simp) ?_
                    refine AllReadyIn.cons rfl (fun K hK => ?_) AllReadyIn.nil
                    go_simp
                    refine hK _ _ ?_
                    clear hK K
                    refine wpAnyIn_ready (rs := [24]) (by kernel_rfl) (by simp) ?_
                    refine AllReadyIn.cons rfl (fun K hK => ?_) AllReadyIn.nil
                    go_simp
                    gi_wp2_with (gi_at_call 46; refine (callsIn_wide.2 (chain_refused.calls _ _ _ _ _ _ _ _ _ _ 0 _ HRF.out)).mono ?_; rintro e w3 ⟨rfl, hb3⟩; have hk3 := (hb3.block wr.heap.size (by have := HB2.out.size; simp at this; omega)).trans HK2.out; have y0 : w3.cell? ⟨wr.heap.size, 0, none⟩ = some (.int .i64 x.f0) := (blk_cell hk3 0).trans rfl; have y1 : w3.cell? ⟨wr.heap.size, 1, none⟩ = some (.int .i64 x.f1) := (blk_cell hk3 1).trans rfl; have y2 : w3.cell? ⟨wr.heap.size, 2, none⟩ = some (.int .i64 x.f2) := (blk_cell hk3 2).trans rfl; have y3 : w3.cell? ⟨wr.heap.size, 3, none⟩ = some (.int .i64 x.f3) := (blk_cell hk3 3).trans rfl; have y4 : w3.cell? ⟨wr.heap.size, 4, none⟩ = some (.int .u64 x.f4) := (blk_cell hk3 4).trans rfl; have hj3 := HJ.out _ _ _ none hj2 (grown_of_below hb3 none) (fun r e => by cases e); obtain ⟨fn, tmps, assign, body, hy, hR⟩ := HY.out k w3 HLT.out (fun j hj => (Nat.lt_or_eq_of_le hj).elim (HI.out.2.2.2.2 j) (fun e => e ▸ HO.out)) hj3; dsimp only [encR, rdN] at hy; rw [← HX.out] at hy; have HJ3 := Aside0.mk hj3; clear hj3; have HBW3 := Aside0.mk (HBW.out.trans (hb3.mono HBW.out.size)); have HB3 := Aside0.mk hb3; clear hb3; have HK3 := Aside0.mk hk3; clear hk3 hj2)
                    refine wpAnyIn_take (i := 25) (v := ?_) rfl rfl (by kernel_rfl) (by kernel_rfl) (by kernel_rfl) (fun _ _ _ h => h) ⟨Or.inl ⟨by kernel_rfl, ?_⟩, fun _ => rfl⟩ ?_
                    case refine_2 => (intro w; go_simp <;> with_reducible rfl)
                    try simp only [Act.put, List.setIfInBounds_toArray, List.set_cons_zero, List.set_cons_succ, List.getElem_toArray, List.getElem_cons_zero, List.getElem_cons_succ]
                    refine wpAnyIn_take (i := 26) (v := ?_) rfl rfl (by kernel_rfl) (by kernel_rfl) (by kernel_rfl) (fun _ _ _ h => h) ⟨Or.inl ⟨by kernel_rfl, ?_⟩, fun _ => rfl⟩ ?_
                    case refine_2 => (intro w; go_simp <;> with_reducible rfl)
                    try simp only [Act.put, List.setIfInBounds_toArray, List.set_cons_zero, List.set_cons_succ, List.getElem_toArray, List.getElem_cons_zero, List.getElem_cons_succ]
                    refine wpAnyIn_take (i := 27) (v := ?_) rfl rfl (by kernel_rfl) (by kernel_rfl) (by kernel_rfl) (fun _ _ _ h => h) ⟨Or.inl ⟨by kernel_rfl, ?_⟩, fun _ => rfl⟩ ?_
                    case refine_2 => (intro w; go_simp <;> with_reducible rfl)
                    try simp only [Act.put, List.setIfInBounds_toArray, List.set_cons_zero, List.set_cons_succ, List.getElem_toArray, List.getElem_cons_zero, List.getElem_cons_succ]
                    refine wpAnyIn_take (i := 28) (v := ?_) rfl rfl (by kernel_rfl) (by kernel_rfl) (by kernel_rfl) (fun _ _ _ h => h) ⟨Or.inl ⟨by kernel_rfl, ?_⟩, fun _ => rfl⟩ ?_
                    case refine_2 => (intro w; go_simp <;> with_reducible rfl)
                    try simp only [Act.put, List.setIfInBounds_toArray, List.set_cons_zero, List.set_cons_succ, List.getElem_toArray, List.getElem_cons_zero, List.getElem_cons_succ]
                    refine wpAnyIn_take (i := 29) (v := ?_) rfl rfl (by kernel_rfl) (by kernel_rfl) (by kernel_rfl) (fun _ _ _ h => h) ⟨Or.inl ⟨by kernel_rfl, ?_⟩, fun _ => rfl⟩ ?_
                    case refine_2 => (intro w; go_simp <;> with_reducible rfl)
                    try simp only [Act.put, List.setIfInBounds_toArray, List.set_cons_zero, List.set_cons_succ, List.getElem_toArray, List.getElem_cons_zero, List.getElem_cons_succ]
                    refine wpAnyIn_take (i := 30) (v := ?_) rfl rfl (by kernel_rfl) (by kernel_rfl) (by kernel_rfl) (fun _ _ _ h => h) ⟨Or.inl ⟨by kernel_rfl, ?_⟩, fun _ => rfl⟩ ?_
                    case refine_2 => (intro w; go_simp <;> with_reducible rfl)
                    try simp only [Act.put, List.setIfInBounds_toArray, List.set_cons_zero, List.set_cons_succ, List.getElem_toArray, List.getElem_cons_zero, List.getElem_cons_succ]
                    refine wpAnyIn_ready (rs := [31]) (by kernel_rfl) (by simp) ?_
                    refine AllReadyIn.cons rfl (fun K hK => ?_) AllReadyIn.nil
                    go_simp
                    refine hK _ _ ?_
                    clear hK K
                    refine wpAnyIn_ready (rs := [32]) (by kernel_rfl) (by simp) ?_
                    refine AllReadyIn.cons rfl (fun K hK => ?_) AllReadyIn.nil
                    go_simp
                    refine hR.mono ?_
                    rintro e W3 (⟨rfl, hJ3, hk3⟩ | ⟨rfl, hJx3⟩)
                    · refine hK _ _ ?_
                      clear hK K
                      refine wpAnyIn_take (i := 33) (v := ?_) rfl rfl (by kernel_rfl) (by kernel_rfl) (by kernel_rfl) (fun _ _ _ h => h) ⟨Or.inl ⟨by kernel_rfl, ?_⟩, fun _ => rfl⟩ ?_
                      case refine_2 => (intro w; go_simp <;> with_reducible rfl)
                      try simp only [Act.put, List.setIfInBounds_toArray, List.set_cons_zero, List.set_cons_succ, List.getElem_toArray, List.getElem_cons_zero, List.getElem_cons_succ]
                      refine wpAnyIn_take (i := 34) (v := ?_) rfl rfl (by kernel_rfl) (by kernel_rfl) (by kernel_rfl) (fun _ _ _ h => h) ⟨Or.inl ⟨by kernel_rfl, ?_⟩, fun _ => rfl⟩ ?_
                      case refine_2 => (intro w; go_simp <;> with_reducible rfl)
                      try simp only [Act.put, List.setIfInBounds_toArray, List.set_cons_zero, List.set_cons_succ, List.getElem_toArray, List.getElem_cons_zero, List.getElem_cons_succ]
                      refine wpAnyIn_done (by kernel_rfl) ?_ _
                      clear hund
                      gi_wp2
                      simp only [show (Value.tuple #[] : Value) = undef from rfl]
                      go_roundw
                      case rel =>
                        exact ⟨k + 1, by simp, by omega, ⟨hJ3, HI.out.2.1.trans ((HBW3.out.mono HI.out.2.1.size).trans hk3.1), hk3.2.trans ((HBW3.out.block Bs (blk_lt HI.out.2.2.1)).trans HI.out.2.2.1), Nat.le_trans HI.out.2.2.2.1 (Nat.le_trans HBW3.out.size hk3.1.size), fun j hj => (Nat.lt_succ_iff_lt_or_eq.1 hj).elim (HI.out.2.2.2.2 j) (fun e => e ▸ HO.out)⟩⟩
                      case measure => simp [intOf]; omega
                    · refine hK _ _ ?_
                      clear hK K
                      refine wpAnyIn_take (i := 33) (v := ?_) rfl rfl (by kernel_rfl) (by kernel_rfl) (by kernel_rfl) (fun _ _ _ h => h) ⟨Or.inl ⟨by kernel_rfl, ?_⟩, fun _ => rfl⟩ ?_
                      case refine_2 => (intro w; go_simp <;> with_reducible rfl)
                      try simp only [Act.put, List.setIfInBounds_toArray, List.set_cons_zero, List.set_cons_succ, List.getElem_toArray, List.getElem_cons_zero, List.getElem_cons_succ]
                      refine wpAnyIn_take (i := 34) (v := ?_) rfl rfl (by kernel_rfl) (by kernel_rfl) (by kernel_rfl) (fun _ _ _ h => h) ⟨Or.inl ⟨by kernel_rfl, ?_⟩, fun _ => rfl⟩ ?_
                      case refine_2 => (intro w; go_simp <;> with_reducible rfl)
                      try simp only [Act.put, List.setIfInBounds_toArray, List.set_cons_zero, List.set_cons_succ, List.getElem_toArray, List.getElem_cons_zero, List.getElem_cons_succ]
                      refine wpAnyIn_done (by kernel_rfl) ?_ _
                      gi_wp2
                      refine bodyPost_ret (results_none rfl _ _ _) rfl ?_
                      exact ⟨⟨_, rfl⟩, .inr ⟨k, HLT.out, fun j hj => (Nat.lt_succ_iff_lt_or_eq.1 hj).elim (HI.out.2.2.2.2 j) (fun e => e ▸ HO.out), hJx3⟩⟩
                  · go_simp
                    refine hK _ _ ?_
                    clear hK K
                    refine wpAnyIn_ready (rs := [18]) (by kernel_rfl) (by simp) ?_
                    refine AllReadyIn.cons rfl (fun K hK => ?_) AllReadyIn.nil
                    go_simp
                    refine hK _ _ ?_
                    clear hK K
                    refine wpAnyIn_ready (rs := [24]) (by kernel_rfl) (by simp) ?_
                    refine AllReadyIn.cons rfl (fun K hK => ?_) AllReadyIn.nil
                    go_simp
                    gi_wp2_with (gi_at_call 46; refine (callsIn_wide.2 (chain_refused.calls _ _ _ _ _ _ _ _ _ _ 0 _ HRF.out)).mono ?_; rintro e w3 ⟨rfl, hb3⟩; have hk3 := (hb3.block wr.heap.size (by have := HB2.out.size; simp at this; omega)).trans HK2.out; have y0 : w3.cell? ⟨wr.heap.size, 0, none⟩ = some (.int .i64 x.f0) := (blk_cell hk3 0).trans rfl; have y1 : w3.cell? ⟨wr.heap.size, 1, none⟩ = some (.int .i64 x.f1) := (blk_cell hk3 1).trans rfl; have y2 : w3.cell? ⟨wr.heap.size, 2, none⟩ = some (.int .i64 x.f2) := (blk_cell hk3 2).trans rfl; have y3 : w3.cell? ⟨wr.heap.size, 3, none⟩ = some (.int .i64 x.f3) := (blk_cell hk3 3).trans rfl; have y4 : w3.cell? ⟨wr.heap.size, 4, none⟩ = some (.int .u64 x.f4) := (blk_cell hk3 4).trans rfl; have hj3 := HJ.out _ _ _ none hj2 (grown_of_below hb3 none) (fun r e => by cases e); obtain ⟨fn, tmps, assign, body, hy, hR⟩ := HY.out k w3 HLT.out (fun j hj => (Nat.lt_or_eq_of_le hj).elim (HI.out.2.2.2.2 j) (fun e => e ▸ HO.out)) hj3; dsimp only [encR, rdN] at hy; rw [← HX.out] at hy; have HJ3 := Aside0.mk hj3; clear hj3; have HBW3 := Aside0.mk (HBW.out.trans (hb3.mono HBW.out.size)); have HB3 := Aside0.mk hb3; clear hb3; have HK3 := Aside0.mk hk3; clear hk3 hj2)
                    refine wpAnyIn_take (i := 25) (v := ?_) rfl rfl (by kernel_rfl) (by kernel_rfl) (by kernel_rfl) (fun _ _ _ h => h) ⟨Or.inl ⟨by kernel_rfl, ?_⟩, fun _ => rfl⟩ ?_
                    case refine_2 => (intro w; go_simp <;> with_reducible rfl)
                    try simp only [Act.put, List.setIfInBounds_toArray, List.set_cons_zero, List.set_cons_succ, List.getElem_toArray, List.getElem_cons_zero, List.getElem_cons_succ]
                    refine wpAnyIn_take (i := 26) (v := ?_) rfl rfl (by kernel_rfl) (by kernel_rfl) (by kernel_rfl) (fun _ _ _ h => h) ⟨Or.inl ⟨by kernel_rfl, ?_⟩, fun _ => rfl⟩ ?_
                    case refine_2 => (intro w; go_simp <;> with_reducible rfl)
                    try simp only [Act.put, List.setIfInBounds_toArray, List.set_cons_zero, List.set_cons_succ, List.getElem_toArray, List.getElem_cons_zero, List.getElem_cons_succ]
                    refine wpAnyIn_take (i := 27) (v := ?_) rfl rfl (by kernel_rfl) (by kernel_rfl) (by kernel_rfl) (fun _ _ _ h => h) ⟨Or.inl ⟨by kernel_rfl, ?_⟩, fun _ => rfl⟩ ?_
                    case refine_2 => (intro w; go_simp <;> with_reducible rfl)
                    try simp only [Act.put, List.setIfInBounds_toArray, List.set_cons_zero, List.set_cons_succ, List.getElem_toArray, List.getElem_cons_zero, List.getElem_cons_succ]
                    refine wpAnyIn_take (i := 28) (v := ?_) rfl rfl (by kernel_rfl) (by kernel_rfl) (by kernel_rfl) (fun _ _ _ h => h) ⟨Or.inl ⟨by kernel_rfl, ?_⟩, fun _ => rfl⟩ ?_
                    case refine_2 => (intro w; go_simp <;> with_reducible rfl)
                    try simp only [Act.put, List.setIfInBounds_toArray, List.set_cons_zero, List.set_cons_succ, List.getElem_toArray, List.getElem_cons_zero, List.getElem_cons_succ]
                    refine wpAnyIn_take (i := 29) (v := ?_) rfl rfl (by kernel_rfl) (by kernel_rfl) (by kernel_rfl) (fun _ _ _ h => h) ⟨Or.inl ⟨by kernel_rfl, ?_⟩, fun _ => rfl⟩ ?_
                    case refine_2 => (intro w; go_simp <;> with_reducible rfl)
                    try simp only [Act.put, List.setIfInBounds_toArray, List.set_cons_zero, List.set_cons_succ, List.getElem_toArray, List.getElem_cons_zero, List.getElem_cons_succ]
                    refine wpAnyIn_take (i := 30) (v := ?_) rfl rfl (by kernel_rfl) (by kernel_rfl) (by kernel_rfl) (fun _ _ _ h => h) ⟨Or.inl ⟨by kernel_rfl, ?_⟩, fun _ => rfl⟩ ?_
                    case refine_2 => (intro w; go_simp <;> with_reducible rfl)
                    try simp only [Act.put, List.setIfInBounds_toArray, List.set_cons_zero, List.set_cons_succ, List.getElem_toArray, List.getElem_cons_zero, List.getElem_cons_succ]
                    refine wpAnyIn_ready (rs := [31]) (by kernel_rfl) (by simp) ?_
                    refine AllReadyIn.cons rfl (fun K hK => ?_) AllReadyIn.nil
                    go_simp
                    refine hK _ _ ?_
                    clear hK K
                    refine wpAnyIn_ready (rs := [32]) (by kernel_rfl) (by simp) ?_
                    refine AllReadyIn.cons rfl (fun K hK => ?_) AllReadyIn.nil
                    go_simp
                    refine hR.mono ?_
                    rintro e W3 (⟨rfl, hJ3, hk3⟩ | ⟨rfl, hJx3⟩)
                    · refine hK _ _ ?_
                      clear hK K
                      refine wpAnyIn_take (i := 33) (v := ?_) rfl rfl (by kernel_rfl) (by kernel_rfl) (by kernel_rfl) (fun _ _ _ h => h) ⟨Or.inl ⟨by kernel_rfl, ?_⟩, fun _ => rfl⟩ ?_
                      case refine_2 => (intro w; go_simp <;> with_reducible rfl)
                      try simp only [Act.put, List.setIfInBounds_toArray, List.set_cons_zero, List.set_cons_succ, List.getElem_toArray, List.getElem_cons_zero, List.getElem_cons_succ]
                      refine wpAnyIn_take (i := 34) (v := ?_) rfl rfl (by kernel_rfl) (by kernel_rfl) (by kernel_rfl) (fun _ _ _ h => h) ⟨Or.inl ⟨by kernel_rfl, ?_⟩, fun _ => rfl⟩ ?_
                      case refine_2 => (intro w; go_simp <;> with_reducible rfl)
                      try simp only [Act.put, List.setIfInBounds_toArray, List.set_cons_zero, List.set_cons_succ, List.getElem_toArray, List.getElem_cons_zero, List.getElem_cons_succ]
                      refine wpAnyIn_done (by kernel_rfl) ?_ _
                      clear hund
                      gi_wp2
                      simp only [show (Value.tuple #[] : Value) = undef from rfl]
                      go_roundw
                      case rel =>
                        exact ⟨k + 1, by simp, by omega, ⟨hJ3, HI.out.2.1.trans ((HBW3.out.mono HI.out.2.1.size).trans hk3.1), hk3.2.trans ((HBW3.out.block Bs (blk_lt HI.out.2.2.1)).trans HI.out.2.2.1), Nat.le_trans HI.out.2.2.2.1 (Nat.le_trans HBW3.out.size hk3.1.size), fun j hj => (Nat.lt_succ_iff_lt_or_eq.1 hj).elim (HI.out.2.2.2.2 j) (fun e => e ▸ HO.out)⟩⟩
                      case measure => simp [intOf]; omega
                    · refine hK _ _ ?_
                      clear hK K
                      refine wpAnyIn_take (i := 33) (v := ?_) rfl rfl (by kernel_rfl) (by kernel_rfl) (by kernel_rfl) (fun _ _ _ h => h) ⟨Or.inl ⟨by kernel_rfl, ?_⟩, fun _ => rfl⟩ ?_
                      case refine_2 => (intro w; go_simp <;> with_reducible rfl)
                      try simp only [Act.put, List.setIfInBounds_toArray, List.set_cons_zero, List.set_cons_succ, List.getElem_toArray, List.getElem_cons_zero, List.getElem_cons_succ]
                      refine wpAnyIn_take (i := 34) (v := ?_) rfl rfl (by kernel_rfl) (by kernel_rfl) (by kernel_rfl) (fun _ _ _ h => h) ⟨Or.inl ⟨by kernel_rfl, ?_⟩, fun _ => rfl⟩ ?_
                      case refine_2 => (intro w; go_simp <;> with_reducible rfl)
                      try simp only [Act.put, List.setIfInBounds_toArray, List.set_cons_zero, List.set_cons_succ, List.getElem_toArray, List.getElem_cons_zero, List.getElem_cons_succ]
                      refine wpAnyIn_done (by kernel_rfl) ?_ _
                      gi_wp2
                      refine bodyPost_ret (results_none rfl _ _ _) rfl ?_
                      exact ⟨⟨_, rfl⟩, .inr ⟨k, HLT.out, fun j hj => (Nat.lt_succ_iff_lt_or_eq.1 hj).elim (HI.out.2.2.2.2 j) (fun e => e ▸ HO.out), hJx3⟩⟩
      · have hok : okAt xs k = false := by unfold okAt; rw [decide_eq_false g1]; rfl
        have g1b : decide (64 ≤ (k : Int)) = true := decide_eq_true (by omega)
        have HO := Aside0.mk hok
        clear g1 hok
        gi_wp2
        refine wpIn_region_any (by kernel_rfl) ?_
        change wpAnyIn _ _ _ _ _ _ _ _ _ (World.drew _)
        refine wpAnyIn_take (i := 0) (v := ?_) rfl rfl (by kernel_rfl) (by kernel_rfl) (by kernel_rfl) (fun _ _ _ h => h) ⟨Or.inl ⟨by kernel_rfl, ?_⟩, fun _ => rfl⟩ ?_
        case refine_2 => (intro w; go_simp <;> with_reducible rfl)
        try simp only [Act.put, List.setIfInBounds_toArray, List.set_cons_zero, List.set_cons_succ, List.getElem_toArray, List.getElem_cons_zero, List.getElem_cons_succ]
        refine wpAnyIn_take (i := 1) (v := ?_) rfl rfl (by kernel_rfl) (by kernel_rfl) (by kernel_rfl) (fun _ _ _ h => h) ⟨Or.inl ⟨by kernel_rfl, ?_⟩, fun _ => rfl⟩ ?_
        case refine_2 => (intro w; go_simp <;> with_reducible rfl)
        try simp only [Act.put, List.setIfInBounds_toArray, List.set_cons_zero, List.set_cons_succ, List.getElem_toArray, List.getElem_cons_zero, List.getElem_cons_succ]
        refine wpAnyIn_take (i := 2) (v := ?_) rfl rfl (by kernel_rfl) (by kernel_rfl) (by kernel_rfl) (fun _ _ _ h => h) ⟨Or.inl ⟨by kernel_rfl, ?_⟩, fun _ => rfl⟩ ?_
        case refine_2 => (intro w; go_simp <;> with_reducible rfl)
        try simp only [Act.put, List.setIfInBounds_toArray, List.set_cons_zero, List.set_cons_succ, List.getElem_toArray, List.getElem_cons_zero, List.getElem_cons_succ]
        refine wpAnyIn_take (i := 3) (v := undef) rfl rfl (by kernel_rfl) (by kernel_rfl) (by kernel_rfl) (fun _ _ _ h => h) ⟨Or.inr ⟨by kernel_rfl, rfl⟩, fun _ => rfl⟩ ?_
        try simp only [Act.put, List.setIfInBounds_toArray, List.set_cons_zero, List.set_cons_succ, List.getElem_toArray, List.getElem_cons_zero, List.getElem_cons_succ]
        refine wpAnyIn_ready (rs := [4]) (by kernel_rfl) (by simp) ?_
        refine AllReadyIn.cons rfl (fun K hK => ?_) AllReadyIn.nil
        go_simp
        refine hK _ _ ?_
        clear hK K
        refine wpAnyIn_take (i := 5) (v := undef) rfl rfl (by kernel_rfl) (by kernel_rfl) (by kernel_rfl) (fun _ _ _ h => h) ⟨Or.inr ⟨by kernel_rfl, rfl⟩, fun _ => rfl⟩ ?_
        try simp only [Act.put, List.setIfInBounds_toArray, List.set_cons_zero, List.set_cons_succ, List.getElem_toArray, List.getElem_cons_zero, List.getElem_cons_succ]
        refine wpAnyIn_take (i := 6) (v := ?_) rfl rfl (by kernel_rfl) (by kernel_rfl) (by kernel_rfl) (fun _ _ _ h => h) ⟨Or.inl ⟨by kernel_rfl, ?_⟩, fun _ => rfl⟩ ?_
        case refine_2 => (intro w; go_simp <;> with_reducible rfl)
        try simp only [Act.put, List.setIfInBounds_toArray, List.set_cons_zero, List.set_cons_succ, List.getElem_toArray, List.getElem_cons_zero, List.getElem_cons_succ]
        refine wpAnyIn_take (i := 7) (v := ?_) rfl rfl (by kernel_rfl) (by kernel_rfl) (by kernel_rfl) (fun _ _ _ h => h) ⟨Or.inl ⟨by kernel_rfl, ?_⟩, fun _ => rfl⟩ ?_
        case refine_2 => (intro w; go_simp <;> with_reducible rfl)
        try simp only [Act.put, List.setIfInBounds_toArray, List.set_cons_zero, List.set_cons_succ, List.getElem_toArray, List.getElem_cons_zero, List.getElem_cons_succ]
        refine wpAnyIn_take (i := 8) (v := undef) rfl rfl (by kernel_rfl) (by kernel_rfl) (by kernel_rfl) (fun _ _ _ h => h) ⟨Or.inr ⟨by kernel_rfl, rfl⟩, fun _ => rfl⟩ ?_
        try simp only [Act.put, List.setIfInBounds_toArray, List.set_cons_zero, List.set_cons_succ, List.getElem_toArray, List.getElem_cons_zero, List.getElem_cons_succ]
        refine wpAnyIn_take (i := 10) (v := undef) rfl rfl (by kernel_rfl) (by kernel_rfl) (by kernel_rfl) (fun _ _ _ h => h) ⟨Or.inr ⟨by kernel_rfl, rfl⟩, fun _ => rfl⟩ ?_
        try simp only [Act.put, List.setIfInBounds_toArray, List.set_cons_zero, List.set_cons_succ, List.getElem_toArray, List.getElem_cons_zero, List.getElem_cons_succ]
        refine wpAnyIn_take (i := 9) (v := undef) rfl rfl (by kernel_rfl) (by kernel_rfl) (by kernel_rfl) (fun _ _ _ h => h) ⟨Or.inr ⟨by kernel_rfl, rfl⟩, fun _ => rfl⟩ ?_
        try simp only [Act.put, List.setIfInBounds_toArray, List.set_cons_zero, List.set_cons_succ, List.getElem_toArray, List.getElem_cons_zero, List.getElem_cons_succ]
        refine wpAnyIn_take (i := 11) (v := undef) rfl rfl (by kernel_rfl) (by kernel_rfl) (by kernel_rfl) (fun _ _ _ h => h) ⟨Or.inr ⟨by kernel_rfl, rfl⟩, fun _ => rfl⟩ ?_
        try simp only [Act.put, List.setIfInBounds_toArray, List.set_cons_zero, List.set_cons_succ, List.getElem_toArray, List.getElem_cons_zero, List.getElem_cons_succ]
        refine wpAnyIn_take (i := 12) (v := undef) rfl rfl (by kernel_rfl) (by kernel_rfl) (by kernel_rfl) (fun _ _ _ h => h) ⟨Or.inr ⟨by kernel_rfl, rfl⟩, fun _ => rfl⟩ ?_
        try simp only [Act.put, List.setIfInBounds_toArray, List.set_cons_zero, List.set_cons_succ, List.getElem_toArray, List.getElem_cons_zero, List.getElem_cons_succ]
        refine wpAnyIn_take (i := 13) (v := ?_) rfl rfl (by kernel_rfl) (by kernel_rfl) (by kernel_rfl) (fun _ _ _ h => h) ⟨Or.inl ⟨by kernel_rfl, ?_⟩, fun _ => rfl⟩ ?_
        case refine_2 => (intro w; go_simp <;> with_reducible rfl)
        try simp only [Act.put, List.setIfInBounds_toArray, List.set_cons_zero, List.set_cons_succ, List.getElem_toArray, List.getElem_cons_zero, List.getElem_cons_succ]
        refine wpAnyIn_take (i := 14) (v := ?_) rfl rfl (by kernel_rfl) (by kernel_rfl) (by kernel_rfl) (fun _ _ _ h => h) ⟨Or.inl ⟨by kernel_rfl, ?_⟩, fun _ => rfl⟩ ?_
        case refine_2 => (intro w; go_simp <;> with_reducible rfl)
        try simp only [Act.put, List.setIfInBounds_toArray, List.set_cons_zero, List.set_cons_succ, List.getElem_toArray, List.getElem_cons_zero, List.getElem_cons_succ]
        refine wpAnyIn_take (i := 15) (v := undef) rfl rfl (by kernel_rfl) (by kernel_rfl) (by kernel_rfl) (fun _ _ _ h => h) ⟨Or.inr ⟨by kernel_rfl, rfl⟩, fun _ => rfl⟩ ?_
        try simp only [Act.put, List.setIfInBounds_toArray, List.set_cons_zero, List.set_cons_succ, List.getElem_toArray, List.getElem_cons_zero, List.getElem_cons_succ]
        refine wpAnyIn_take (i := 16) (v := undef) rfl rfl (by kernel_rfl) (by kernel_rfl) (by kernel_rfl) (fun _ _ _ h => h) ⟨Or.inr ⟨by kernel_rfl, rfl⟩, fun _ => rfl⟩ ?_
        try simp only [Act.put, List.setIfInBounds_toArray, List.set_cons_zero, List.set_cons_succ, List.getElem_toArray, List.getElem_cons_zero, List.getElem_cons_succ]
        refine wpAnyIn_take (i := 17) (v := undef) rfl rfl (by kernel_rfl) (by kernel_rfl) (by kernel_rfl) (fun _ _ _ h => h) ⟨Or.inr ⟨by kernel_rfl, rfl⟩, fun _ => rfl⟩ ?_
        try simp only [Act.put, List.setIfInBounds_toArray, List.set_cons_zero, List.set_cons_succ, List.getElem_toArray, List.getElem_cons_zero, List.getElem_cons_succ]
        refine wpAnyIn_take (i := 20) (v := undef) rfl rfl (by kernel_rfl) (by kernel_rfl) (by kernel_rfl) (fun _ _ _ h => h) ⟨Or.inr ⟨by kernel_rfl, rfl⟩, fun _ => rfl⟩ ?_
        try simp only [Act.put, List.setIfInBounds_toArray, List.set_cons_zero, List.set_cons_succ, List.getElem_toArray, List.getElem_cons_zero, List.getElem_cons_succ]
        refine wpAnyIn_take (i := 21) (v := undef) rfl rfl (by kernel_rfl) (by kernel_rfl) (by kernel_rfl) (fun _ _ _ h => h) ⟨Or.inr ⟨by kernel_rfl, rfl⟩, fun _ => rfl⟩ ?_
        try simp only [Act.put, List.setIfInBounds_toArray, List.set_cons_zero, List.set_cons_succ, List.getElem_toArray, List.getElem_cons_zero, List.getElem_cons_succ]
        refine wpAnyIn_take (i := 18) (v := undef) rfl rfl (by kernel_rfl) (by kernel_rfl) (by kernel_rfl) (fun _ _ _ h => h) ⟨Or.inr ⟨by kernel_rfl, rfl⟩, fun _ => rfl⟩ ?_
        try simp only [Act.put, List.setIfInBounds_toArray, List.set_cons_zero, List.set_cons_succ, List.getElem_toArray, List.getElem_cons_zero, List.getElem_cons_succ]
        refine wpAnyIn_take (i := 19) (v := undef) rfl rfl (by kernel_rfl) (by kernel_rfl) (by kernel_rfl) (fun _ _ _ h => h) ⟨Or.inr ⟨by kernel_rfl, rfl⟩, fun _ => rfl⟩ ?_
        try simp only [Act.put, List.setIfInBounds_toArray, List.set_cons_zero, List.set_cons_succ, List.getElem_toArray, List.getElem_cons_zero, List.getElem_cons_succ]
        refine wpAnyIn_take (i := 22) (v := undef) rfl rfl (by kernel_rfl) (by kernel_rfl) (by kernel_rfl) (fun _ _ _ h => h) ⟨Or.inr ⟨by kernel_rfl, rfl⟩, fun _ => rfl⟩ ?_
        try simp only [Act.put, List.setIfInBounds_toArray, List.set_cons_zero, List.set_cons_succ, List.getElem_toArray, List.getElem_cons_zero, List.getElem_cons_succ]
        refine wpAnyIn_take (i := 23) (v := undef) rfl rfl (by kernel_rfl) (by kernel_rfl) (by kernel_rfl) (fun _ _ _ h => h) ⟨Or.inr ⟨by kernel_rfl, rfl⟩, fun _ => rfl⟩ ?_
        try simp only [Act.put, List.setIfInBounds_toArray, List.set_cons_zero, List.set_cons_succ, List.getElem_toArray, List.getElem_cons_zero, List.getElem_cons_succ]
        refine wpAnyIn_ready (rs := [24]) (by kernel_rfl) (by simp) ?_
        refine AllReadyIn.cons rfl (fun K hK => ?_) AllReadyIn.nil
        go_simp
        refine hK _ _ ?_
        clear hK K
        refine wpAnyIn_take (i := 25) (v := undef) rfl rfl (by kernel_rfl) (by kernel_rfl) (by kernel_rfl) (fun _ _ _ h => h) ⟨Or.inr ⟨by kernel_rfl, rfl⟩, fun _ => rfl⟩ ?_
        try simp only [Act.put, List.setIfInBounds_toArray, List.set_cons_zero, List.set_cons_succ, List.getElem_toArray, List.getElem_cons_zero, List.getElem_cons_succ]
        refine wpAnyIn_take (i := 26) (v := undef) rfl rfl (by kernel_rfl) (by kernel_rfl) (by kernel_rfl) (fun _ _ _ h => h) ⟨Or.inr ⟨by kernel_rfl, rfl⟩, fun _ => rfl⟩ ?_
        try simp only [Act.put, List.setIfInBounds_toArray, List.set_cons_zero, List.set_cons_succ, List.getElem_toArray, List.getElem_cons_zero, List.getElem_cons_succ]
        refine wpAnyIn_take (i := 27) (v := ?_) rfl rfl (by kernel_rfl) (by kernel_rfl) (by kernel_rfl) (fun _ _ _ h => h) ⟨Or.inl ⟨by kernel_rfl, ?_⟩, fun _ => rfl⟩ ?_
        case refine_2 => (intro w; go_simp <;> with_reducible rfl)
        try simp only [Act.put, List.setIfInBounds_toArray, List.set_cons_zero, List.set_cons_succ, List.getElem_toArray, List.getElem_cons_zero, List.getElem_cons_succ]
        refine wpAnyIn_take (i := 28) (v := ?_) rfl rfl (by kernel_rfl) (by kernel_rfl) (by kernel_rfl) (fun _ _ _ h => h) ⟨Or.inl ⟨by kernel_rfl, ?_⟩, fun _ => rfl⟩ ?_
        case refine_2 => (intro w; go_simp <;> with_reducible rfl)
        try simp only [Act.put, List.setIfInBounds_toArray, List.set_cons_zero, List.set_cons_succ, List.getElem_toArray, List.getElem_cons_zero, List.getElem_cons_succ]
        refine wpAnyIn_take (i := 29) (v := undef) rfl rfl (by kernel_rfl) (by kernel_rfl) (by kernel_rfl) (fun _ _ _ h => h) ⟨Or.inr ⟨by kernel_rfl, rfl⟩, fun _ => rfl⟩ ?_
        try simp only [Act.put, List.setIfInBounds_toArray, List.set_cons_zero, List.set_cons_succ, List.getElem_toArray, List.getElem_cons_zero, List.getElem_cons_succ]
        refine wpAnyIn_take (i := 30) (v := undef) rfl rfl (by kernel_rfl) (by kernel_rfl) (by kernel_rfl) (fun _ _ _ h => h) ⟨Or.inr ⟨by kernel_rfl, rfl⟩, fun _ => rfl⟩ ?_
        try simp only [Act.put, List.setIfInBounds_toArray, List.set_cons_zero, List.set_cons_succ, List.getElem_toArray, List.getElem_cons_zero, List.getElem_cons_succ]
        refine wpAnyIn_take (i := 31) (v := undef) rfl rfl (by kernel_rfl) (by kernel_rfl) (by kernel_rfl) (fun _ _ _ h => h) ⟨Or.inr ⟨by kernel_rfl, rfl⟩, fun _ => rfl⟩ ?_
        try simp only [Act.put, List.setIfInBounds_toArray, List.set_cons_zero, List.set_cons_succ, List.getElem_toArray, List.getElem_cons_zero, List.getElem_cons_succ]
        refine wpAnyIn_ready (rs := [32]) (by kernel_rfl) (by simp) ?_
        refine AllReadyIn.cons rfl (fun K hK => ?_) AllReadyIn.nil
        go_simp
        refine hK _ _ ?_
        clear hK K
        refine wpAnyIn_take (i := 33) (v := undef) rfl rfl (by kernel_rfl) (by kernel_rfl) (by kernel_rfl) (fun _ _ _ h => h) ⟨Or.inr ⟨by kernel_rfl, rfl⟩, fun _ => rfl⟩ ?_
        try simp only [Act.put, List.setIfInBounds_toArray, List.set_cons_zero, List.set_cons_succ, List.getElem_toArray, List.getElem_cons_zero, List.getElem_cons_succ]
        refine wpAnyIn_take (i := 34) (v := ?_) rfl rfl (by kernel_rfl) (by kernel_rfl) (by kernel_rfl) (fun _ _ _ h => h) ⟨Or.inl ⟨by kernel_rfl, ?_⟩, fun _ => rfl⟩ ?_
        case refine_2 => (intro w; go_simp <;> with_reducible rfl)
        try simp only [Act.put, List.setIfInBounds_toArray, List.set_cons_zero, List.set_cons_succ, List.getElem_toArray, List.getElem_cons_zero, List.getElem_cons_succ]
        refine wpAnyIn_done (by kernel_rfl) ?_ _
        gi_wp2
        refine bodyPost_ret (results_none rfl _ _ _) rfl ?_
        exact ⟨⟨_, rfl⟩, .inl ⟨k, by omega, HI.out.2.2.2.2, fun _ => HO.out, HJ.out _ _ _ none HI.out.1 (grown_of_below (alloc_drew_below _ _) none) (fun r e => by cases e)⟩⟩
    · obtain rfl : k = xs.length := by omega
      gi_wp2
      go_end0
      exact ⟨⟨_, rfl⟩, .inl ⟨_, Nat.le_refl _, HI.out.2.2.2.2, fun h => absurd h (Nat.lt_irrefl _), HI.out.1⟩⟩
end Go.Proofs.Ytenkffjlpdappaa.Pr
