/- Package record over this program: Sign. -/
import Derived.Test.YtenkffjlpdappaaHChain
namespace Go.Proofs.Ytenkffjlpdappaa.Pr
open Go.RowKit Go.Proofs.YtenkffjlpdappaaW.PrintWords Go.Proofs.YtenkffjlpdappaaW.PrintLast Go.Proofs.YtenkffjlpdappaaW.PrintMore
set_option linter.unusedVariables false
set_option linter.unusedSimpArgs false

theorem below_thenR {B : Nat} {w w1 w2 : World} (h : Below B w w1) (k : Below w1.heap.size w1 w2) (hs : B ≤ w.heap.size := by exact Nat.le_refl _) : Below B w w2 := below_then h (Nat.le_trans hs h.size) k
def lenV : Value → Nat
  | .slice _ n _ => n
  | _ => 0
/-- The state behind three times four numbers. -/
def signF (a0 a1 a2 a3 a4 a5 a6 a7 a8 key : Int) : Int := linkF [a8, 0, 0, 0] (linkF [a4, a5, a6, a7] (linkF [a0, a1, a2, a3] key 32) 32) 32
def SumRel (B : Nat) (x0 x1 x2 x3 : Int) (s0 s1 : Value) : Prop :=
  (s0 = .int .u64 x0 ∧ s1 = .slice (some ⟨B, 0, none⟩) 12 12) ∨ (s0 = .int .u64 x1 ∧ s1 = .slice (some ⟨B, 4, none⟩) 8 8) ∨ (s0 = .int .u64 x2 ∧ s1 = .slice (some ⟨B, 8, none⟩) 4 4) ∨ (s0 = .int .u64 x3 ∧ s1 = .slice (some ⟨B, 8, none⟩) 0 0)
set_option maxHeartbeats 4000000 in
theorem sums_calls (B : Nat) (t : TypeId) (a0 a1 a2 a3 a4 a5 a6 a7 a8 key r : Int) (w : World) (hB : w.heap[B]? = some (.cells #[.int .i64 a0, .int .i64 a1, .int .i64 a2, .int .i64 a3, .int .i64 a4, .int .i64 a5, .int .i64 a6, .int .i64 a7, .int .i64 a8, .int .i64 0, .int .i64 0, .int .i64 0] t (0, 0))) (hr : signF a0 a1 a2 a3 a4 a5 a6 a7 a8 key = r) :
    Calls Try.prog 40 #[.int .u64 key, .slice (some ⟨B, 0, none⟩) 12 12] w fun e w' => e = .returned (.int .u64 r) ∧ Below w.heap.size w w' := by
  obtain ⟨x1, h1⟩ : ∃ x1, linkF [a0, a1, a2, a3] key 32 = x1 := ⟨_, rfl⟩
  obtain ⟨x2, h2⟩ : ∃ x2, linkF [a4, a5, a6, a7] x1 32 = x2 := ⟨_, rfl⟩
  have h3 : linkF [a8, 0, 0, 0] x2 32 = r := by rw [← h2, ← h1]; exact hr
  clear hr
  have L1 : Aside0 (chain_Link.f key a0 a1 a2 a3 0 = some x1) := ⟨by rw [← h1]; rfl⟩
  have L2 : Aside0 (chain_Link.f x1 a4 a5 a6 a7 0 = some x2) := ⟨by rw [← h2]; rfl⟩
  have L3 : Aside0 (chain_Link.f x2 a8 0 0 0 0 = some r) := ⟨by rw [← h3]; rfl⟩
  have HB := Aside0.mk hB
  clear h1 h2 h3 hB
  go_enter Try.func40, Try.ntmps40
  go_wp2
  go_loopw [0, 1] (fun s0 s1 wr => SumRel B key x1 x2 r s0 s1 ∧ Aside0 (Below w.heap.size w wr)) (fun _ s1 _ => lenV s1)
  case atStart => exact ⟨Or.inl ⟨rfl, rfl⟩, ⟨Below.refl _ _⟩⟩
  case round =>
    obtain ⟨hrel, HBl⟩ := hrel
    have HK := Aside0.mk ((HBl.out.block _ (blk_lt HB.out)).trans HB.out)
    rcases hrel with ⟨rfl, rfl⟩ | ⟨rfl, rfl⟩ | ⟨rfl, rfl⟩ | ⟨rfl, rfl⟩
    · have c0 : wr.cell? ⟨B, 0, none⟩ = some (.int .i64 a0) := (blk_cell HK.out 0).trans rfl
      have c1 : wr.cell? ⟨B, 1, none⟩ = some (.int .i64 a1) := (blk_cell HK.out 1).trans rfl
      have c2 : wr.cell? ⟨B, 2, none⟩ = some (.int .i64 a2) := (blk_cell HK.out 2).trans rfl
      have c3 : wr.cell? ⟨B, 3, none⟩ = some (.int .i64 a3) := (blk_cell HK.out 3).trans rfl
      have KS := Aside0.mk (show ∀ w', Below wr.heap.size wr w' → (w'.cell? ⟨B, 0, none⟩ = some (.int .i64 a0) ∧ w'.cell? ⟨B, 1, none⟩ = some (.int .i64 a1) ∧ w'.cell? ⟨B, 2, none⟩ = some (.int .i64 a2) ∧ w'.cell? ⟨B, 3, none⟩ = some (.int .i64 a3) ∧ Aside0 (Below wr.heap.size wr w')) from fun w' h => ⟨pw_cell_below h c0, pw_cell_below h c1, pw_cell_below h c2, pw_cell_below h c3, ⟨h⟩⟩)
      go_wp2
      go_region_held3 (fun w' => w'.cell? ⟨B, 0, none⟩ = some (.int .i64 a0) ∧ w'.cell? ⟨B, 1, none⟩ = some (.int .i64 a1) ∧ w'.cell? ⟨B, 2, none⟩ = some (.int .i64 a2) ∧ w'.cell? ⟨B, 3, none⟩ = some (.int .i64 a3) ∧ Aside0 (Below wr.heap.size wr w'))
        ((refine KS.out _ ?_; repeat (first | exact Below.refl _ _ | refine below_thenR ?_ hb2 | apply below_drew1)))
        ((go_at_call 32; refine (chain_Link.calls key a0 a1 a2 a3 0 x1 _ L1.out).mono ?_; rintro e w' ⟨rfl, hb2⟩))
      go_wp2
      go_roundw
      case rel => exact ⟨Or.inr (Or.inl ⟨rfl, rfl⟩), ⟨HBl.out.trans ((below_thenR (below_drew1 (Below.refl _ wr)) hb2).mono HBl.out.size)⟩⟩
      case measure => simp [lenV]
    · have c0 : wr.cell? ⟨B, 4, none⟩ = some (.int .i64 a4) := (blk_cell HK.out 4).trans rfl
      have c1 : wr.cell? ⟨B, 5, none⟩ = some (.int .i64 a5) := (blk_cell HK.out 5).trans rfl
      have c2 : wr.cell? ⟨B, 6, none⟩ = some (.int .i64 a6) := (blk_cell HK.out 6).trans rfl
      have c3 : wr.cell? ⟨B, 7, none⟩ = some (.int .i64 a7) := (blk_cell HK.out 7).trans rfl
      have KS := Aside0.mk (show ∀ w', Below wr.heap.size wr w' → (w'.cell? ⟨B, 4, none⟩ = some (.int .i64 a4) ∧ w'.cell? ⟨B, 5, none⟩ = some (.int .i64 a5) ∧ w'.cell? ⟨B, 6, none⟩ = some (.int .i64 a6) ∧ w'.cell? ⟨B, 7, none⟩ = some (.int .i64 a7) ∧ Aside0 (Below wr.heap.size wr w')) from fun w' h => ⟨pw_cell_below h c0, pw_cell_below h c1, pw_cell_below h c2, pw_cell_below h c3, ⟨h⟩⟩)
      go_wp2
      go_region_held3 (fun w' => w'.cell? ⟨B, 4, none⟩ = some (.int .i64 a4) ∧ w'.cell? ⟨B, 5, none⟩ = some (.int .i64 a5) ∧ w'.cell? ⟨B, 6, none⟩ = some (.int .i64 a6) ∧ w'.cell? ⟨B, 7, none⟩ = some (.int .i64 a7) ∧ Aside0 (Below wr.heap.size wr w'))
        ((refine KS.out _ ?_; repeat (first | exact Below.refl _ _ | refine below_thenR ?_ hb2 | apply below_drew1)))
        ((go_at_call 32; refine (chain_Link.calls x1 a4 a5 a6 a7 0 x2 _ L2.out).mono ?_; rintro e w' ⟨rfl, hb2⟩))
      go_wp2
      go_roundw
      case rel => exact ⟨Or.inr (Or.inr (Or.inl ⟨rfl, rfl⟩)), ⟨HBl.out.trans ((below_thenR (below_drew1 (Below.refl _ wr)) hb2).mono HBl.out.size)⟩⟩
      case measure => simp [lenV]
    · have c0 : wr.cell? ⟨B, 8, none⟩ = some (.int .i64 a8) := (blk_cell HK.out 8).trans rfl
      have c1 : wr.cell? ⟨B, 9, none⟩ = some (.int .i64 0) := (blk_cell HK.out 9).trans rfl
      have c2 : wr.cell? ⟨B, 10, none⟩ = some (.int .i64 0) := (blk_cell HK.out 10).trans rfl
      have c3 : wr.cell? ⟨B, 11, none⟩ = some (.int .i64 0) := (blk_cell HK.out 11).trans rfl
      have KS := Aside0.mk (show ∀ w', Below wr.heap.size wr w' → (w'.cell? ⟨B, 8, none⟩ = some (.int .i64 a8) ∧ w'.cell? ⟨B, 9, none⟩ = some (.int .i64 0) ∧ w'.cell? ⟨B, 10, none⟩ = some (.int .i64 0) ∧ w'.cell? ⟨B, 11, none⟩ = some (.int .i64 0) ∧ Aside0 (Below wr.heap.size wr w')) from fun w' h => ⟨pw_cell_below h c0, pw_cell_below h c1, pw_cell_below h c2, pw_cell_below h c3, ⟨h⟩⟩)
      go_wp2
      go_region_held3 (fun w' => w'.cell? ⟨B, 8, none⟩ = some (.int .i64 a8) ∧ w'.cell? ⟨B, 9, none⟩ = some (.int .i64 0) ∧ w'.cell? ⟨B, 10, none⟩ = some (.int .i64 0) ∧ w'.cell? ⟨B, 11, none⟩ = some (.int .i64 0) ∧ Aside0 (Below wr.heap.size wr w'))
        ((refine KS.out _ ?_; repeat (first | exact Below.refl _ _ | refine below_thenR ?_ hb2 | apply below_drew1)))
        ((go_at_call 32; refine (chain_Link.calls x2 a8 0 0 0 0 r _ L3.out).mono ?_; rintro e w' ⟨rfl, hb2⟩))
      go_wp2
      go_roundw
      case rel => exact ⟨Or.inr (Or.inr (Or.inr ⟨rfl, rfl⟩)), ⟨HBl.out.trans ((below_thenR (below_drew1 (Below.refl _ wr)) hb2).mono HBl.out.size)⟩⟩
      case measure => simp [lenV]
    · go_wp2
      go_ret
      exact ⟨rfl, HBl.out⟩
def record_Sign.f (a0_0 a0_1 a0_2 a0_3 a0_4 a0_5 a0_6 a0_7 a0_8 a0_9 a0_10 a0_11 a0_12 a1 : Int) : Option Int := some (signF a0_0 a0_1 a0_2 a0_3 a0_4 a0_5 a0_6 a0_7 a0_8 a1)
set_option maxRecDepth 1000000 in
set_option maxHeartbeats 4000000 in
theorem record_Sign.calls (a0_0 a0_1 a0_2 a0_3 a0_4 a0_5 a0_6 a0_7 a0_8 a0_9 a0_10 a0_11 a0_12 a1 r : Int) (w : World) (h : record_Sign.f a0_0 a0_1 a0_2 a0_3 a0_4 a0_5 a0_6 a0_7 a0_8 a0_9 a0_10 a0_11 a0_12 a1 = some r) :
    Calls Try.prog 20 #[.agg #[.int .i64 a0_0, .int .i64 a0_1, .int .i64 a0_2, .int .i64 a0_3, .int .i64 a0_4, .int .i64 a0_5, .int .i64 a0_6, .int .i64 a0_7, .int .i64 a0_8, .int .u64 a0_9, .int .u64 a0_10, .int .u64 a0_11, .int .u64 a0_12], .int .u64 a1] w fun e w' => e = .returned (.int .u64 r) ∧ Below w.heap.size w w' := by
  have HR := Aside0.mk (Option.some.inj h)
  clear h
  have hu := Try.underlying25
  have hu2 := Try.underlying61
  go_enter Try.func20, Try.ntmps20
  go_wp2_with (go_at_call 40; refine (sums_calls (w.heap.size + 1) 61 a0_0 a0_1 a0_2 a0_3 a0_4 a0_5 a0_6 a0_7 a0_8 a1 r _ (second_box _ _ _) HR.out).mono ?_; rintro e w' ⟨rfl, hb⟩; have HB := Aside0.mk ((((Below.refl w.heap.size w).alloc (Nat.le_refl _) _).alloc (by simp) _).trans (hb.mono (by simp; omega))); clear hb)
  go_ret
  exact ⟨rfl, HB.out⟩
end Go.Proofs.Ytenkffjlpdappaa.Pr
