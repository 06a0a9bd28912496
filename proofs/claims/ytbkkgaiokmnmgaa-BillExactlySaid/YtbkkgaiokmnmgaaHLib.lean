/- The library's sort.Search and sort.SearchInts over this program: with a test that only adds to memory, and of an ascending row. -/
import Derived.Test.YtbkkgaiokmnmgaaHBox
import Derived.RegionTactic
import Derived.Deep.LoopGhost
import Derived.Shelf.Abstract
namespace Go.Proofs.Ytbkkgaiokmnmgaa.Pr
open Go.RowKit Go.Proofs.YtbkkgaiokmnmgaaW.PrintWords Go.Proofs.YtbkkgaiokmnmgaaW.PrintLast Go.Proofs.YtbkkgaiokmnmgaaW.PrintMore
set_option linter.unusedVariables false
set_option linter.unusedSimpArgs false

/-- The first index at which a test says yes. -/
def SearchPost (n : Nat) (p : Nat → Bool) (e : Ending) : Prop := ∃ k : Int, e = .returned (.int .i64 k) ∧ 0 ≤ k ∧ k ≤ n ∧ (∀ t : Nat, (t : Int) < k → p t = false) ∧ (∀ t : Nat, k ≤ t → t < n → p t = true)

set_option maxHeartbeats 4000000 in
set_option maxRecDepth 1000000 in
theorem lib_Search {g : Nat} {cb : Array Value} (n : Nat) (p : Nat → Bool) (w : World) (eg : ∀ args w, (callFunc g args).run Try.prog w = .ok (.enter g args) w) (hn : n < 4611686018427387904)
    (hf : ∀ i : Nat, i < n → ∀ W, Below w.heap.size w W → Calls Try.prog g (#[.int .i64 i] ++ cb) W fun e W' => e = .returned (.bool (p i)) ∧ Below w.heap.size w W')
    (hmono : ∀ a b, a ≤ b → b < n → p a = true → p b = true) :
    Calls Try.prog 107 #[.int .i64 n, .func (.func g) #[] cb] w fun e w' => SearchPost n p e ∧ Below w.heap.size w w' := by
  have HF := Aside0.mk hf
  have M := Aside0.mk hmono
  clear hf hmono
  go_enter Try.func107, Try.ntmps107
  go_wp2
  go_loopg [5, 6] n (fun kx s5 s6 wr => ∃ (lo hi : Nat), s5 = .int .i64 lo ∧ s6 = .int .i64 hi ∧ lo ≤ hi ∧ hi ≤ n ∧ hi - lo ≤ kx ∧ Aside0 (Below w.heap.size w wr) ∧
    Aside0 ((∀ t, t < lo → p t = false) ∧ (∀ t, hi ≤ t → t < n → p t = true)))
  case atStart => exact ⟨0, n, rfl, rfl, Nat.zero_le _, Nat.le_refl _, by omega, ⟨Below.refl _ _⟩, ⟨⟨fun t ht => absurd ht (Nat.not_lt_zero _), fun t h1 h2 => by omega⟩⟩⟩
  case round =>
    obtain ⟨lo, hi, rfl, rfl, hlh, hin, hg, HB, I⟩ := hrel
    by_cases hlt : lo < hi
    · have hc := HF.out ((lo + hi) / 2) (by omega) _ HB.out
      rw [show (((lo + hi) / 2 : Nat) : Int) = ((lo : Int) + (hi : Int)) / 2 by omega] at hc
      cases hp : p ((lo + hi) / 2) <;> rw [hp] at hc
      · have HP := Aside0.mk hp
        clear hp
        go_wp2_with (go_at_fn g; refine hc.mono ?_; rintro e w' ⟨rfl, hb2⟩)
        have HB2 := Aside0.mk hb2
        clear hb2
        go_roundg (hi - ((lo + hi) / 2 + 1))
        case measure => omega
        case rel =>
          exact ⟨(lo + hi) / 2 + 1, hi, by rw [show ((lo : Int) + (hi : Int)) / 2 + 1 = (((lo + hi) / 2 + 1 : Nat) : Int) by omega], rfl, by omega, hin, Nat.le_refl _, HB2, ⟨⟨fun t ht => (by
            cases h : p t with
            | false => rfl
            | true => have := M.out t ((lo + hi) / 2) (by omega) (by omega) h; rw [HP.out] at this; cases this), I.out.2⟩⟩⟩
      · have HP := Aside0.mk hp
        clear hp
        go_wp2_with (go_at_fn g; refine hc.mono ?_; rintro e w' ⟨rfl, hb2⟩)
        have HB2 := Aside0.mk hb2
        clear hb2
        go_roundg ((lo + hi) / 2 - lo)
        case measure => omega
        case rel =>
          exact ⟨lo, (lo + hi) / 2, rfl, by rw [show ((lo : Int) + (hi : Int)) / 2 = (((lo + hi) / 2 : Nat) : Int) by omega], by omega, by omega, Nat.le_refl _, HB2, ⟨⟨I.out.1, fun t ht htn => M.out ((lo + hi) / 2) t ht htn HP.out⟩⟩⟩
    · obtain rfl : hi = lo := by omega
      go_wp2
      go_ret
      exact ⟨⟨hi, rfl, Int.natCast_nonneg _, by omega, fun t ht => I.out.1 t (by omega), fun t ht => I.out.2 t (by omega)⟩, HB.out⟩

/-! ### boxes -/

theorem lib_SearchInts_1 (ba bx : Nat) (A : Option Addr) (c : Nat) (xs : List Int) (x i : Int) (W : World) (h0 : 0 ≤ i) (hi : i < (xs.length : Int)) (ha : W.cell? ⟨ba, 0, none⟩ = some (.slice A xs.length c)) (hx : W.cell? ⟨bx, 0, none⟩ = some (.int .i64 x)) (hr : Kd.C (Kd.int .i64) W A xs.length xs) :
    Calls Try.prog 129 (#[.int .i64 i] ++ #[.pointer (some ⟨ba, 0, none⟩), .pointer (some ⟨bx, 0, none⟩)]) W fun e W' => e = .returned (.bool (decide (x ≤ rd xs i))) ∧ Below W.heap.size W W' := by
  obtain ⟨ad, rfl, hc⟩ := Kd.at_int hr i h0 hi
  generalize rd xs i = y at hc ⊢
  replace h0 := eq_true h0
  replace hi := eq_true hi
  clear hr
  go_enter Try.func129, Try.ntmps129
  go_wp2
  go_region
  all_goals go_wp2
  all_goals go_ret
  all_goals exact ⟨by first | rfl | simp, by repeat (first | exact Below.refl _ _ | apply below_drew | apply pw_below_drewN)⟩
end Go.Proofs.Ytbkkgaiokmnmgaa.Pr
