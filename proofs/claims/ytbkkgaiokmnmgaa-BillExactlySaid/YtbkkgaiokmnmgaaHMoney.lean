/- Package money over this program: Times, Started, Tax: their panics, and what a deferred call makes of these. -/
import Derived.Test.YtbkkgaiokmnmgaaHBox
import Derived.Test.YtbkkgaiokmnmgaaPrx2
import Derived.Defers
import Derived.Recover
import Derived.Laws.Pointers
import Derived.WalkSmall
namespace Go.Proofs.Ytbkkgaiokmnmgaa.Pr
open Go.RowKit Go.Proofs.YtbkkgaiokmnmgaaW.PrintWords Go.Proofs.YtbkkgaiokmnmgaaW.PrintLast Go.Proofs.YtbkkgaiokmnmgaaW.PrintMore
set_option linter.unusedVariables false
set_option linter.unusedSimpArgs false

/-- A panic with an error. -/
def errP (c : Int) : List PanicEntry := [{ v := .iface 39 (.int .i64 c), recovered := false }]
theorem need_ok (n l h : Int) (w : World) (h0 : l ≤ n) (h1 : n ≤ h) : Calls Try.prog 116 #[.int .i64 n, .int .i64 l, .int .i64 h] w fun e w' => e = .returned (.tuple #[]) ∧ w' = w := by
  have d0 : decide (n < l) = false := decide_eq_false (by omega)
  have d1 : decide (h < n) = false := decide_eq_false (by omega)
  clear h0 h1
  go_enter Try.func116, Try.ntmps116
  go_wp2
  go_end0
  exact ⟨rfl, rfl⟩
theorem need_bad (n l h : Int) (w : World) (hn : n < l ∨ h < n) : Calls Try.prog 116 #[.int .i64 n, .int .i64 l, .int .i64 h] w fun e w' => e = .panicked (errP 1) ∧ w' = w := by
  by_cases g : n < l
  · have d0 : decide (n < l) = true := decide_eq_true g
    clear g hn
    go_enter Try.func116, Try.ntmps116
    go_wp2
    exact ⟨rfl, rfl, rfl⟩
  · have d0 : decide (n < l) = false := decide_eq_false g
    have d1 : decide (h < n) = true := decide_eq_true (by omega)
    clear g hn
    go_enter Try.func116, Try.ntmps116
    go_wp2
    exact ⟨rfl, rfl, rfl⟩
/-- A panic value is an error of package api. -/
@[go_sem] theorem as_errno (v : Value) (w : World) : (Instr.typeAssert (.iface 39 v) 20 39 true).run Try.prog w = .ok (.tuple #[v, .bool true]) w := by kernel_rfl
set_option maxRecDepth 100000 in
theorem leave_panicking (p q : Addr) (x y c : Int) (older : List PanicEntry) (w : World) (hp : w.cell? p = some (.int .i64 x)) (hpf : w.frozen? p = false) (hq : (w.setCell p (.int .i64 0)).cell? q = some (.int .i64 y)) (hqf : (w.setCell p (.int .i64 0)).frozen? q = false) :
    CallsD Try.prog 115 #[.pointer (some p), .pointer (some q)] (.panicking ({ v := .iface 39 (.int .i64 c), recovered := false } :: older)) w fun e u' w' =>
      e = .returned (.tuple #[]) ∧ u' = .panicking ({ v := .iface 39 (.int .i64 c), recovered := true } :: older) ∧ w' = (w.setCell p (.int .i64 0)).setCell q (.int .i64 c) := by
  refine callsD_of_wpS Try.func115 rfl fun c₀ cs hu => ?_
  apply wpS_seq
  apply wpS_region
  simp [wpOpsS, go_sem, recoverD, hu, Try.ntmps115, Exit.thenS]
  rw [show (#[Value.pointer (some p), Value.pointer (some q)] ++ ((Array.replicate 21 undef).setIfInBounds 5 (.iface 39 (.int .i64 c))).setIfInBounds 2 (.iface 39 (.int .i64 c)) : Array Value) = #[.pointer (some p), .pointer (some q), undef, undef, .iface 39 (.int .i64 c), undef, undef, .iface 39 (.int .i64 c), undef, undef, undef, undef, undef, undef, undef, undef, undef, undef, undef, undef, undef, undef, undef] from by kernel_rfl]
  refine wpS_of_wp ?_
  go_wp2
  cases c₀
  simp_all [bodyPostS, results, Try.results115]
theorem leave_idle (p q : Addr) (w : World) :
    CallsD Try.prog 115 #[.pointer (some p), .pointer (some q)] .returning w fun e u' w' => e = .returned (.tuple #[]) ∧ u' = .returning ∧ w' = w := by
  refine callsD_of_wpS Try.func115 rfl fun c₀ cs hu => ?_
  apply wpS_seq
  apply wpS_region
  simp [wpOpsS, go_sem, recoverD, hu, Try.ntmps115, Exit.thenS]
  rw [show (#[Value.pointer (some p), Value.pointer (some q)] ++ ((Array.replicate 21 undef).setIfInBounds 5 (.nilIface)).setIfInBounds 2 (.nilIface) : Array Value) = #[.pointer (some p), .pointer (some q), undef, undef, .nilIface, undef, undef, .nilIface, undef, undef, undef, undef, undef, undef, undef, undef, undef, undef, undef, undef, undef, undef, undef] from by kernel_rfl]
  refine wpS_of_wp ?_
  go_wp2
  cases c₀
  simp_all [bodyPostS, results, Try.results115]
theorem amount_ok (n : Int) (w : World) (h0 : 0 ≤ n) (h1 : n ≤ 1000000000) : Calls Try.prog 117 #[.int .i64 n] w fun e w' => e = .returned (.int .i64 n) ∧ w' = w := by
  have d0 : decide (n < 0) = false := decide_eq_false (by omega)
  have d1 : decide (1000000000 < n) = false := decide_eq_false (by omega)
  clear h0 h1
  go_enter Try.func117, Try.ntmps117
  go_wp2
  go_ret
  exact ⟨rfl, rfl⟩
theorem amount_bad (n : Int) (w : World) (hn : n < 0 ∨ 1000000000 < n) : Calls Try.prog 117 #[.int .i64 n] w fun e w' => e = .panicked (errP 3) ∧ w' = w := by
  by_cases g : n < 0
  · have d0 : decide (n < 0) = true := decide_eq_true g
    clear g hn
    go_enter Try.func117, Try.ntmps117
    go_wp2
    exact ⟨rfl, rfl, rfl⟩
  · have d0 : decide (n < 0) = false := decide_eq_false g
    have d1 : decide (1000000000 < n) = true := decide_eq_true (by omega)
    clear g hn
    go_enter Try.func117, Try.ntmps117
    go_wp2
    exact ⟨rfl, rfl, rfl⟩
theorem half_w (n d : Int) (w : World) (h : wrap64 (2 * d) ≠ 0) : Calls Try.prog 118 #[.int .i64 n, .int .i64 d] w fun e w' => e = .returned (.int .i64 (wrap64 (Int.tdiv (wrap64 (wrap64 (2 * n) + d)) (wrap64 (2 * d))))) ∧ w' = w := by
  have b0 : (wrap64 (2 * d) == 0) = false := beq_eq_false_iff_ne.mpr h
  have b1 : (wrap64 (2 * d) != 0) = true := bne_iff_ne.mpr h
  go_enter Try.func118, Try.ntmps118
  go_wp2
  go_ret
  exact ⟨rfl, rfl⟩

/-- The number and the error that a guarded function answers. -/
def outP (ok : Bool) (n : Int) : Int × Int := if ok then (if 0 ≤ n ∧ n ≤ 1000000000 then (n, 0) else (0, 3)) else (0, 1)
def halfV (n d : Int) : Int := wrap64 (Int.tdiv (wrap64 (wrap64 (2 * n) + d)) (wrap64 (2 * d)))
theorem wrap_two {d : Int} (h0 : 1 ≤ d) (h1 : d ≤ 1000000000) : wrap64 (2 * d) ≠ 0 := by
  simp only [wrap64]; omega

set_option maxHeartbeats 4000000 in
set_option maxRecDepth 100000 in
theorem Times_bad0 (a b c : Int) (w : World) (hb : a < 0 ∨ 1000000000 < a) : Calls Try.prog 87 #[.int .i64 a, .int .i64 b, .int .i64 c] w fun e w' => e = .returned (.tuple #[.int .i64 (0), .int .i64 1]) ∧ Below w.heap.size w w' := by
  have HB := Aside0.mk hb
  clear hb
  go_enter_defers Try.func87, Try.ntmps87
  go_wp2_with ((first | (go_at_call 116; refine (need_bad _ _ _ _ (by exact HB.out)).mono ?_)); rintro e w2 ⟨rfl, rfl⟩)
  refine leaves_cons (f := 115) (args := #[.pointer (some ⟨w.heap.size, 0, none⟩), .pointer (some ⟨w.heap.size + 1, 0, none⟩)]) (by simp) (by simp [go_sem]) ?_
  refine (leave_panicking ⟨w.heap.size, 0, none⟩ ⟨w.heap.size + 1, 0, none⟩ 0 0 _ [] _ ?_ ?_ ?_ ?_).mono ?_
  · simp [go_sem]
  · simp [go_sem]
  · simp [go_sem]
  · simp [go_sem]
  rintro e u' w'' ⟨rfl, rfl, rfl⟩
  simp [Leaves, settle, results, Try.results87, go_sem]
  first | exact ((Below.refl _ _).alloc (Nat.le_refl _) _).alloc (by simp) _ | exact ⟨rfl, ((Below.refl _ _).alloc (Nat.le_refl _) _).alloc (by simp) _⟩

set_option maxHeartbeats 4000000 in
set_option maxRecDepth 100000 in
theorem Times_bad1 (a b c : Int) (w : World) (h0 : 0 ≤ a ∧ a ≤ 1000000000) (hb : b < 0 ∨ 1000000000 < b) : Calls Try.prog 87 #[.int .i64 a, .int .i64 b, .int .i64 c] w fun e w' => e = .returned (.tuple #[.int .i64 (0), .int .i64 1]) ∧ Below w.heap.size w w' := by
  have H0 := Aside0.mk h0
  have HB := Aside0.mk hb
  clear hb
  clear h0
  go_enter_defers Try.func87, Try.ntmps87
  go_wp2_with ((first | (go_at_call 116; refine (need_ok _ _ _ _ (by first | exact H0.out.1) (by first | exact H0.out.2)).mono ?_) | (go_at_call 116; refine (need_bad _ _ _ _ (by exact HB.out)).mono ?_)); rintro e w2 ⟨rfl, rfl⟩)
  refine leaves_cons (f := 115) (args := #[.pointer (some ⟨w.heap.size, 0, none⟩), .pointer (some ⟨w.heap.size + 1, 0, none⟩)]) (by simp) (by simp [go_sem]) ?_
  refine (leave_panicking ⟨w.heap.size, 0, none⟩ ⟨w.heap.size + 1, 0, none⟩ 0 0 _ [] _ ?_ ?_ ?_ ?_).mono ?_
  · simp [go_sem]
  · simp [go_sem]
  · simp [go_sem]
  · simp [go_sem]
  rintro e u' w'' ⟨rfl, rfl, rfl⟩
  simp [Leaves, settle, results, Try.results87, go_sem]
  first | exact ((Below.refl _ _).alloc (Nat.le_refl _) _).alloc (by simp) _ | exact ⟨rfl, ((Below.refl _ _).alloc (Nat.le_refl _) _).alloc (by simp) _⟩

set_option maxHeartbeats 4000000 in
set_option maxRecDepth 100000 in
theorem Times_bad2 (a b c : Int) (w : World) (h0 : 0 ≤ a ∧ a ≤ 1000000000) (h1 : 0 ≤ b ∧ b ≤ 1000000000) (hb : c < 1 ∨ 1000000000 < c) : Calls Try.prog 87 #[.int .i64 a, .int .i64 b, .int .i64 c] w fun e w' => e = .returned (.tuple #[.int .i64 (0), .int .i64 1]) ∧ Below w.heap.size w w' := by
  have H0 := Aside0.mk h0
  have H1 := Aside0.mk h1
  have HB := Aside0.mk hb
  clear hb
  clear h0 h1
  go_enter_defers Try.func87, Try.ntmps87
  go_wp2_with ((first | (go_at_call 116; refine (need_ok _ _ _ _ (by first | exact H0.out.1 | exact H1.out.1) (by first | exact H0.out.2 | exact H1.out.2)).mono ?_) | (go_at_call 116; refine (need_bad _ _ _ _ (by exact HB.out)).mono ?_)); rintro e w2 ⟨rfl, rfl⟩)
  refine leaves_cons (f := 115) (args := #[.pointer (some ⟨w.heap.size, 0, none⟩), .pointer (some ⟨w.heap.size + 1, 0, none⟩)]) (by simp) (by simp [go_sem]) ?_
  refine (leave_panicking ⟨w.heap.size, 0, none⟩ ⟨w.heap.size + 1, 0, none⟩ 0 0 _ [] _ ?_ ?_ ?_ ?_).mono ?_
  · simp [go_sem]
  · simp [go_sem]
  · simp [go_sem]
  · simp [go_sem]
  rintro e u' w'' ⟨rfl, rfl, rfl⟩
  simp [Leaves, settle, results, Try.results87, go_sem]
  first | exact ((Below.refl _ _).alloc (Nat.le_refl _) _).alloc (by simp) _ | exact ⟨rfl, ((Below.refl _ _).alloc (Nat.le_refl _) _).alloc (by simp) _⟩

set_option maxHeartbeats 4000000 in
set_option maxRecDepth 100000 in
theorem Times_over (a b c : Int) (w : World) (h0 : 0 ≤ a ∧ a ≤ 1000000000) (h1 : 0 ≤ b ∧ b ≤ 1000000000) (h2 : 1 ≤ c ∧ c ≤ 1000000000) (hn : halfV (wrap64 (a * b)) c < 0 ∨ 1000000000 < halfV (wrap64 (a * b)) c) : Calls Try.prog 87 #[.int .i64 a, .int .i64 b, .int .i64 c] w fun e w' => e = .returned (.tuple #[.int .i64 (0), .int .i64 3]) ∧ Below w.heap.size w w' := by
  have H0 := Aside0.mk h0
  have H1 := Aside0.mk h1
  have H2 := Aside0.mk h2
  have HB := Aside0.mk hn
  clear hn
  clear h0 h1 h2
  go_enter_defers Try.func87, Try.ntmps87
  go_wp2_with ((first | (go_at_call 116; refine (need_ok _ _ _ _ (by first | exact H0.out.1 | exact H1.out.1 | exact H2.out.1) (by first | exact H0.out.2 | exact H1.out.2 | exact H2.out.2)).mono ?_) | (go_at_call 118; refine (half_w _ _ _ (wrap_two H2.out.1 H2.out.2)).mono ?_) | (go_at_call 117; refine (amount_bad _ _ (by exact HB.out)).mono ?_)); rintro e w2 ⟨rfl, rfl⟩)
  refine leaves_cons (f := 115) (args := #[.pointer (some ⟨w.heap.size, 0, none⟩), .pointer (some ⟨w.heap.size + 1, 0, none⟩)]) (by simp) (by simp [go_sem]) ?_
  refine (leave_panicking ⟨w.heap.size, 0, none⟩ ⟨w.heap.size + 1, 0, none⟩ 0 0 _ [] _ ?_ ?_ ?_ ?_).mono ?_
  · simp [go_sem]
  · simp [go_sem]
  · simp [go_sem]
  · simp [go_sem]
  rintro e u' w'' ⟨rfl, rfl, rfl⟩
  simp [Leaves, settle, results, Try.results87, go_sem]
  first | exact ((Below.refl _ _).alloc (Nat.le_refl _) _).alloc (by simp) _ | exact ⟨rfl, ((Below.refl _ _).alloc (Nat.le_refl _) _).alloc (by simp) _⟩

set_option maxHeartbeats 4000000 in
set_option maxRecDepth 100000 in
theorem Times_fine (a b c : Int) (w : World) (h0 : 0 ≤ a ∧ a ≤ 1000000000) (h1 : 0 ≤ b ∧ b ≤ 1000000000) (h2 : 1 ≤ c ∧ c ≤ 1000000000) (hn : 0 ≤ halfV (wrap64 (a * b)) c ∧ halfV (wrap64 (a * b)) c ≤ 1000000000) : Calls Try.prog 87 #[.int .i64 a, .int .i64 b, .int .i64 c] w fun e w' => e = .returned (.tuple #[.int .i64 (halfV (wrap64 (a * b)) c), .int .i64 0]) ∧ Below w.heap.size w w' := by
  have H0 := Aside0.mk h0
  have H1 := Aside0.mk h1
  have H2 := Aside0.mk h2
  have HB := Aside0.mk hn
  clear hn
  clear h0 h1 h2
  go_enter_defers Try.func87, Try.ntmps87
  go_wp2_with ((first | (go_at_call 116; refine (need_ok _ _ _ _ (by first | exact H0.out.1 | exact H1.out.1 | exact H2.out.1) (by first | exact H0.out.2 | exact H1.out.2 | exact H2.out.2)).mono ?_) | (go_at_call 118; refine (half_w _ _ _ (wrap_two H2.out.1 H2.out.2)).mono ?_) | (go_at_call 117; refine (amount_ok _ _ (by exact HB.out.1) (by exact HB.out.2)).mono ?_)); rintro e w2 ⟨rfl, rfl⟩)
  refine leaves_cons (f := 115) (args := #[.pointer (some ⟨w.heap.size, 0, none⟩), .pointer (some ⟨w.heap.size + 1, 0, none⟩)]) (by simp) (by simp [go_sem]) ?_
  refine (leave_idle ⟨w.heap.size, 0, none⟩ ⟨w.heap.size + 1, 0, none⟩ _).mono ?_
  rintro e u' w'' ⟨rfl, rfl, rfl⟩
  simp [Leaves, settle, results, Try.results87, go_sem]
  first | exact ((Below.refl _ _).alloc (Nat.le_refl _) _).alloc (by simp) _ | exact ⟨rfl, ((Below.refl _ _).alloc (Nat.le_refl _) _).alloc (by simp) _⟩

def money_Times.v (a b c : Int) : Int × Int := outP (decide ((0 ≤ a ∧ a ≤ 1000000000) ∧ (0 ≤ b ∧ b ≤ 1000000000) ∧ (1 ≤ c ∧ c ≤ 1000000000))) (halfV (wrap64 (a * b)) c)
def money_Times.f (a b c : Int) : Option (Int × Int) := some (money_Times.v a b c)

theorem money_Times.calls (a0 : Int) (a1 : Int) (a2 : Int) (r0 r1 : Int) (w : World) (h : money_Times.f a0 a1 a2 = some (r0, r1)) : Calls Try.prog 87 #[.int .i64 a0, .int .i64 a1, .int .i64 a2] w fun e w' => e = .returned (.tuple #[.int .i64 r0, .int .i64 r1]) ∧ Below w.heap.size w w' := by
  unfold money_Times.f money_Times.v outP at h
  by_cases h0 : 0 ≤ a0 ∧ a0 ≤ 1000000000
  case neg =>
    rw [if_neg (by simp only [decide_eq_true_eq]; omega)] at h
    cases h
    exact Times_bad0 a0 a1 a2 w  (by omega)
  by_cases h1 : 0 ≤ a1 ∧ a1 ≤ 1000000000
  case neg =>
    rw [if_neg (by simp only [decide_eq_true_eq]; omega)] at h
    cases h
    exact Times_bad1 a0 a1 a2 w h0 (by omega)
  by_cases h2 : 1 ≤ a2 ∧ a2 ≤ 1000000000
  case neg =>
    rw [if_neg (by simp only [decide_eq_true_eq]; omega)] at h
    cases h
    exact Times_bad2 a0 a1 a2 w h0 h1 (by omega)
  rw [if_pos (by simp only [decide_eq_true_eq]; exact ⟨h0, h1, h2⟩)] at h
  by_cases hn : 0 ≤ halfV (wrap64 (a0 * a1)) a2 ∧ halfV (wrap64 (a0 * a1)) a2 ≤ 1000000000
  · rw [if_pos hn] at h
    cases h
    exact Times_fine a0 a1 a2 w h0 h1 h2 hn
  · rw [if_neg hn] at h
    cases h
    exact Times_over a0 a1 a2 w h0 h1 h2 (by omega)

set_option maxHeartbeats 4000000 in
set_option maxRecDepth 100000 in
theorem Started_bad0 (a b c : Int) (w : World) (hb : a < 0 ∨ 1000000000 < a) : Calls Try.prog 86 #[.int .i64 a, .int .i64 b, .int .i64 c] w fun e w' => e = .returned (.tuple #[.int .i64 (0), .int .i64 1]) ∧ Below w.heap.size w w' := by
  have HB := Aside0.mk hb
  clear hb
  go_enter_defers Try.func86, Try.ntmps86
  go_wp2_with ((first | (go_at_call 116; refine (need_bad _ _ _ _ (by exact HB.out)).mono ?_)); rintro e w2 ⟨rfl, rfl⟩)
  refine leaves_cons (f := 115) (args := #[.pointer (some ⟨w.heap.size, 0, none⟩), .pointer (some ⟨w.heap.size + 1, 0, none⟩)]) (by simp) (by simp [go_sem]) ?_
  refine (leave_panicking ⟨w.heap.size, 0, none⟩ ⟨w.heap.size + 1, 0, none⟩ 0 0 _ [] _ ?_ ?_ ?_ ?_).mono ?_
  · simp [go_sem]
  · simp [go_sem]
  · simp [go_sem]
  · simp [go_sem]
  rintro e u' w'' ⟨rfl, rfl, rfl⟩
  simp [Leaves, settle, results, Try.results86, go_sem]
  first | exact ((Below.refl _ _).alloc (Nat.le_refl _) _).alloc (by simp) _ | exact ⟨rfl, ((Below.refl _ _).alloc (Nat.le_refl _) _).alloc (by simp) _⟩

set_option maxHeartbeats 4000000 in
set_option maxRecDepth 100000 in
theorem Started_bad1 (a b c : Int) (w : World) (h0 : 0 ≤ a ∧ a ≤ 1000000000) (hb : b < 0 ∨ 1000000000 < b) : Calls Try.prog 86 #[.int .i64 a, .int .i64 b, .int .i64 c] w fun e w' => e = .returned (.tuple #[.int .i64 (0), .int .i64 1]) ∧ Below w.heap.size w w' := by
  have H0 := Aside0.mk h0
  have HB := Aside0.mk hb
  clear hb
  clear h0
  go_enter_defers Try.func86, Try.ntmps86
  go_wp2_with ((first | (go_at_call 116; refine (need_ok _ _ _ _ (by first | exact H0.out.1) (by first | exact H0.out.2)).mono ?_) | (go_at_call 116; refine (need_bad _ _ _ _ (by exact HB.out)).mono ?_)); rintro e w2 ⟨rfl, rfl⟩)
  refine leaves_cons (f := 115) (args := #[.pointer (some ⟨w.heap.size, 0, none⟩), .pointer (some ⟨w.heap.size + 1, 0, none⟩)]) (by simp) (by simp [go_sem]) ?_
  refine (leave_panicking ⟨w.heap.size, 0, none⟩ ⟨w.heap.size + 1, 0, none⟩ 0 0 _ [] _ ?_ ?_ ?_ ?_).mono ?_
  · simp [go_sem]
  · simp [go_sem]
  · simp [go_sem]
  · simp [go_sem]
  rintro e u' w'' ⟨rfl, rfl, rfl⟩
  simp [Leaves, settle, results, Try.results86, go_sem]
  first | exact ((Below.refl _ _).alloc (Nat.le_refl _) _).alloc (by simp) _ | exact ⟨rfl, ((Below.refl _ _).alloc (Nat.le_refl _) _).alloc (by simp) _⟩

set_option maxHeartbeats 4000000 in
set_option maxRecDepth 100000 in
theorem Started_bad2 (a b c : Int) (w : World) (h0 : 0 ≤ a ∧ a ≤ 1000000000) (h1 : 0 ≤ b ∧ b ≤ 1000000000) (hb : c < 1 ∨ 1000000000 < c) : Calls Try.prog 86 #[.int .i64 a, .int .i64 b, .int .i64 c] w fun e w' => e = .returned (.tuple #[.int .i64 (0), .int .i64 1]) ∧ Below w.heap.size w w' := by
  have H0 := Aside0.mk h0
  have H1 := Aside0.mk h1
  have HB := Aside0.mk hb
  clear hb
  clear h0 h1
  go_enter_defers Try.func86, Try.ntmps86
  go_wp2_with ((first | (go_at_call 116; refine (need_ok _ _ _ _ (by first | exact H0.out.1 | exact H1.out.1) (by first | exact H0.out.2 | exact H1.out.2)).mono ?_) | (go_at_call 116; refine (need_bad _ _ _ _ (by exact HB.out)).mono ?_)); rintro e w2 ⟨rfl, rfl⟩)
  refine leaves_cons (f := 115) (args := #[.pointer (some ⟨w.heap.size, 0, none⟩), .pointer (some ⟨w.heap.size + 1, 0, none⟩)]) (by simp) (by simp [go_sem]) ?_
  refine (leave_panicking ⟨w.heap.size, 0, none⟩ ⟨w.heap.size + 1, 0, none⟩ 0 0 _ [] _ ?_ ?_ ?_ ?_).mono ?_
  · simp [go_sem]
  · simp [go_sem]
  · simp [go_sem]
  · simp [go_sem]
  rintro e u' w'' ⟨rfl, rfl, rfl⟩
  simp [Leaves, settle, results, Try.results86, go_sem]
  first | exact ((Below.refl _ _).alloc (Nat.le_refl _) _).alloc (by simp) _ | exact ⟨rfl, ((Below.refl _ _).alloc (Nat.le_refl _) _).alloc (by simp) _⟩

set_option maxHeartbeats 4000000 in
set_option maxRecDepth 100000 in
theorem Started_over (a b c : Int) (w : World) (h0 : 0 ≤ a ∧ a ≤ 1000000000) (h1 : 0 ≤ b ∧ b ≤ 1000000000) (h2 : 1 ≤ c ∧ c ≤ 1000000000) (hn : wrap64 (a * wrap64 (Int.tdiv (wrap64 (wrap64 (b + c) - 1)) c)) < 0 ∨ 1000000000 < wrap64 (a * wrap64 (Int.tdiv (wrap64 (wrap64 (b + c) - 1)) c))) : Calls Try.prog 86 #[.int .i64 a, .int .i64 b, .int .i64 c] w fun e w' => e = .returned (.tuple #[.int .i64 (0), .int .i64 3]) ∧ Below w.heap.size w w' := by
  have H0 := Aside0.mk h0
  have H1 := Aside0.mk h1
  have H2 := Aside0.mk h2
  have b0 : (c == 0) = false := beq_eq_false_iff_ne.mpr (by omega)
  have b1 : (c != 0) = true := bne_iff_ne.mpr (by omega)
  have b2 : ¬ c = 0 := by omega
  have b3 : decide (c = 0) = false := decide_eq_false b2
  have HB := Aside0.mk hn
  clear hn
  clear h0 h1 h2
  go_enter_defers Try.func86, Try.ntmps86
  go_wp2_with ((first | (go_at_call 116; refine (need_ok _ _ _ _ (by first | exact H0.out.1 | exact H1.out.1 | exact H2.out.1) (by first | exact H0.out.2 | exact H1.out.2 | exact H2.out.2)).mono ?_) | (go_at_call 117; refine (amount_bad _ _ (by exact HB.out)).mono ?_)); rintro e w2 ⟨rfl, rfl⟩)
  refine leaves_cons (f := 115) (args := #[.pointer (some ⟨w.heap.size, 0, none⟩), .pointer (some ⟨w.heap.size + 1, 0, none⟩)]) (by simp) (by simp [go_sem]) ?_
  refine (leave_panicking ⟨w.heap.size, 0, none⟩ ⟨w.heap.size + 1, 0, none⟩ 0 0 _ [] _ ?_ ?_ ?_ ?_).mono ?_
  · simp [go_sem]
  · simp [go_sem]
  · simp [go_sem]
  · simp [go_sem]
  rintro e u' w'' ⟨rfl, rfl, rfl⟩
  simp [Leaves, settle, results, Try.results86, go_sem]
  first | exact ((Below.refl _ _).alloc (Nat.le_refl _) _).alloc (by simp) _ | exact ⟨rfl, ((Below.refl _ _).alloc (Nat.le_refl _) _).alloc (by simp) _⟩

set_option maxHeartbeats 4000000 in
set_option maxRecDepth 100000 in
theorem Started_fine (a b c : Int) (w : World) (h0 : 0 ≤ a ∧ a ≤ 1000000000) (h1 : 0 ≤ b ∧ b ≤ 1000000000) (h2 : 1 ≤ c ∧ c ≤ 1000000000) (hn : 0 ≤ wrap64 (a * wrap64 (Int.tdiv (wrap64 (wrap64 (b + c) - 1)) c)) ∧ wrap64 (a * wrap64 (Int.tdiv (wrap64 (wrap64 (b + c) - 1)) c)) ≤ 1000000000) : Calls Try.prog 86 #[.int .i64 a, .int .i64 b, .int .i64 c] w fun e w' => e = .returned (.tuple #[.int .i64 (wrap64 (a * wrap64 (Int.tdiv (wrap64 (wrap64 (b + c) - 1)) c))), .int .i64 0]) ∧ Below w.heap.size w w' := by
  have H0 := Aside0.mk h0
  have H1 := Aside0.mk h1
  have H2 := Aside0.mk h2
  have b0 : (c == 0) = false := beq_eq_false_iff_ne.mpr (by omega)
  have b1 : (c != 0) = true := bne_iff_ne.mpr (by omega)
  have b2 : ¬ c = 0 := by omega
  have b3 : decide (c = 0) = false := decide_eq_false b2
  have HB := Aside0.mk hn
  clear hn
  clear h0 h1 h2
  go_enter_defers Try.func86, Try.ntmps86
  go_wp2_with ((first | (go_at_call 116; refine (need_ok _ _ _ _ (by first | exact H0.out.1 | exact H1.out.1 | exact H2.out.1) (by first | exact H0.out.2 | exact H1.out.2 | exact H2.out.2)).mono ?_) | (go_at_call 117; refine (amount_ok _ _ (by exact HB.out.1) (by exact HB.out.2)).mono ?_)); rintro e w2 ⟨rfl, rfl⟩)
  refine leaves_cons (f := 115) (args := #[.pointer (some ⟨w.heap.size, 0, none⟩), .pointer (some ⟨w.heap.size + 1, 0, none⟩)]) (by simp) (by simp [go_sem]) ?_
  refine (leave_idle ⟨w.heap.size, 0, none⟩ ⟨w.heap.size + 1, 0, none⟩ _).mono ?_
  rintro e u' w'' ⟨rfl, rfl, rfl⟩
  simp [Leaves, settle, results, Try.results86, go_sem]
  first | exact ((Below.refl _ _).alloc (Nat.le_refl _) _).alloc (by simp) _ | exact ⟨rfl, ((Below.refl _ _).alloc (Nat.le_refl _) _).alloc (by simp) _⟩

def money_Started.v (a b c : Int) : Int × Int := outP (decide ((0 ≤ a ∧ a ≤ 1000000000) ∧ (0 ≤ b ∧ b ≤ 1000000000) ∧ (1 ≤ c ∧ c ≤ 1000000000))) (wrap64 (a * wrap64 (Int.tdiv (wrap64 (wrap64 (b + c) - 1)) c)))
def money_Started.f (a b c : Int) : Option (Int × Int) := some (money_Started.v a b c)

theorem money_Started.calls (a0 : Int) (a1 : Int) (a2 : Int) (r0 r1 : Int) (w : World) (h : money_Started.f a0 a1 a2 = some (r0, r1)) : Calls Try.prog 86 #[.int .i64 a0, .int .i64 a1, .int .i64 a2] w fun e w' => e = .returned (.tuple #[.int .i64 r0, .int .i64 r1]) ∧ Below w.heap.size w w' := by
  unfold money_Started.f money_Started.v outP at h
  by_cases h0 : 0 ≤ a0 ∧ a0 ≤ 1000000000
  case neg =>
    rw [if_neg (by simp only [decide_eq_true_eq]; omega)] at h
    cases h
    exact Started_bad0 a0 a1 a2 w  (by omega)
  by_cases h1 : 0 ≤ a1 ∧ a1 ≤ 1000000000
  case neg =>
    rw [if_neg (by simp only [decide_eq_true_eq]; omega)] at h
    cases h
    exact Started_bad1 a0 a1 a2 w h0 (by omega)
  by_cases h2 : 1 ≤ a2 ∧ a2 ≤ 1000000000
  case neg =>
    rw [if_neg (by simp only [decide_eq_true_eq]; omega)] at h
    cases h
    exact Started_bad2 a0 a1 a2 w h0 h1 (by omega)
  rw [if_pos (by simp only [decide_eq_true_eq]; exact ⟨h0, h1, h2⟩)] at h
  by_cases hn : 0 ≤ wrap64 (a0 * wrap64 (Int.tdiv (wrap64 (wrap64 (a1 + a2) - 1)) a2)) ∧ wrap64 (a0 * wrap64 (Int.tdiv (wrap64 (wrap64 (a1 + a2) - 1)) a2)) ≤ 1000000000
  · rw [if_pos hn] at h
    cases h
    exact Started_fine a0 a1 a2 w h0 h1 h2 hn
  · rw [if_neg hn] at h
    cases h
    exact Started_over a0 a1 a2 w h0 h1 h2 (by omega)

set_option maxHeartbeats 4000000 in
set_option maxRecDepth 100000 in
theorem Tax_bad0 (a b : Int) (w : World) (hb : a < 0 ∨ 1000000000 < a) : Calls Try.prog 88 #[.int .i64 a, .int .i64 b] w fun e w' => e = .returned (.tuple #[.int .i64 (0), .int .i64 1]) ∧ Below w.heap.size w w' := by
  have HB := Aside0.mk hb
  clear hb
  go_enter_defers Try.func88, Try.ntmps88
  go_wp2_with ((first | (go_at_call 116; refine (need_bad _ _ _ _ (by exact HB.out)).mono ?_)); rintro e w2 ⟨rfl, rfl⟩)
  refine leaves_cons (f := 115) (args := #[.pointer (some ⟨w.heap.size, 0, none⟩), .pointer (some ⟨w.heap.size + 1, 0, none⟩)]) (by simp) (by simp [go_sem]) ?_
  refine (leave_panicking ⟨w.heap.size, 0, none⟩ ⟨w.heap.size + 1, 0, none⟩ 0 0 _ [] _ ?_ ?_ ?_ ?_).mono ?_
  · simp [go_sem]
  · simp [go_sem]
  · simp [go_sem]
  · simp [go_sem]
  rintro e u' w'' ⟨rfl, rfl, rfl⟩
  simp [Leaves, settle, results, Try.results88, go_sem]
  first | exact ((Below.refl _ _).alloc (Nat.le_refl _) _).alloc (by simp) _ | exact ⟨rfl, ((Below.refl _ _).alloc (Nat.le_refl _) _).alloc (by simp) _⟩

set_option maxHeartbeats 4000000 in
set_option maxRecDepth 100000 in
theorem Tax_bad1 (a b : Int) (w : World) (h0 : 0 ≤ a ∧ a ≤ 1000000000) (hb : b < 0 ∨ 100000 < b) : Calls Try.prog 88 #[.int .i64 a, .int .i64 b] w fun e w' => e = .returned (.tuple #[.int .i64 (0), .int .i64 1]) ∧ Below w.heap.size w w' := by
  have H0 := Aside0.mk h0
  have HB := Aside0.mk hb
  clear hb
  clear h0
  go_enter_defers Try.func88, Try.ntmps88
  go_wp2_with ((first | (go_at_call 116; refine (need_ok _ _ _ _ (by first | exact H0.out.1) (by first | exact H0.out.2)).mono ?_) | (go_at_call 116; refine (need_bad _ _ _ _ (by exact HB.out)).mono ?_)); rintro e w2 ⟨rfl, rfl⟩)
  refine leaves_cons (f := 115) (args := #[.pointer (some ⟨w.heap.size, 0, none⟩), .pointer (some ⟨w.heap.size + 1, 0, none⟩)]) (by simp) (by simp [go_sem]) ?_
  refine (leave_panicking ⟨w.heap.size, 0, none⟩ ⟨w.heap.size + 1, 0, none⟩ 0 0 _ [] _ ?_ ?_ ?_ ?_).mono ?_
  · simp [go_sem]
  · simp [go_sem]
  · simp [go_sem]
  · simp [go_sem]
  rintro e u' w'' ⟨rfl, rfl, rfl⟩
  simp [Leaves, settle, results, Try.results88, go_sem]
  first | exact ((Below.refl _ _).alloc (Nat.le_refl _) _).alloc (by simp) _ | exact ⟨rfl, ((Below.refl _ _).alloc (Nat.le_refl _) _).alloc (by simp) _⟩

set_option maxHeartbeats 4000000 in
set_option maxRecDepth 100000 in
theorem Tax_over (a b : Int) (w : World) (h0 : 0 ≤ a ∧ a ≤ 1000000000) (h1 : 0 ≤ b ∧ b ≤ 100000) (hn : halfV (wrap64 (a * b)) 10000 < 0 ∨ 1000000000 < halfV (wrap64 (a * b)) 10000) : Calls Try.prog 88 #[.int .i64 a, .int .i64 b] w fun e w' => e = .returned (.tuple #[.int .i64 (0), .int .i64 3]) ∧ Below w.heap.size w w' := by
  have H0 := Aside0.mk h0
  have H1 := Aside0.mk h1
  have HB := Aside0.mk hn
  clear hn
  clear h0 h1
  go_enter_defers Try.func88, Try.ntmps88
  go_wp2_with ((first | (go_at_call 116; refine (need_ok _ _ _ _ (by first | exact H0.out.1 | exact H1.out.1) (by first | exact H0.out.2 | exact H1.out.2)).mono ?_) | (go_at_call 118; refine (half_w _ _ _ (by simp only [wrap64]; omega)).mono ?_) | (go_at_call 117; refine (amount_bad _ _ (by exact HB.out)).mono ?_)); rintro e w2 ⟨rfl, rfl⟩)
  refine leaves_cons (f := 115) (args := #[.pointer (some ⟨w.heap.size, 0, none⟩), .pointer (some ⟨w.heap.size + 1, 0, none⟩)]) (by simp) (by simp [go_sem]) ?_
  refine (leave_panicking ⟨w.heap.size, 0, none⟩ ⟨w.heap.size + 1, 0, none⟩ 0 0 _ [] _ ?_ ?_ ?_ ?_).mono ?_
  · simp [go_sem]
  · simp [go_sem]
  · simp [go_sem]
  · simp [go_sem]
  rintro e u' w'' ⟨rfl, rfl, rfl⟩
  simp [Leaves, settle, results, Try.results88, go_sem]
  first | exact ((Below.refl _ _).alloc (Nat.le_refl _) _).alloc (by simp) _ | exact ⟨rfl, ((Below.refl _ _).alloc (Nat.le_refl _) _).alloc (by simp) _⟩

set_option maxHeartbeats 4000000 in
set_option maxRecDepth 100000 in
theorem Tax_fine (a b : Int) (w : World) (h0 : 0 ≤ a ∧ a ≤ 1000000000) (h1 : 0 ≤ b ∧ b ≤ 100000) (hn : 0 ≤ halfV (wrap64 (a * b)) 10000 ∧ halfV (wrap64 (a * b)) 10000 ≤ 1000000000) : Calls Try.prog 88 #[.int .i64 a, .int .i64 b] w fun e w' => e = .returned (.tuple #[.int .i64 (halfV (wrap64 (a * b)) 10000), .int .i64 0]) ∧ Below w.heap.size w w' := by
  have H0 := Aside0.mk h0
  have H1 := Aside0.mk h1
  have HB := Aside0.mk hn
  clear hn
  clear h0 h1
  go_enter_defers Try.func88, Try.ntmps88
  go_wp2_with ((first | (go_at_call 116; refine (need_ok _ _ _ _ (by first | exact H0.out.1 | exact H1.out.1) (by first | exact H0.out.2 | exact H1.out.2)).mono ?_) | (go_at_call 118; refine (half_w _ _ _ (by simp only [wrap64]; omega)).mono ?_) | (go_at_call 117; refine (amount_ok _ _ (by exact HB.out.1) (by exact HB.out.2)).mono ?_)); rintro e w2 ⟨rfl, rfl⟩)
  refine leaves_cons (f := 115) (args := #[.pointer (some ⟨w.heap.size, 0, none⟩), .pointer (some ⟨w.heap.size + 1, 0, none⟩)]) (by simp) (by simp [go_sem]) ?_
  refine (leave_idle ⟨w.heap.size, 0, none⟩ ⟨w.heap.size + 1, 0, none⟩ _).mono ?_
  rintro e u' w'' ⟨rfl, rfl, rfl⟩
  simp [Leaves, settle, results, Try.results88, go_sem]
  first | exact ((Below.refl _ _).alloc (Nat.le_refl _) _).alloc (by simp) _ | exact ⟨rfl, ((Below.refl _ _).alloc (Nat.le_refl _) _).alloc (by simp) _⟩

def money_Tax.v (a b : Int) : Int × Int := outP (decide ((0 ≤ a ∧ a ≤ 1000000000) ∧ (0 ≤ b ∧ b ≤ 100000))) (halfV (wrap64 (a * b)) 10000)
def money_Tax.f (a b : Int) : Option (Int × Int) := some (money_Tax.v a b)

theorem money_Tax.calls (a0 : Int) (a1 : Int) (r0 r1 : Int) (w : World) (h : money_Tax.f a0 a1 = some (r0, r1)) : Calls Try.prog 88 #[.int .i64 a0, .int .i64 a1] w fun e w' => e = .returned (.tuple #[.int .i64 r0, .int .i64 r1]) ∧ Below w.heap.size w w' := by
  unfold money_Tax.f money_Tax.v outP at h
  by_cases h0 : 0 ≤ a0 ∧ a0 ≤ 1000000000
  case neg =>
    rw [if_neg (by simp only [decide_eq_true_eq]; omega)] at h
    cases h
    exact Tax_bad0 a0 a1 w  (by omega)
  by_cases h1 : 0 ≤ a1 ∧ a1 ≤ 100000
  case neg =>
    rw [if_neg (by simp only [decide_eq_true_eq]; omega)] at h
    cases h
    exact Tax_bad1 a0 a1 w h0 (by omega)
  rw [if_pos (by simp only [decide_eq_true_eq]; exact ⟨h0, h1⟩)] at h
  by_cases hn : 0 ≤ halfV (wrap64 (a0 * a1)) 10000 ∧ halfV (wrap64 (a0 * a1)) 10000 ≤ 1000000000
  · rw [if_pos hn] at h
    cases h
    exact Tax_fine a0 a1 w h0 h1 hn
  · rw [if_neg hn] at h
    cases h
    exact Tax_over a0 a1 w h0 h1 (by omega)

end Go.Proofs.Ytbkkgaiokmnmgaa.Pr
