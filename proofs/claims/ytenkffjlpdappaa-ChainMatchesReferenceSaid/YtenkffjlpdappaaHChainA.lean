/- Package chain over this program: slices.Grow and slices.Concat as Append calls them; Append. -/
import Derived.Test.YtenkffjlpdappaaHChainC
import Derived.Stop.RegionWithIn
namespace Go.Proofs.Ytenkffjlpdappaa.Pr
open Go.RowKit Go.Shelf Go.Proofs.YtenkffjlpdappaaW.PrintWords Go.Proofs.YtenkffjlpdappaaW.PrintLast Go.Proofs.YtenkffjlpdappaaW.PrintMore
set_option linter.unusedVariables false
set_option linter.unusedSimpArgs false

theorem R_slice {α : Type} {d : Kd α} {e base : Nat} {w : World} {ok : Nat → Prop} {v : Value} {xs : List α} (h : d.R e w base ok v xs) : ∃ A c, v = .slice A xs.length c := by
  obtain ⟨_, inner, ho, _⟩ := h; exact own_slice ho
set_option maxRecDepth 1000000 in
set_option maxHeartbeats 4000000 in
theorem grow_calls (m : Int) (w : World) (h0 : 0 < m) (h1 : m ≤ 1000) :
    Calls Try.prog 55 #[.slice none 0 0, .int .i64 m] w fun e w' => ∃ A c, e = .returned (.slice A 0 c) ∧ Kd.R k44 44 w' w.heap.size (fun _ => True) (.slice A 0 c) [] ∧ Below w.heap.size w w' := by
  have s0 : ∀ W, (Instr.slice 26 (.slice none 0 0) none (some (.int .i64 0)) none).run Try.prog W = .ok (.slice none 0 0) W := fun _ => by kernel_rfl
  obtain ⟨i0, hi, _⟩ := Option.map_eq_some_iff.1 info44
  have HI := Aside0.mk hi
  clear hi
  have d0 : decide (m < 0) = false := decide_eq_false (by omega)
  have d1 : decide (0 < m) = true := decide_eq_true h0
  go_enter Try.func55, Try.ntmps55
  go_wp2_with (at_builtin; refine Kd.R_append_zeros k44 (w0 := w) w.heap.size rfl (.tmp 20) (.tmp 21) 26 3 44 (.agg #[(.int .i64 0), (.int .i64 0), (.int .i64 0), (.int .i64 0), (.int .u64 0)]) 40 rfl Try.underlying26 Try.underlying3 info44 rfl (by decide) (by omega) (.slice none 0 0) [] z44 m (fun _ => True) rfl rfl (k44_mkM _ _ _ z44) (fun _ _ => trivial) (Kd.R_nil _ _ _ _ _) (by omega) (Below.refl _ _) (Nat.le_refl _) (by simp; omega) ?_; intro v1 w1 hR hB hg hat; have HR1 := Aside0.mk hR; have HB1 := Aside0.mk hB; obtain ⟨A, c, rfl⟩ := R_slice hR; clear hg hat hR hB)
  go_ret
  exact ⟨A, c, rfl, Kd.R_take (m := 0) HR1.out (Nat.zero_le _), HB1.out⟩
set_option maxRecDepth 1000000 in
set_option maxHeartbeats 4000000 in
/-- slices.Concat of two rows. -/
theorem concat_calls (B : Nat) (A1 A2 : Option Addr) (c1 c2 : Nat) (l r : List S44) (w : World) (h1 : l.length ≤ 64) (h2 : r.length = 1) (hb : w.heap[B]? = some (.cells #[.slice A1 l.length c1, .slice A2 1 c2] 26 (0, 0)))
    (hl : Kd.C k44 w A1 l.length l) (hr : Kd.C k44 w A2 1 r) :
    Calls Try.prog 47 #[.slice (some ⟨B, 0, none⟩) 2 2] w fun e w' => ∃ v, e = .returned v ∧ Kd.R k44 44 w' w.heap.size (fun _ => True) v (l ++ r) ∧ Below w.heap.size w w' := by
  have c0_ : w.cell? ⟨B, 0, none⟩ = some (.slice A1 l.length c1) := (blk_cell hb 0).trans rfl
  have c1_ : w.cell? ⟨B, 1, none⟩ = some (.slice A2 1 c2) := (blk_cell hb 1).trans rfl
  have HL := Aside0.mk hl
  have HR := Aside0.mk hr
  have H2 := Aside0.mk h2
  have hBlt : B < w.heap.size := blk_lt hb
  clear hl hr h2 hb
  go_enter Try.func47, Try.ntmps47
  go_wp2
  go_loopw [3, 11] (fun s3 s11 wr => ∃ i : Nat, s11 = .int .i64 (i : Int) ∧ i ≤ 2 ∧ s3 = .int .i64 (if i = 0 then 0 else if i = 1 then (l.length : Int) else (l.length : Int) + 1) ∧ wr = w) (fun _ s11 _ => 2 - (intOf s11).toNat)
  case atStart => exact ⟨0, rfl, by omega, rfl, rfl⟩
  case round =>
    obtain ⟨i, rfl, hi, rfl, hwr⟩ := hrel
    have hwr' := hwr.symm
    subst hwr'
    have hin : i = 0 ∨ i = 1 ∨ i = 2 := by omega
    rcases hin with rfl | rfl | rfl
    · go_wp2
      go_roundw
      case rel => exact ⟨1, rfl, by omega, rfl, by first | rfl | trivial⟩
      case measure => simp [intOf]
    · have hw1 : decide ((l.length : Int) + 1 < 0) = false := decide_eq_false (by omega)
      go_wp2
      go_roundw
      case rel => exact ⟨2, rfl, by omega, rfl, by first | rfl | trivial⟩
      case measure => simp [intOf]
    · have HG := Aside0.mk (grow_calls ((l.length : Int) + 1) w (by omega) (by omega))
      go_wp2_with (go_at_call 55; refine HG.out.mono ?_; rintro e w2 ⟨A, c, rfl, hR, hB⟩; have HR2 := Aside0.mk hR; have HB2 := Aside0.mk hB; clear hR hB)
      have HCB := Aside0.mk (And.intro c0_ c1_)
      clear c0_ c1_
      go_loopw [6, 27] (fun s6 s27 wq => ∃ (i : Nat) (A : Option Addr) (c : Nat), s27 = .int .i64 (i : Int) ∧ i ≤ 2 ∧ s6 = .slice A (if i = 0 then 0 else if i = 1 then l.length else l.length + 1) c ∧ Aside0 (Below w.heap.size w wq) ∧
        Aside0 (Kd.R k44 44 wq w.heap.size (fun _ => True) s6 (if i = 0 then [] else if i = 1 then l else l ++ r))) (fun _ s27 _ => 2 - (intOf s27).toNat)
      case atStart => exact ⟨0, A, c, rfl, by omega, rfl, HB2, HR2⟩
      case round =>
        clear HR2 HB2 HG
        obtain ⟨i, A, c, rfl, hi, rfl, HB, HRv⟩ := hrel
        have c0_ := HCB.out.1
        have c1_ := HCB.out.2
        replace c0_ := (HB.out.cell hBlt).trans c0_
        replace c1_ := (HB.out.cell hBlt).trans c1_
        have hin : i = 0 ∨ i = 1 ∨ i = 2 := by omega
        rcases hin with rfl | rfl | rfl
        · have HLIM : Aside0 (((([] : List S44).length + l.length) * 40) ≤ 140737488355328) := ⟨by simp; omega⟩
          replace HRv : Aside0 (Kd.R k44 44 wr w.heap.size (fun _ => True) (.slice A 0 c) []) := HRv
          go_wp2_with (at_builtin; refine Kd.R_append_rows k44 (w0 := w) w.heap.size rfl (.tmp 31) (.tmp 32) 26 44 (.agg #[(.int .i64 0), (.int .i64 0), (.int .i64 0), (.int .i64 0), (.int .u64 0)]) 40 rfl Try.underlying26 info44 rfl (by decide) (by omega) (.slice A 0 c) [] l A1 l.length c1 (fun _ => True) (fun _ => False) rfl rfl HRv.out (Kd.C_below HL.out HB.out) (fun x cs h => by obtain rfl := k44_open h; exact k44_mkM _ _ _ x) (fun _ h => h.elim) (fun _ _ => trivial) HB.out HB.out.size HLIM.out ?_; intro v1 w3 hR3 hB3 hg3 hat3; have HR3 := Aside0.mk hR3; have HB3 := Aside0.mk hB3; clear hg3 hat3; obtain ⟨A3, c3, rfl⟩ := R_slice hR3; clear hR3 hB3)
          go_roundw
          case rel => exact ⟨1, A3, c3, rfl, by omega, rfl, HB3, HR3⟩
          case measure => simp [intOf]
        · have HLIM : Aside0 (((l.length + 1) * 40) ≤ 140737488355328) := ⟨by omega⟩
          replace HRv : Aside0 (Kd.R k44 44 wr w.heap.size (fun _ => True) (.slice A l.length c) l) := HRv
          go_wp2_with (at_builtin; refine Kd.R_append_rows k44 (w0 := w) w.heap.size rfl (.tmp 31) (.tmp 32) 26 44 (.agg #[(.int .i64 0), (.int .i64 0), (.int .i64 0), (.int .i64 0), (.int .u64 0)]) 40 rfl Try.underlying26 info44 rfl (by decide) (by omega) (.slice A l.length c) l r A2 1 c2 (fun _ => True) (fun _ => False) rfl rfl HRv.out (Kd.C_below HR.out HB.out) (fun x cs h => by obtain rfl := k44_open h; exact k44_mkM _ _ _ x) (fun _ h => h.elim) (fun _ _ => trivial) HB.out HB.out.size HLIM.out ?_; intro v1 w3 hR3 hB3 hg3 hat3; have HR3 := Aside0.mk hR3; have HB3 := Aside0.mk hB3; clear hg3 hat3; obtain ⟨A3, c3, rfl⟩ := R_slice hR3; clear hR3 hB3)
          go_roundw
          case rel => exact ⟨2, A3, c3, rfl, by omega, by simp [H2.out], HB3, ⟨by simpa using HR3.out⟩⟩
          case measure => simp [intOf]
        · go_wp2
          go_ret
          exact ⟨_, rfl, HRv.out, HB.out⟩

/-! ### Append -/
def chain_Append.f (a0 : Int) (l1 : List S44) (a2 a3 a4 : Int) : Option (List S44 × Int) :=
  if 0 ≤ chkI a0 l1 then some ([], 11)
  else if l1.length = 64 then some ([], 10)
  else if rvalidB a2 ((l1.length : Int) + 1) a3 a4 = false then some ([], 1)
  else if l1.length = 0 then some (l1 ++ [⟨a2, (l1.length : Int) + 1, a3, a4, linkF [a2, (l1.length : Int) + 1, a3, a4] a0 32⟩], 0)
  else if refusedI a2 a3 a4 (rd_T44 l1 ((l1.length : Int) - 1)).f0 (rd_T44 l1 ((l1.length : Int) - 1)).f2 (rd_T44 l1 ((l1.length : Int) - 1)).f3 = 0 then
    some (l1 ++ [⟨a2, (l1.length : Int) + 1, a3, a4, linkF [a2, (l1.length : Int) + 1, a3, a4] (rd_T44 l1 ((l1.length : Int) - 1)).f4 32⟩], 0)
  else some ([], refusedI a2 a3 a4 (rd_T44 l1 ((l1.length : Int) - 1)).f0 (rd_T44 l1 ((l1.length : Int) - 1)).f2 (rd_T44 l1 ((l1.length : Int) - 1)).f3)
theorem C_box {W : World} {g : Nat} (x : S44) (hb : W.heap[g]? = some (.cells #[.int .i64 x.f0, .int .i64 x.f1, .int .i64 x.f2, .int .i64 x.f3, .int .u64 x.f4] 44 (0, 0))) : Kd.C k44 W (some ⟨g, 0, none⟩) 1 [x] := by
  refine ⟨rfl, by omega, fun _ => ⟨_, rfl, fun j p hj => ?_⟩⟩
  cases j with
  | zero =>
    obtain rfl : x = p := by simpa using hj
    refine ⟨_, rfl, k44.K_of_M (k44_mkM W 0 (fun _ => False) x), fun i u hu => ?_⟩
    rw [add_plain, Nat.zero_mul, Nat.zero_add, blk_cell hb i]
    simpa using hu
  | succ j => simp at hj
theorem alloc_below (w : World) (o : Obj) : Below w.heap.size w (w.alloc o) := (Below.refl _ _).alloc (Nat.le_refl _) _
theorem chk_len {s : Int} {l : List S44} (h : ¬ 0 ≤ chkI s l) : l.length ≤ 64 := by
  have hs := firstBad_spec (fun k => okAt l k && linkOkAt s l k) l.length 0
  unfold chkI at h
  by_cases e : firstBad (fun k => okAt l k && linkOkAt s l k) 0 l.length = l.length
  · by_cases z : l.length = 0
    · omega
    · have := hs.2.2.1 (l.length - 1) (Nat.zero_le _) (by omega)
      simp only [Bool.and_eq_true] at this
      have := this.1
      unfold okAt at this
      simp only [Bool.and_eq_true, decide_eq_true_eq] at this
      omega
  · rw [if_neg e] at h; omega
set_option maxRecDepth 1000000 in
set_option maxHeartbeats 8000000 in
theorem chain_Append.calls (a0 : Int) (A1 : Option Addr) (c1 : Nat) (l1 : List S44) (a2 a3 a4 : Int) (r1 : List S44) (r2 : Int) (w : World) (hr1 : Kd.C k44 w A1 l1.length l1) (hc1 : l1.length ≤ c1) (h : chain_Append.f a0 l1 a2 a3 a4 = some (r1, r2)) :
    Calls Try.prog 29 #[.int .u64 a0, .slice A1 l1.length c1, .int .i64 a2, .int .i64 a3, .int .i64 a4] w fun e w' => ∃ v0_ : Value, e = .returned (.tuple #[v0_, .int .i64 r2]) ∧ Kd.R k44 44 w' w.heap.size (fun _ => True) v0_ r1 ∧ Below w.heap.size w w' := by
  have hlen : l1.length ≤ 9223372036854775807 := hr1.2.1
  have HR := Aside0.mk hr1
  clear hr1
  have hu := Try.underlying44
  unfold chain_Append.f at h
  by_cases g1 : 0 ≤ chkI a0 l1
  · rw [if_pos g1] at h
    simp only [Option.some.injEq, Prod.mk.injEq] at h
    obtain ⟨rfl, rfl⟩ := h
    have d1 : decide (0 ≤ chkI a0 l1) = true := decide_eq_true g1
    clear g1
    go_enter Try.func29, Try.ntmps29
    go_wp2_with (go_at_call 35; refine (chain_Check.calls _ _ _ l1 (chkI a0 l1) _ (Kd.C_below HR.out (alloc_below w _)) hc1 rfl).mono ?_; rintro e w2 ⟨rfl, hb2⟩; have HK2 := Aside0.mk ((hb2.block w.heap.size (by simp)).trans (heap_alloc_new w _)); have HB2 := Aside0.mk ((alloc_below w _).trans (hb2.mono (by simp))); clear hb2)
    go_ret2
    exact ⟨_, rfl, Kd.R_nil _ _ _ _ _, HB2.out⟩
  rw [if_neg g1] at h
  have h64 := chk_len g1
  have d1 : decide (0 ≤ chkI a0 l1) = false := decide_eq_false g1
  clear g1
  by_cases g2 : l1.length = 64
  · rw [if_pos g2] at h
    simp only [Option.some.injEq, Prod.mk.injEq] at h
    obtain ⟨rfl, rfl⟩ := h
    have d2 : ((l1.length : Int) == 64) = true := beq_iff_eq.mpr (by omega)
    have d2n : (l1.length == 64) = true := beq_iff_eq.mpr g2
    have G2 := Aside0.mk g2
    clear g2
    go_enter Try.func29, Try.ntmps29
    go_wp2_with (go_at_call 35; refine (chain_Check.calls _ _ _ l1 (chkI a0 l1) _ (Kd.C_below HR.out (alloc_below w _)) hc1 rfl).mono ?_; rintro e w2 ⟨rfl, hb2⟩; have HK2 := Aside0.mk ((hb2.block w.heap.size (by simp)).trans (heap_alloc_new w _)); have HB2 := Aside0.mk ((alloc_below w _).trans (hb2.mono (by simp))); clear hb2)
    go_ret2
    exact ⟨_, rfl, Kd.R_nil _ _ _ _ _, HB2.out⟩
  rw [if_neg g2] at h
  have d2 : ((l1.length : Int) == 64) = false := beq_eq_false_iff_ne.mpr (by omega)
  have d2n : (l1.length == 64) = false := beq_eq_false_iff_ne.mpr g2
  clear g2
  have HV := Aside0.mk (rvalid_f a2 ((l1.length : Int) + 1) a3 a4 0)
  cases v : rvalidB a2 ((l1.length : Int) + 1) a3 a4 with
  | false =>
    rw [if_pos v] at h
    rw [v] at HV
    simp only [Option.some.injEq, Prod.mk.injEq] at h
    obtain ⟨rfl, rfl⟩ := h
    clear v
    go_enter Try.func29, Try.ntmps29
    go_wp2_with (first | (go_at_call 35; refine (chain_Check.calls _ _ _ l1 (chkI a0 l1) _ (Kd.C_below HR.out (alloc_below w _)) hc1 rfl).mono ?_; rintro e w2 ⟨rfl, hb2⟩; have HK2 := Aside0.mk ((hb2.block w.heap.size (by simp)).trans (heap_alloc_new w _)); have HB2 := Aside0.mk ((alloc_below w _).trans (hb2.mono (by simp))); clear hb2; have z0 : w2.cell? ⟨w.heap.size, 0, none⟩ = some (.int .i64 a2) := (blk_cell HK2.out 0).trans rfl; have z1 : w2.cell? ⟨w.heap.size, 1, none⟩ = some (.int .i64 ((l1.length : Int) + 1)) := (blk_cell HK2.out 1).trans rfl; have z2 : w2.cell? ⟨w.heap.size, 2, none⟩ = some (.int .i64 a3) := (blk_cell HK2.out 2).trans rfl; have z3 : w2.cell? ⟨w.heap.size, 3, none⟩ = some (.int .i64 a4) := (blk_cell HK2.out 3).trans rfl; have z4 : w2.cell? ⟨w.heap.size, 4, none⟩ = some (.int .u64 0) := (blk_cell HK2.out 4).trans rfl) | (go_at_call 45; refine (chain_valid.calls _ _ _ _ _ false _ HV.out).mono ?_; rintro e w3 ⟨rfl, hb3⟩; have HB3 := Aside0.mk (HB2.out.trans (hb3.mono HB2.out.size)); clear hb3))
    go_ret2
    exact ⟨_, rfl, Kd.R_nil _ _ _ _ _, HB3.out⟩
  | true =>
    rw [if_neg (by rw [v]; simp)] at h
    rw [v] at HV
    clear v
    by_cases g3 : l1.length = 0
    · rw [if_pos g3] at h
      simp only [Option.some.injEq, Prod.mk.injEq] at h
      obtain ⟨hrr, rfl⟩ := h
      obtain ⟨y, hy⟩ : ∃ y, linkF [a2, (l1.length : Int) + 1, a3, a4] a0 32 = y := ⟨_, rfl⟩
      have HL : Aside0 (chain_Link.f a0 a2 ((l1.length : Int) + 1) a3 a4 0 = some y) := ⟨by rw [← hy]; rfl⟩
      rw [hy] at hrr
      have HRR := Aside0.mk hrr
      have d3 : decide (0 < (l1.length : Int)) = false := decide_eq_false (by omega)
      have d3n : decide (0 < l1.length) = false := decide_eq_false (by omega)
      clear hy hrr g3
      go_enter Try.func29, Try.ntmps29
      go_wp2_with (first | (go_at_call 35; refine (chain_Check.calls _ _ _ l1 (chkI a0 l1) _ (Kd.C_below HR.out (alloc_below w _)) hc1 rfl).mono ?_; rintro e w2 ⟨rfl, hb2⟩; have HK2 := Aside0.mk ((hb2.block w.heap.size (by simp)).trans (heap_alloc_new w _)); have HB2 := Aside0.mk ((alloc_below w _).trans (hb2.mono (by simp))); clear hb2; have z0 : w2.cell? ⟨w.heap.size, 0, none⟩ = some (.int .i64 a2) := (blk_cell HK2.out 0).trans rfl; have z1 : w2.cell? ⟨w.heap.size, 1, none⟩ = some (.int .i64 ((l1.length : Int) + 1)) := (blk_cell HK2.out 1).trans rfl; have z2 : w2.cell? ⟨w.heap.size, 2, none⟩ = some (.int .i64 a3) := (blk_cell HK2.out 2).trans rfl; have z3 : w2.cell? ⟨w.heap.size, 3, none⟩ = some (.int .i64 a4) := (blk_cell HK2.out 3).trans rfl; have z4 : w2.cell? ⟨w.heap.size, 4, none⟩ = some (.int .u64 0) := (blk_cell HK2.out 4).trans rfl) | (go_at_call 45; refine (chain_valid.calls _ _ _ _ _ true _ HV.out).mono ?_; rintro e w3 ⟨rfl, hb3⟩; have HB3 := Aside0.mk (HB2.out.trans (hb3.mono HB2.out.size)); have HK3 := Aside0.mk ((hb3.block _ (blk_lt HK2.out)).trans HK2.out); clear hb3; have y0 : w3.cell? ⟨w.heap.size, 0, none⟩ = some (.int .i64 a2) := (blk_cell HK3.out 0).trans rfl; have y1 : w3.cell? ⟨w.heap.size, 1, none⟩ = some (.int .i64 ((l1.length : Int) + 1)) := (blk_cell HK3.out 1).trans rfl; have y2 : w3.cell? ⟨w.heap.size, 2, none⟩ = some (.int .i64 a3) := (blk_cell HK3.out 2).trans rfl; have y3 : w3.cell? ⟨w.heap.size, 3, none⟩ = some (.int .i64 a4) := (blk_cell HK3.out 3).trans rfl; have y4 : w3.cell? ⟨w.heap.size, 4, none⟩ = some (.int .u64 0) := (blk_cell HK3.out 4).trans rfl) | (go_at_call 32; refine (chain_Link.calls _ _ _ _ _ _ y _ HL.out).mono ?_; rintro e w4 ⟨rfl, hb4⟩; have HB4 := Aside0.mk (HB3.out.trans (hb4.mono HB3.out.size)); have HK4 := Aside0.mk ((hb4.block _ (blk_lt HK3.out)).trans HK3.out); have x4 : w4.cell? ⟨w.heap.size, 4, none⟩ = some (.int .u64 0) := (blk_cell HK4.out 4).trans rfl; have f4 := blk_frozen HK4.out 4; have HK5 := Aside0.mk (heap_setCell_same w4 w.heap.size 4 _ _ (.int .u64 y) HK4.out); have HB5 := Aside0.mk (HB4.out.setCell (p := ⟨w.heap.size, 4, none⟩) (Nat.le_refl _) (.int .u64 y)); have v0 : (w4.setCell ⟨w.heap.size, 4, none⟩ (.int .u64 y)).cell? ⟨w.heap.size, 0, none⟩ = some (.int .i64 a2) := (blk_cell HK5.out 0).trans rfl; have v1 : (w4.setCell ⟨w.heap.size, 4, none⟩ (.int .u64 y)).cell? ⟨w.heap.size, 1, none⟩ = some (.int .i64 ((l1.length : Int) + 1)) := (blk_cell HK5.out 1).trans rfl; have v2 : (w4.setCell ⟨w.heap.size, 4, none⟩ (.int .u64 y)).cell? ⟨w.heap.size, 2, none⟩ = some (.int .i64 a3) := (blk_cell HK5.out 2).trans rfl; have v3 : (w4.setCell ⟨w.heap.size, 4, none⟩ (.int .u64 y)).cell? ⟨w.heap.size, 3, none⟩ = some (.int .i64 a4) := (blk_cell HK5.out 3).trans rfl; have v4 : (w4.setCell ⟨w.heap.size, 4, none⟩ (.int .u64 y)).cell? ⟨w.heap.size, 4, none⟩ = some (.int .u64 y) := (blk_cell HK5.out 4).trans rfl; clear hb4) | (go_at_call 47; refine (concat_calls (w4.heap.size + 1) A1 (some ⟨w4.heap.size, 0, none⟩) c1 1 l1 [⟨a2, (l1.length : Int) + 1, a3, a4, y⟩] _ h64 rfl ?hb ?hl ?hr).mono ?_; (case hb => simpa using second_box (w4.setCell ⟨w.heap.size, 4, none⟩ (.int .u64 y)) (.cells #[.int .i64 a2, .int .i64 ((l1.length : Int) + 1), .int .i64 a3, .int .i64 a4, .int .u64 y] 44) (.cells #[.slice A1 l1.length c1, .slice (some ⟨w4.heap.size, 0, none⟩) 1 1] 26)); (case hl => exact Kd.C_below HR.out (((HB5.out.alloc HB5.out.size _).alloc (by have := HB5.out.size; simp at this ⊢; omega) _))); (case hr => exact C_box _ (((alloc_below _ _).block _ (by simp)).trans (by simpa using heap_alloc_new (w4.setCell ⟨w.heap.size, 4, none⟩ (.int .u64 y)) (.cells #[.int .i64 a2, .int .i64 ((l1.length : Int) + 1), .int .i64 a3, .int .i64 a4, .int .u64 y] 44)))); rintro e w8 ⟨vv, rfl, hR8, hb8⟩; have HR8 := Aside0.mk hR8; have HB8 := Aside0.mk ((((HB5.out.alloc HB5.out.size (.cells #[.int .i64 a2, .int .i64 ((l1.length : Int) + 1), .int .i64 a3, .int .i64 a4, .int .u64 y] 44)).alloc (by have := HB5.out.size; simp at this ⊢; omega) (.cells #[.slice A1 l1.length c1, .slice (some ⟨w4.heap.size, 0, none⟩) 1 1] 26))).trans (hb8.mono (by have := HB5.out.size; simp at this ⊢; omega))); clear hR8 hb8))
      go_ret2
      exact ⟨_, rfl, by rw [← HRR.out]; exact Kd.R_lower HR8.out (by have := HB5.out.size; simp at this ⊢; omega), HB8.out⟩
    · rw [if_neg g3] at h
      obtain ⟨ad, rfl, hp0, hp1, hp2, hp3, hp4⟩ := at_T44 HR.out ((l1.length : Int) - 1) (by omega) (by omega)
      rw [show ((l1.length : Int) - 1).toNat = l1.length - 1 by omega] at hp0 hp1 hp2 hp3 hp4
      generalize rd_T44 l1 ((l1.length : Int) - 1) = p at hp0 hp1 hp2 hp3 hp4 h
      have d3 : decide (0 < (l1.length : Int)) = true := decide_eq_true (by omega)
      have d3n : decide (0 < l1.length) = true := decide_eq_true (by omega)
      have hw2 : IntKind.i64.wrap ((l1.length : Int) - 1) = l1.length - 1 := by simp [IntKind.wrap, IntKind.bits, IntKind.signed]; omega
      have x0 : 0 ≤ (l1.length : Int) - 1 := by omega
      have x1 : (l1.length : Int) - 1 < (l1.length : Int) := by omega
      have x2 : ((l1.length : Int) - 1).toNat = l1.length - 1 := by omega
      have x3 : 1 ≤ (l1.length : Int) := by omega
      obtain ⟨rv, hrv⟩ : ∃ rv, refusedI a2 a3 a4 p.f0 p.f2 p.f3 = rv := ⟨_, rfl⟩
      have HRF : Aside0 (chain_refused.f a2 ((l1.length : Int) + 1) a3 a4 0 p.f0 p.f1 p.f2 p.f3 p.f4 = some rv) := ⟨by rw [← hrv]; rfl⟩
      rw [hrv] at h
      have HH := Aside0.mk h
      have HP := Aside0.mk (And.intro hp0 (And.intro hp1 (And.intro hp2 (And.intro hp3 hp4))))
      clear hrv h g3 hp0 hp1 hp2 hp3 hp4
      go_enter Try.func29, Try.ntmps29
      go_wp2_with (first | (go_at_call 35; refine (chain_Check.calls _ _ _ l1 (chkI a0 l1) _ (Kd.C_below HR.out (alloc_below w _)) hc1 rfl).mono ?_; rintro e w2 ⟨rfl, hb2⟩; have HK2 := Aside0.mk ((hb2.block w.heap.size (by simp)).trans (heap_alloc_new w _)); have HB2 := Aside0.mk ((alloc_below w _).trans (hb2.mono (by simp))); clear hb2; have z0 : w2.cell? ⟨w.heap.size, 0, none⟩ = some (.int .i64 a2) := (blk_cell HK2.out 0).trans rfl; have z1 : w2.cell? ⟨w.heap.size, 1, none⟩ = some (.int .i64 ((l1.length : Int) + 1)) := (blk_cell HK2.out 1).trans rfl; have z2 : w2.cell? ⟨w.heap.size, 2, none⟩ = some (.int .i64 a3) := (blk_cell HK2.out 2).trans rfl; have z3 : w2.cell? ⟨w.heap.size, 3, none⟩ = some (.int .i64 a4) := (blk_cell HK2.out 3).trans rfl; have z4 : w2.cell? ⟨w.heap.size, 4, none⟩ = some (.int .u64 0) := (blk_cell HK2.out 4).trans rfl) | (go_at_call 45; refine (chain_valid.calls _ _ _ _ _ true _ HV.out).mono ?_; rintro e w3 ⟨rfl, hb3⟩; have HB3 := Aside0.mk (HB2.out.trans (hb3.mono HB2.out.size)); have HK3 := Aside0.mk ((hb3.block _ (blk_lt HK2.out)).trans HK2.out); clear hb3; have y0 : w3.cell? ⟨w.heap.size, 0, none⟩ = some (.int .i64 a2) := (blk_cell HK3.out 0).trans rfl; have y1 : w3.cell? ⟨w.heap.size, 1, none⟩ = some (.int .i64 ((l1.length : Int) + 1)) := (blk_cell HK3.out 1).trans rfl; have y2 : w3.cell? ⟨w.heap.size, 2, none⟩ = some (.int .i64 a3) := (blk_cell HK3.out 2).trans rfl; have y3 : w3.cell? ⟨w.heap.size, 3, none⟩ = some (.int .i64 a4) := (blk_cell HK3.out 3).trans rfl; have y4 : w3.cell? ⟨w.heap.size, 4, none⟩ = some (.int .u64 0) := (blk_cell HK3.out 4).trans rfl))
      have hfn : ∀ f, Fence.wide.fn f := fun _ => trivial
      have hund : (undef : Value) = .tuple #[] := rfl
      have q0 := (HB3.out.cell (World.block_lt_of_cell? w _ HP.out.1)).trans HP.out.1
      have q1 := (HB3.out.cell (World.block_lt_of_cell? w _ HP.out.2.1)).trans HP.out.2.1
      have q2 := (HB3.out.cell (World.block_lt_of_cell? w _ HP.out.2.2.1)).trans HP.out.2.2.1
      have q3 := (HB3.out.cell (World.block_lt_of_cell? w _ HP.out.2.2.2.1)).trans HP.out.2.2.2.1
      have q4 := (HB3.out.cell (World.block_lt_of_cell? w _ HP.out.2.2.2.2)).trans HP.out.2.2.2.2
      refine (wpIn_wide (n := 9)).1 ?_
      refine wpIn_mono (Q := fun e a' w4 => e = .normal ∧ a' = { tmps := #[.int .u64 a0, .slice (some ad) l1.length c1, .int .i64 a2, .int .i64 a3, .int .i64 a4, undef, undef, undef, undef, undef, .slice none 0 0, .int .i64 0, .pointer (some ⟨w.heap.size, 0, none⟩), .int .i64 (l1.length : Int), .int .i64 rv, .int .i64 a2, .slice (some ad) l1.length c1, .int .i64 (l1.length : Int), .int .i64 ((l1.length : Int) + 1), .int .i64 a3, .int .i64 a4, .agg #[.int .i64 a2, .int .i64 ((l1.length : Int) + 1), .int .i64 a3, .int .i64 a4, .int .u64 0], .bool false, .int .u64 a0, .slice (some ad) l1.length c1, .int .i64 (chkI a0 l1), .bool false, .bool false, .slice (some ad) l1.length c1, .int .i64 (l1.length : Int), .bool false, .bool false, .agg #[.int .i64 a2, .int .i64 ((l1.length : Int) + 1), .int .i64 a3, .int .i64 a4, .int .u64 0], .bool true, .bool false, .slice (some ad) l1.length c1, .int .i64 (l1.length : Int), .int .i64 (l1.length : Int), .bool true, .agg #[.int .i64 a2, .int .i64 ((l1.length : Int) + 1), .int .i64 a3, .int .i64 a4, .int .u64 0], .slice (some ad) l1.length c1, .int .i64 (l1.length : Int), .int .i64 ((l1.length : Int) - 1), .pointer (some (ad.add ((l1.length - 1) * 5))), .agg #[.int .i64 p.f0, .int .i64 p.f1, .int .i64 p.f2, .int .i64 p.f3, .int .u64 p.f4], .int .i64 rv, undef, undef, undef, undef, undef, undef, undef, undef, undef, undef, undef, undef, undef, undef, undef, undef, undef, undef], defers := [] } ∧ Aside0 (Below w3.heap.size w3.drew w4)) ?reg ?rest
      case reg =>
        refine wpIn_region_any (by kernel_rfl) ?_
        change wpAnyIn _ _ _ _ _ _ _ _ _ (World.drew _)
        refine wpAnyIn_take (i := 1) (v := ?_) rfl rfl (by kernel_rfl) (by kernel_rfl) (by kernel_rfl) (fun _ _ _ h => nomatch h.1) ⟨Or.inl ⟨by kernel_rfl, ?_⟩, fun _ => rfl⟩ ?_
        case refine_2 => (intro w; go_simp <;> with_reducible rfl)
        try simp only [Act.put, List.setIfInBounds_toArray, List.set_cons_zero, List.set_cons_succ, List.getElem_toArray, List.getElem_cons_zero, List.getElem_cons_succ]
        refine wpAnyIn_take (i := 2) (v := ?_) rfl rfl (by kernel_rfl) (by kernel_rfl) (by kernel_rfl) (fun _ _ _ h => nomatch h.1) ⟨Or.inl ⟨by kernel_rfl, ?_⟩, fun _ => rfl⟩ ?_
        case refine_2 => (intro w; go_simp <;> with_reducible rfl)
        try simp only [Act.put, List.setIfInBounds_toArray, List.set_cons_zero, List.set_cons_succ, List.getElem_toArray, List.getElem_cons_zero, List.getElem_cons_succ]
        refine wpAnyIn_take (i := 3) (v := ?_) rfl rfl (by kernel_rfl) (by kernel_rfl) (by kernel_rfl) (fun _ _ _ h => nomatch h.1) ⟨Or.inl ⟨by kernel_rfl, ?_⟩, fun _ => rfl⟩ ?_
        case refine_2 => (intro w; go_simp <;> with_reducible rfl)
        try simp only [Act.put, List.setIfInBounds_toArray, List.set_cons_zero, List.set_cons_succ, List.getElem_toArray, List.getElem_cons_zero, List.getElem_cons_succ]
        refine wpAnyIn_take (i := 4) (v := ?_) rfl rfl (by kernel_rfl) (by kernel_rfl) (by kernel_rfl) (fun _ _ _ h => nomatch h.1) ⟨Or.inl ⟨by kernel_rfl, ?_⟩, fun _ => rfl⟩ ?_
        case refine_2 => (intro w; go_simp <;> with_reducible rfl)
        try simp only [Act.put, List.setIfInBounds_toArray, List.set_cons_zero, List.set_cons_succ, List.getElem_toArray, List.getElem_cons_zero, List.getElem_cons_succ]
        refine wpAnyIn_ready (rs := [0, 5]) (by kernel_rfl) (by simp) ?_
        refine AllReadyIn.cons rfl (fun K hK => ?_) (AllReadyIn.cons rfl (fun K hK => ?_) AllReadyIn.nil)
        · go_simp
          refine hK _ _ ?_
          clear hK K
          refine wpAnyIn_ready (rs := [5]) (by kernel_rfl) (by simp) ?_
          refine AllReadyIn.cons rfl (fun K hK => ?_) AllReadyIn.nil
          go_simp
          refine hK _ _ ?_
          clear hK K
          refine wpAnyIn_ready (rs := [6]) (by kernel_rfl) (by simp) ?_
          refine AllReadyIn.cons rfl (fun K hK => ?_) AllReadyIn.nil
          go_simp
          gi_wp2_with (gi_at_call 46; refine (callsIn_wide.2 (chain_refused.calls _ _ _ _ _ _ _ _ _ _ rv _ HRF.out)).mono ?_; rintro e w4 ⟨rfl, hb4⟩; have HBR := Aside0.mk (hb4 : Below w3.heap.size w3.drew w4); clear hb4)
          refine wpAnyIn_take (i := 7) (v := ?_) rfl rfl (by kernel_rfl) (by kernel_rfl) (by kernel_rfl) (fun _ _ _ h => nomatch h.1) ⟨Or.inl ⟨by kernel_rfl, ?_⟩, fun _ => rfl⟩ ?_
          case refine_2 => (intro w; go_simp <;> with_reducible rfl)
          try simp only [Act.put, List.setIfInBounds_toArray, List.set_cons_zero, List.set_cons_succ, List.getElem_toArray, List.getElem_cons_zero, List.getElem_cons_succ]
          refine wpAnyIn_done (by kernel_rfl) ?_ _
          exact ⟨rfl, rfl, HBR⟩
        · go_simp
          refine hK _ _ ?_
          clear hK K
          refine wpAnyIn_ready (rs := [0]) (by kernel_rfl) (by simp) ?_
          refine AllReadyIn.cons rfl (fun K hK => ?_) AllReadyIn.nil
          go_simp
          refine hK _ _ ?_
          clear hK K
          refine wpAnyIn_ready (rs := [6]) (by kernel_rfl) (by simp) ?_
          refine AllReadyIn.cons rfl (fun K hK => ?_) AllReadyIn.nil
          go_simp
          gi_wp2_with (gi_at_call 46; refine (callsIn_wide.2 (chain_refused.calls _ _ _ _ _ _ _ _ _ _ rv _ HRF.out)).mono ?_; rintro e w4 ⟨rfl, hb4⟩; have HBR := Aside0.mk (hb4 : Below w3.heap.size w3.drew w4); clear hb4)
          refine wpAnyIn_take (i := 7) (v := ?_) rfl rfl (by kernel_rfl) (by kernel_rfl) (by kernel_rfl) (fun _ _ _ h => nomatch h.1) ⟨Or.inl ⟨by kernel_rfl, ?_⟩, fun _ => rfl⟩ ?_
          case refine_2 => (intro w; go_simp <;> with_reducible rfl)
          try simp only [Act.put, List.setIfInBounds_toArray, List.set_cons_zero, List.set_cons_succ, List.getElem_toArray, List.getElem_cons_zero, List.getElem_cons_succ]
          refine wpAnyIn_done (by kernel_rfl) ?_ _
          exact ⟨rfl, rfl, HBR⟩
      case rest =>
        clear hfn hund z0 z1 z2 z3 z4 y0 y1 y2 y3 y4 q0 q1 q2 q3
        rintro e a' w4 ⟨rfl, rfl, HBR⟩
        have HW4 : Aside0 (Below w3.heap.size w3 w4) := ⟨(show Below w3.heap.size w3 w3.drew from ⟨rfl, rfl, rfl, Nat.le_refl _, fun _ _ => rfl⟩).trans HBR.out⟩
        have HB4 := Aside0.mk (HB3.out.trans (HW4.out.mono HB3.out.size))
        have HK4 := Aside0.mk ((HW4.out.block _ (blk_lt HK3.out)).trans HK3.out)
        replace q4 := pw_cell_below HW4.out q4
        have y0 : w4.cell? ⟨w.heap.size, 0, none⟩ = some (.int .i64 a2) := (blk_cell HK4.out 0).trans rfl
        have y1 : w4.cell? ⟨w.heap.size, 1, none⟩ = some (.int .i64 ((l1.length : Int) + 1)) := (blk_cell HK4.out 1).trans rfl
        have y2 : w4.cell? ⟨w.heap.size, 2, none⟩ = some (.int .i64 a3) := (blk_cell HK4.out 2).trans rfl
        have y3 : w4.cell? ⟨w.heap.size, 3, none⟩ = some (.int .i64 a4) := (blk_cell HK4.out 3).trans rfl
        have y4 : w4.cell? ⟨w.heap.size, 4, none⟩ = some (.int .u64 0) := (blk_cell HK4.out 4).trans rfl
        by_cases g4 : rv = 0
        · have HHH := HH.out
          rw [if_pos g4] at HHH
          simp only [Option.some.injEq, Prod.mk.injEq] at HHH
          obtain ⟨hrr, rfl⟩ := HHH
          obtain ⟨y, hy⟩ : ∃ y, linkF [a2, (l1.length : Int) + 1, a3, a4] p.f4 32 = y := ⟨_, rfl⟩
          have HL : Aside0 (chain_Link.f p.f4 a2 ((l1.length : Int) + 1) a3 a4 0 = some y) := ⟨by rw [← hy]; rfl⟩
          rw [hy] at hrr
          have HRR := Aside0.mk hrr
          have g4b : (rv != 0) = false := bne_eq_false_iff_eq.mpr g4
          clear hy hrr g4
          go_wp2_with (first | (go_at_call 32; refine (chain_Link.calls _ _ _ _ _ _ y _ HL.out).mono ?_; rintro e w5 ⟨rfl, hb6_⟩; have HB6_ := Aside0.mk (HB4.out.trans (hb6_.mono HB4.out.size)); have HK6_ := Aside0.mk ((hb6_.block _ (blk_lt HK4.out)).trans HK4.out); have x4 : w5.cell? ⟨w.heap.size, 4, none⟩ = some (.int .u64 0) := (blk_cell HK6_.out 4).trans rfl; have f4 := blk_frozen HK6_.out 4; have HK5 := Aside0.mk (heap_setCell_same w5 w.heap.size 4 _ _ (.int .u64 y) HK6_.out); have HB5 := Aside0.mk (HB6_.out.setCell (p := ⟨w.heap.size, 4, none⟩) (Nat.le_refl _) (.int .u64 y)); have v0 : (w5.setCell ⟨w.heap.size, 4, none⟩ (.int .u64 y)).cell? ⟨w.heap.size, 0, none⟩ = some (.int .i64 a2) := (blk_cell HK5.out 0).trans rfl; have v1 : (w5.setCell ⟨w.heap.size, 4, none⟩ (.int .u64 y)).cell? ⟨w.heap.size, 1, none⟩ = some (.int .i64 ((l1.length : Int) + 1)) := (blk_cell HK5.out 1).trans rfl; have v2 : (w5.setCell ⟨w.heap.size, 4, none⟩ (.int .u64 y)).cell? ⟨w.heap.size, 2, none⟩ = some (.int .i64 a3) := (blk_cell HK5.out 2).trans rfl; have v3 : (w5.setCell ⟨w.heap.size, 4, none⟩ (.int .u64 y)).cell? ⟨w.heap.size, 3, none⟩ = some (.int .i64 a4) := (blk_cell HK5.out 3).trans rfl; have v4 : (w5.setCell ⟨w.heap.size, 4, none⟩ (.int .u64 y)).cell? ⟨w.heap.size, 4, none⟩ = some (.int .u64 y) := (blk_cell HK5.out 4).trans rfl; clear hb6_) | (go_at_call 47; refine (concat_calls (w5.heap.size + 1) (some ad) (some ⟨w5.heap.size, 0, none⟩) c1 1 l1 [⟨a2, (l1.length : Int) + 1, a3, a4, y⟩] _ h64 rfl ?hb ?hl ?hr).mono ?_; (case hb => simpa using second_box (w5.setCell ⟨w.heap.size, 4, none⟩ (.int .u64 y)) (.cells #[.int .i64 a2, .int .i64 ((l1.length : Int) + 1), .int .i64 a3, .int .i64 a4, .int .u64 y] 44) (.cells #[.slice (some ad) l1.length c1, .slice (some ⟨w5.heap.size, 0, none⟩) 1 1] 26)); (case hl => exact Kd.C_below HR.out (((HB5.out.alloc HB5.out.size _).alloc (by have := HB5.out.size; simp at this ⊢; omega) _))); (case hr => exact C_box _ (((alloc_below _ _).block _ (by simp)).trans (by simpa using heap_alloc_new (w5.setCell ⟨w.heap.size, 4, none⟩ (.int .u64 y)) (.cells #[.int .i64 a2, .int .i64 ((l1.length : Int) + 1), .int .i64 a3, .int .i64 a4, .int .u64 y] 44)))); rintro e w8 ⟨vv, rfl, hR8, hb8⟩; have HR8 := Aside0.mk hR8; have HB8 := Aside0.mk ((((HB5.out.alloc HB5.out.size (.cells #[.int .i64 a2, .int .i64 ((l1.length : Int) + 1), .int .i64 a3, .int .i64 a4, .int .u64 y] 44)).alloc (by have := HB5.out.size; simp at this ⊢; omega) (.cells #[.slice (some ad) l1.length c1, .slice (some ⟨w5.heap.size, 0, none⟩) 1 1] 26))).trans (hb8.mono (by have := HB5.out.size; simp at this ⊢; omega))); clear hR8 hb8))
          go_ret2
          exact ⟨_, rfl, by rw [← HRR.out]; exact Kd.R_lower HR8.out (by have := HB5.out.size; simp at this ⊢; omega), HB8.out⟩
        · have HHH := HH.out
          rw [if_neg g4] at HHH
          simp only [Option.some.injEq, Prod.mk.injEq] at HHH
          obtain ⟨rfl, rfl⟩ := HHH
          have g4b : (rv != 0) = true := bne_iff_ne.mpr g4
          clear g4
          go_wp2
          go_ret2
          exact ⟨_, rfl, Kd.R_nil _ _ _ _ _, HB4.out⟩
end Go.Proofs.Ytenkffjlpdappaa.Pr
