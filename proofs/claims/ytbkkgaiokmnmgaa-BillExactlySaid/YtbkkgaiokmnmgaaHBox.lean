/- Boxes: small laws on new blocks. -/
import Derived.Test.YtbkkgaiokmnmgaaPrx0
import Derived.RegionTactic
import Derived.Deep.LoopGhost
import Derived.Shelf.Abstract
namespace Go.Proofs.Ytbkkgaiokmnmgaa.Pr
open Go.RowKit Go.Proofs.YtbkkgaiokmnmgaaW.PrintWords Go.Proofs.YtbkkgaiokmnmgaaW.PrintLast Go.Proofs.YtbkkgaiokmnmgaaW.PrintMore
set_option linter.unusedVariables false
set_option linter.unusedSimpArgs false
theorem new_cell (W : World) (v : Value) (t : TypeId) : (W.alloc (.cells #[v] t)).cell? ⟨W.heap.size, 0, none⟩ = some v := by
  rw [World.cell?_alloc_at _ _ _ _ (by simp)]; rfl
theorem old_cell {W : World} {a : Addr} {v : Value} (o : Obj) (h : W.cell? a = some v) : (W.alloc o).cell? a = some v :=
  pw_cell_below ((Below.refl _ _).alloc (Nat.le_refl _) o) h
theorem second_box (w : World) (o1 o2 : Obj) : ((w.alloc o1).alloc o2).heap[w.heap.size + 1]? = some o2 := by have := heap_alloc_new (w.alloc o1) o2; rwa [World.size_alloc] at this
theorem below_setRow {B : Nat} {a w : World} (h : Below B a w) {g : Nat} (hg : B ≤ g) (cs : Array Value) : Below B a (w.setRow g cs) :=
  h.trans ⟨rfl, rfl, rfl, by simp, fun k hk => setRow_other _ _ _ _ (by omega)⟩
theorem wrap_fit {x : Int} (h0 : -9223372036854775808 ≤ x) (h1 : x ≤ 9223372036854775807) : IntKind.i64.wrap x = x := by
  simp [IntKind.wrap, IntKind.bits, IntKind.signed]; omega
/-- An element of an array's value, at whatever index. -/
theorem run_index_row {P : Program} {t e : TypeId} {n : Nat} {d : TypeDesc} (hu : P.underlying t = some (.array n e)) (he : P.underlying e = some d) (hd : (match d with | .struct _ | .array _ _ => true | _ => false) = false)
    (hi : (P.info? e).map (·.size) = some 1) (cs : Array Value) (i : Int) (h0 : 0 ≤ i) (h1 : i < n) (v : Value) (hv : cs[i.toNat]? = some v) (w : World) :
    (Instr.index t (.agg cs) (.int .i64 i)).run P w = .ok v w := by
  have hsz : (sizeOf e).run P w = .ok 1 w := by
    cases hq : P.info? e with
    | none => simp [hq] at hi
    | some inf => have hs : inf.size = 1 := by simpa [hq] using hi
                  simp [sizeOf, typeInfo, Sem.run_bind, hq, hs]
  have hp : (part e cs (i.toNat * 1)).run P w = .ok v w := by
    unfold part
    rw [Sem.run_bind, run_isAgg_plain he hd w]
    simp [hv]
  unfold Instr.index
  simp only [asIntOf, Sem.run_bind, Sem.run_pure, Result.andThen_ok, run_underlying hu w, h0, h1, and_self, if_true, hsz, hp]
end Go.Proofs.Ytbkkgaiokmnmgaa.Pr
