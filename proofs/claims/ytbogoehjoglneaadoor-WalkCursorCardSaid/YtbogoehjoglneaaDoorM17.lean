/- A script of a cursor's calls, opened. -/
import Derived.Test.YtbogoehjoglneaaDoorM11
import Derived.Test.YtbogoehjoglneaaDoorM16
set_option linter.unusedVariables false
set_option linter.unusedSimpArgs false
set_option linter.unnecessarySimpa false
set_option linter.unusedSectionVars false
namespace Go.Proofs.YtbogoehjoglneaaDoor
open Go.ChangeShapes Go.WideShapes Go.ChangeAt Go.RowKit
set_option maxRecDepth 100000
section
variable {H : Type} {enc : TypeId × Value → H} {w : World} {base : Nat} {held : Bool}
def op3 (l : List Int) : Int × Int × Int := (l.getD 0 0, l.getD 1 0, l.getD 2 0)
theorem op3_cells {l : List Int} (h : l.length = 3) : opC (op3 l) = l.map (Value.int .i64) := by
  match l, h with
  | [a, b, c], _ => rfl
theorem open_ops {base' : Nat} {v : Value} {d : DataW H} {ps : List MemPlace} (hval : Value.okWide Tryd.prog w .any base' 25 v) (h : DataW.Trod enc Tryd.prog w base (fun _ => true) held 25 v d ps) :
    ∃ A n c os, v = .slice A n c ∧ OpsAt (memOf w) A n c os ∧ (n : Int) ≤ 9223372036854775807 := by
  obtain ⟨A, n, c, os, rfl, hs, hl, hw, hn⟩ := open_rows (k := 3) Tryd.underlying25 Tryd.underlying41 (by kernel_rfl) (by kernel_rfl) (by kernel_rfl) (by kernel_rfl) hval h
  refine ⟨A, n, c, os.map op3, rfl, ⟨?_, ?_⟩, hn⟩
  · have : (os.map op3).flatMap opC = os.flatMap (fun l => l.map (Value.int .i64)) := by
      clear hs hl
      induction os with
      | nil => rfl
      | cons l os ih =>
        rw [List.map_cons, List.flatMap_cons, List.flatMap_cons, op3_cells (hw l (.head _)).1, ih (fun x hx => hw x (.tail _ hx))]
    rw [this]; exact hs
  · intro o ho
    obtain ⟨l, hl, rfl⟩ := List.mem_map.1 ho
    obtain ⟨h3, hz⟩ := hw l hl
    match l, h3 with
    | [a, b, c], _ => exact wf_i64 (hz b (by simp))
end
end Go.Proofs.YtbogoehjoglneaaDoor
