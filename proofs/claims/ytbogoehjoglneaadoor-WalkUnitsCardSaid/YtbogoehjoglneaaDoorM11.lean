/- What the door's condition gives: the four tables, over the whole first memory. -/
import Derived.Test.YtbogoehjoglneaaDoorRows
import Derived.Test.YtbogoehjoglneaaDoorTie
import Derived.Test.YtbogoehjoglneaaDoorCards
import Derived.ProofKit
import Derived.LaidMore
import Derived.OpenShut
import Derived.Stop.Joined
import Derived.Lib.LaidTab
import Derived.Deep.Strs
import Derived.SevenTiedAt
import Derived.Lib.SmallJoins
import Derived.Deep.Matrix
import Derived.Carry
import Derived.Below
import Derived.Deep.Slices
import Derived.Deep.Fields
import Derived.ChangeSame
import Derived.Test.YtbogoehjoglneaaDoorM2
import Derived.Test.YtbogoehjoglneaaDoorM9
import Derived.Test.YtbogoehjoglneaaDoorM5
set_option linter.unusedVariables false
set_option linter.unusedSimpArgs false
set_option linter.unnecessarySimpa false
set_option linter.unusedSectionVars false
namespace Go.Proofs.YtbogoehjoglneaaDoor
open Go.ChangeShapes Go.WideShapes Go.ChangeAt Go.RowKit
set_option maxRecDepth 100000

/- All of a world's memory, as immutable memory. -/
def memOf (w : World) : Mem := fun b => w.heap[b]?
theorem Imm.all (w : World) : Imm (memOf w) w := fun _ _ h => h

theorem door_own : ownKnob Tryd.prog.godebug = none := by kernel_rfl
theorem door_laidOut : laidOutB Tryd.prog = true := by kernel_rfl

section
variable {w : World} {base fuel : Nat} {sp : Nat → Bool} {held : Bool}
theorem span_cells {cs : List Value} {a b c : Int} {p : List MemPlace} (h : DataW.trod (fun _ => ()) Tryd.prog w base sp held fuel 231 cs = some (.agg [.lit (.int .i64 a), .lit (.int .i64 b), .lit (.int .i64 c)], p)) : cs = [.int .i64 a, .int .i64 b, .int .i64 c] := by
  obtain ⟨y0, y1, y2, n, hx, hl, h0, h1, h2⟩ := Deep.trod_struct3 Tryd.underlying231 h
  have c3 : Tryd.prog.cellsOf 3 = 1 := by kernel_rfl
  have c4 : Tryd.prog.cellsOf 226 = 1 := by kernel_rfl
  have c0 : Tryd.prog.cellsOf 231 = 3 := by kernel_rfl
  rw [c0] at hl
  simp only [Prod.mk.injEq, DataW.agg.injEq, List.cons.injEq, and_true] at hx
  obtain ⟨⟨e0, e1, e2⟩, _⟩ := hx
  match cs, hl with
  | [x0, x1, x2], _ =>
    obtain ⟨k0, q0, r0, _⟩ := DataW.trod_int Tryd.underlying3 h0
    obtain ⟨k1, q1, r1, _⟩ := DataW.trod_int Tryd.underlying3 h1
    obtain ⟨k2, q2, r2, _⟩ := DataW.trod_int Tryd.underlying226 h2
    rw [r0] at e0; rw [r1] at e1; rw [r2] at e2
    simp [c3, c4] at q0 q1 q2 e0 e1 e2
    subst q0 q1 q2 e0 e1 e2
    rfl
theorem bad_cells {cs : List Value} {p : List MemPlace} (h : DataW.trod (fun _ => ()) Tryd.prog w base sp held fuel 43 cs = some (Rows.laid_galley_step_bad, p)) : cs = [.int .i32 65533, .int .i64 1, .bool false] := by
  obtain ⟨y0, y1, y2, n, hx, hl, h0, h1, h2⟩ := Deep.trod_struct3 Tryd.underlying43 h
  have c1 : Tryd.prog.cellsOf 21 = 1 := by kernel_rfl
  have c3 : Tryd.prog.cellsOf 3 = 1 := by kernel_rfl
  have c4 : Tryd.prog.cellsOf 4 = 1 := by kernel_rfl
  have c0 : Tryd.prog.cellsOf 43 = 3 := by kernel_rfl
  rw [c0] at hl
  simp only [Rows.laid_galley_step_bad, Prod.mk.injEq, DataW.agg.injEq, List.cons.injEq, and_true] at hx
  obtain ⟨⟨e0, e1, e2⟩, _⟩ := hx
  match cs, hl with
  | [x0, x1, x2], _ =>
    obtain ⟨k0, q0, r0, _⟩ := DataW.trod_int Tryd.underlying21 h0
    obtain ⟨k1, q1, r1, _⟩ := DataW.trod_int Tryd.underlying3 h1
    obtain ⟨k2, q2, r2⟩ := DataW.trod_bool Tryd.underlying4 h2
    rw [r0] at e0; rw [r1] at e1; rw [r2] at e2
    simp [c1, c3, c4] at q0 q1 q2 e0 e1 e2
    subst q0 q1 q2 e0 e1 e2
    rfl
theorem spans_cells {cs : List Value} {p : List MemPlace} (h : DataW.trod (fun _ => ()) Tryd.prog w base sp held fuel 232 cs = some (Rows.laid_galley_octet_spans, p)) :
    cs = [.int .i64 0, .int .i64 127, .int .i64 1, .int .i64 128, .int .i64 191, .int .i64 2, .int .i64 192, .int .i64 193, .int .i64 6, .int .i64 194, .int .i64 223, .int .i64 3, .int .i64 224, .int .i64 239, .int .i64 4, .int .i64 240, .int .i64 244, .int .i64 5, .int .i64 245, .int .i64 255, .int .i64 6] := by
  obtain ⟨xs, m, rfl, hx, hl, hn, hel⟩ := DataW.trod_array Tryd.underlying232 h
  have c0 : Tryd.prog.cellsOf 231 = 3 := by kernel_rfl
  have c7 : Tryd.prog.cellsOf 232 = 21 := by kernel_rfl
  rw [c7] at hl
  rw [c0] at hel
  simp only [Rows.laid_galley_octet_spans, Prod.mk.injEq, DataW.agg.injEq] at hx
  obtain ⟨hx, _⟩ := hx
  match xs, hn with
  | [(d0, p0), (d1, p1), (d2, p2), (d3, p3), (d4, p4), (d5, p5), (d6, p6)], _ =>
    simp only [List.map_cons, List.map_nil, List.cons.injEq, and_true] at hx
    obtain ⟨rfl, rfl, rfl, rfl, rfl, rfl, rfl⟩ := hx
    have g0 := span_cells (hel 0 (by decide))
    have g1 := span_cells (hel 1 (by decide))
    have g2 := span_cells (hel 2 (by decide))
    have g3 := span_cells (hel 3 (by decide))
    have g4 := span_cells (hel 4 (by decide))
    have g5 := span_cells (hel 5 (by decide))
    have g6 := span_cells (hel 6 (by decide))
    have e : cs = cs.drop 0 := rfl
    have split : ∀ (k : Nat) (x y z : Value), (cs.drop (k * 3)).take 3 = [x, y, z] → cs.drop (k * 3) = x :: y :: z :: cs.drop ((k + 1) * 3) := by
      intro k x y z hk
      have := List.take_append_drop 3 (cs.drop (k * 3))
      rw [hk, List.drop_drop] at this
      rw [← this, show k * 3 + 3 = (k + 1) * 3 by omega]
      rfl
    rw [show cs = cs.drop (0 * 3) from rfl, split 0 _ _ _ g0, split 1 _ _ _ g1, split 2 _ _ _ g2, split 3 _ _ _ g3, split 4 _ _ _ g4, split 5 _ _ _ g5, split 6 _ _ _ g6, List.drop_of_length_le (by omega)]
end

theorem var_heap {w : World} {n : String} {g : Nat} {cs : Array Value} (hg : Tryd.prog.globalNamed n = some g) (h : w.var? Tryd.prog n = some cs) {l : List Value} (hl : cs.toList = l) : ∃ t fr, memOf w g = some (.cells l.toArray t fr) := by
  subst hl
  simp only [World.var?, hg, Option.bind_some] at h
  unfold memOf
  split at h
  · rename_i c t fr e
    obtain rfl := Option.some.inj h
    exact ⟨t, fr, e⟩
  · cases h

/- The four variables as each row of this seat lists them. -/
abbrev laids : List (String × DataW Unit) := [("galley/octet.spans", Rows.laid_galley_octet_spans), ("galley/octet.needs", Rows.laid_galley_octet_needs), ("galley/octet.masks", Rows.laid_galley_octet_masks), ("galley/step.bad", Rows.laid_galley_step_bad)]

theorem gl_of_laid {w : World} (h : laidMetH Tryd.prog laids w) : Gl (memOf w) := by
  rw [MakeChecks.laidMetH_plain _ _ _ (by kernel_rfl)] at h
  obtain ⟨ps, ⟨g0, t0, cs0, f0, p0, q0, hg0, ht0, hv0, hd0, ⟨g1, t1, cs1, f1, p1, q1, hg1, ht1, hv1, hd1, ⟨g2, t2, cs2, f2, p2, q2, hg2, ht2, hv2, hd2, ⟨g3, t3, cs3, f3, p3, q3, hg3, ht3, hv3, hd3, _, _⟩, _⟩, _⟩, _⟩, _, _⟩ := h
  obtain rfl := Option.some.inj ((show Tryd.prog.globalNamed "galley/octet.spans" = some 3 by kernel_rfl).symm.trans hg0)
  obtain rfl := Option.some.inj ((show Tryd.prog.globalNamed "galley/octet.needs" = some 2 by kernel_rfl).symm.trans hg1)
  obtain rfl := Option.some.inj ((show Tryd.prog.globalNamed "galley/octet.masks" = some 1 by kernel_rfl).symm.trans hg2)
  obtain rfl := Option.some.inj ((show Tryd.prog.globalNamed "galley/step.bad" = some 0 by kernel_rfl).symm.trans hg3)
  obtain rfl := Option.some.inj ((show (Tryd.prog.globals[3]?).map (·.type) = some 232 by kernel_rfl).symm.trans ht0)
  obtain rfl := Option.some.inj ((show (Tryd.prog.globals[2]?).map (·.type) = some 229 by kernel_rfl).symm.trans ht1)
  obtain rfl := Option.some.inj ((show (Tryd.prog.globals[1]?).map (·.type) = some 224 by kernel_rfl).symm.trans ht2)
  obtain rfl := Option.some.inj ((show (Tryd.prog.globals[0]?).map (·.type) = some 43 by kernel_rfl).symm.trans ht3)
  refine ⟨var_heap hg0 hv0 (spans_cells hd0), var_heap hg1 hv1 ?_, var_heap hg2 hv2 ?_, var_heap hg3 hv3 (bad_cells hd3)⟩
  · exact Lib.cells_of_tab (k := .i64) (zs := [0, 1, 0, 2, 3, 4, 0]) Tryd.underlying229 Tryd.underlying3 (by kernel_rfl) (by kernel_rfl) hd1
  · exact Lib.cells_of_tab (k := .u8) (zs := [0, 127, 31, 15, 7]) Tryd.underlying224 Tryd.underlying5 (by kernel_rfl) (by kernel_rfl) hd2

/- The door's own heap meets the condition. -/
theorem door_met (os : Os) (args : Array Value) : laidMetH Tryd.prog laids ((World.doorLaid Tryd.prog 36 os).forCall (fun _ _ => 0) ⟨#[], args, []⟩).memory :=
  laidMetH_of_parts3 (fuel := 8) (laidMet_of_run' 8 (by kernel_rfl) (by kernel_rfl)) (by kernel_rfl) (by kernel_rfl)
end Go.Proofs.YtbogoehjoglneaaDoor

/- Arguments of the laws, opened over the whole first memory: pieces, bytes; the answer shut. -/
namespace Go.Proofs.YtbogoehjoglneaaDoor
open Go.ChangeShapes Go.WideShapes Go.ChangeAt Go.RowKit
set_option maxRecDepth 100000

theorem cellM_of_cell {w : World} {b o : Nat} {v : Value} (h : w.cell? ⟨b, o, none⟩ = some v) : cellM (memOf w) b o = some v := by
  unfold World.cell? at h
  unfold cellM memOf
  split at h <;> simp_all
theorem spot_of_cell {w : World} {ad : Addr} {v : Value} (h : w.cell? ad = some v) : ad.spot = none := by
  unfold World.cell? at h
  split at h
  · split at h
    · cases h
    · simp_all
  · cases h
theorem spot_of_ok {P : Program} {w : World} {base : Nat} {t e : TypeId} {a : Addr} {n c : Nat} (ht : P.underlying t = some (.slice e)) (h : Cell.okWide P w .any base t (.slice (some a) n c)) : a.spot = none := by
  unfold Cell.okWide at h
  rw [ht] at h
  simp only [Cell.ok, ht] at h
  exact h.2.2.2.1
theorem okWide_agg2 {P : Program} {w : World} {base : Nat} {t : TypeId} {fs : Array Field} {u0 u1 : TypeId} {v0 v1 : Value} (ht : P.underlying t = some (.struct fs)) (hc : P.cellTypes P.depth t = some [u0, u1]) (h : Value.okWide P w .any base t (.agg #[v0, v1])) :
    Cell.okWide P w .any base u0 v0 ∧ Cell.okWide P w .any base u1 v1 := by
  unfold Value.okWide at h
  rw [ht] at h
  obtain ⟨cs, e, _, ts, hts, _, hall⟩ := h
  cases e
  rw [hc] at hts
  cases hts
  obtain ⟨a, ha, h0⟩ := hall 0 v0 rfl
  obtain ⟨b, hb, h1⟩ := hall 1 v1 rfl
  cases ha
  cases hb
  exact ⟨h0, h1⟩

/- Bytes that are read, as a list. -/
def bytesOf (z : Int) : UInt8 := UInt8.ofNat z.toNat
theorem ub_bytesOf {z : Int} (h : (Lit.int .u8 z).wf = true) : ub (bytesOf z) = .int .u8 z := by
  have h1 : 0 ≤ z ∧ z ≤ 255 := by simpa [Lit.wf, IntKind.min, IntKind.max, IntKind.signed, IntKind.bits] using h
  unfold ub bytesOf
  congr 1
  have : z.toNat < 256 := by omega
  simp
  omega

section
variable {H : Type} {enc : TypeId × Value → H} {w : World} {base : Nat} {held : Bool}
/- A slice of slices of bytes. -/
theorem open_pieces {n base' : Nat} {x : Value} {y : DataW H × List MemPlace} (hok : Cell.okWide Tryd.prog w .any base' 22 x) (h : DataW.trod enc Tryd.prog w base (fun _ => true) held n 22 [x] = some y) :
    ∃ A m c vs, x = .slice A m c ∧ PsAt (memOf w) A m c vs ∧ (m : Int) ≤ 9223372036854775807 := by
  rcases Deep.open_int_rows Tryd.underlying22 Tryd.underlying28 Tryd.underlying5 (by kernel_rfl) (by kernel_rfl) h with ⟨e, _⟩ | ⟨a, len, cap, A, L, C, Z, e, _, hl, hm, _, hrow⟩
  · cases e
    exact ⟨none, 0, 0, [], rfl, ⟨SL.none _ _ _, fun i v h => by simp at h⟩, by omega⟩
  · cases e
    have hsp := spot_of_ok Tryd.underlying22 hok
    obtain ⟨b, off, sp⟩ := a
    simp only at hsp
    subst hsp
    refine ⟨_, len, cap, (List.range len).map fun r => .slice (A r) (L r) (C r), rfl, ⟨⟨by simp, ?_, hl, fun e => (by cases e), ?_⟩, ?_⟩, by simp only [maxLen] at hm; omega⟩
    · intro u hu
      obtain ⟨r, _, rfl⟩ := List.mem_map.1 hu
      rfl
    · intro ad e
      cases e
      refine ⟨rfl, fun j u hu => ?_⟩
      rw [List.getElem?_map] at hu
      obtain ⟨r, hr, rfl⟩ := Option.map_eq_some_iff.1 hu
      obtain ⟨hlt, rfl⟩ := List.getElem?_eq_some_iff.1 hr
      simp only [List.getElem_range, List.length_range] at hlt ⊢
      have := (hrow j (by omega)).1
      rw [Addr.add_lit] at this
      exact cellM_of_cell this
    · intro i v hv
      rw [List.getElem?_map] at hv
      obtain ⟨r, hr, rfl⟩ := Option.map_eq_some_iff.1 hv
      obtain ⟨hlt, rfl⟩ := List.getElem?_eq_some_iff.1 hr
      simp only [List.getElem_range, List.length_range] at hlt ⊢
      obtain ⟨_, h1, h2, h3, h4, h5, h6⟩ := hrow i (by omega)
      have hlen : (((Z i).take (L i)).map bytesOf).length = L i := by simp; omega
      refine ⟨A i, L i, C i, ((Z i).take (L i)).map bytesOf, rfl, hlen.symm, ?_⟩
      by_cases h0 : L i = 0
      · left
        rw [h0]; rfl
      right
      refine ⟨by omega, fun e => absurd (h5 e) (by omega), fun ad e => ?_⟩
      obtain ⟨_, hc⟩ := h6 ad e
      obtain ⟨b', o', s'⟩ := ad
      have hs := spot_of_cell (by simpa [Addr.add] using hc 0 (by omega))
      simp only at hs
      subst hs
      refine ⟨rfl, fun j hj => ?_⟩
      rw [hlen] at hj
      have hcj := hc j (by omega)
      rw [Addr.add_lit] at hcj
      have hz : j < (Z i).length := by omega
      rw [List.getElem_map, List.getElem_take, ub_bytesOf (h4 _ (List.getElem_mem hz))]
      rw [show (Z i).getD j 0 = (Z i)[j] by simp [List.getD, hz]] at hcj
      exact cellM_of_cell hcj
end
end Go.Proofs.YtbogoehjoglneaaDoor

/- More arguments opened over the first memory: rows of structs whose fields are ints; pieces and bytes that stand alone. -/
namespace Go.Proofs.YtbogoehjoglneaaDoor
open Go.ChangeShapes Go.WideShapes Go.ChangeAt Go.RowKit
set_option maxRecDepth 100000
set_option linter.unusedVariables false

def isI64 (P : Program) (t : TypeId) : Bool := match P.underlying t with | some (.int .i64) => true | _ => false
theorem isI64_of {P : Program} {t : TypeId} (h : isI64 P t = true) : P.underlying t = some (.int .i64) := by
  unfold isI64 at h
  split at h
  · assumption
  · cases h
section
variable {H : Type} {enc : TypeId × Value → H} {P : Program} {w : World} {base : Nat} {spare : Nat → Bool} {held : Bool}
theorem ints_of_struct {e : TypeId} {fs : Array Field} {cs : List Value} {n : Nat} {x : DataW H × List MemPlace} (he : P.underlying e = some (.struct fs)) (hone : Deep.oneCellFields P fs = true) (hI : fs.all (fun f => isI64 P f.type) = true) (hC : P.cellsOf e = fs.size)
    (h : DataW.trod enc P w base spare held n e cs = some x) : cs.length = fs.size ∧ ∀ i, i < fs.size → ∃ z, cs[i]? = some (.int .i64 z) ∧ (Lit.int .i64 z).wf = true := by
  obtain ⟨xs, m, _, rfl, hl, hlen, hf⟩ := DataW.trod_struct he h
  rw [hC] at hl
  refine ⟨hl, fun i hi => ?_⟩
  have hfi : fs[i]? = some fs[i] := Array.getElem?_eq_getElem hi
  obtain ⟨h1, h2⟩ := Deep.hone_of hone i fs[i] hfi
  have h3 := hf i fs[i] hfi
  rw [h1, h2, List.drop_eq_getElem_cons (by omega)] at h3
  rw [List.getElem?_eq_getElem (show i < xs.length by omega)] at h3
  obtain ⟨z, e, _, hw⟩ := DataW.trod_int (isI64_of (by simpa using (Array.all_eq_true.1 hI) i hi)) h3
  simp only [List.take_succ_cons, List.take_zero, List.cons.injEq, and_true] at e
  exact ⟨z, by rw [List.getElem?_eq_getElem (by omega), e], hw⟩
def intAt (w : World) (a : Addr) : Int := match w.cell? a with | some (.int _ z) => z | _ => 0
theorem okWide_cell {t e : TypeId} {v : Value} {base' : Nat} (ht : P.underlying t = some (.slice e)) (h : Value.okWide P w .any base' t v) : Cell.okWide P w .any base' t v := by
  unfold Value.okWide at h
  rw [ht] at h
  exact h
/- A row of structs of k ints. -/
theorem open_rows {t e : TypeId} {fs : Array Field} {k base' : Nat} {v : Value} {d : DataW H} {ps : List MemPlace} (ht : P.underlying t = some (.slice e)) (he : P.underlying e = some (.struct fs)) (hone : Deep.oneCellFields P fs = true) (hI : fs.all (fun f => isI64 P f.type) = true) (hC : P.cellsOf e = fs.size) (hk : fs.size = k)
    (hval : Value.okWide P w .any base' t v) (h : DataW.Trod enc P w base spare held t v d ps) :
    ∃ (A : Option Addr) (n c : Nat) (os : List (List Int)), v = .slice A n c ∧ SL (memOf w) k A n c (os.flatMap (fun l => l.map (Value.int .i64))) ∧ os.length = n ∧ (∀ l ∈ os, l.length = k ∧ ∀ z ∈ l, (Lit.int .i64 z).wf = true) ∧ (n : Int) ≤ 9223372036854775807 := by
  have hok := okWide_cell ht hval
  obtain ⟨a, len, cap, rfl⟩ := okWide_slice ht hval
  obtain ⟨fuel, hf⟩ := h
  rcases Deep.open_slice (cs := [.slice a len cap]) ht (by simpa [Value.cells] using hf) with ⟨e, _⟩ | ⟨a', len', cap', m, n, D, Pl, e, _, hl, hm, hmm, _, hi⟩
  · cases e
    exact ⟨none, 0, 0, [], rfl, SL.none _ _ _, rfl, (fun _ h => by cases h), by omega⟩
  · cases e
    have hsp := spot_of_ok ht hok
    obtain ⟨b, off, sp⟩ := a'
    simp only at hsp
    subst hsp
    have hlm : len ≤ m := by rw [hmm]; split <;> omega
    have key : ∀ i, i < len → ∀ j, j < k → w.cell? ⟨b, off + (i * k + j), none⟩ = some (.int .i64 (intAt w ⟨b, off + (i * k + j), none⟩)) ∧ (Lit.int .i64 (intAt w ⟨b, off + (i * k + j), none⟩)).wf = true := by
      intro i hil j hj
      obtain ⟨cs', hc, htr⟩ := hi i (by omega)
      obtain ⟨_, _, hcs⟩ := World.cells?_some hc
      obtain ⟨_, hz⟩ := ints_of_struct he hone hI hC htr
      obtain ⟨z, hz1, hz2⟩ := hz j (by omega)
      have h1 := hcs j (by omega)
      rw [Addr.add_lit, Addr.add_lit, hC, hk, hz1, Nat.add_assoc] at h1
      unfold intAt
      rw [h1]
      exact ⟨rfl, hz2⟩
    refine ⟨_, len, cap, (List.range len).map (fun i => (List.range k).map fun j => intAt w ⟨b, off + (i * k + j), none⟩), rfl, ?_, by simp, ?_, by simp only [maxLen] at hm; omega⟩
    · have hfl : ∀ l : List Int, l.length = k → (l.map (Value.int .i64)).length = k := fun l h => by simpa using h
      have e1 : ((List.range len).map (fun i => (List.range k).map fun j => intAt w ⟨b, off + (i * k + j), none⟩)).flatMap (fun l => l.map (Value.int .i64)) = (List.range len).flatMap (fun i => (List.range k).map fun j => Value.int .i64 (intAt w ⟨b, off + (i * k + j), none⟩)) := by
        rw [List.flatMap_map]
        congr 1
        funext i
        simp
      rw [e1]
      refine ⟨by rw [flat_len _ k (fun _ => by simp)]; simp, ?_, hl, fun e => (by cases e), ?_⟩
      · intro u hu
        obtain ⟨i, _, hu⟩ := List.mem_flatMap.1 hu
        obtain ⟨j, _, rfl⟩ := List.mem_map.1 hu
        rfl
      · intro ad e
        cases e
        refine ⟨rfl, fun q u hu => ?_⟩
        have hql : q < len * k := by
          have := (List.getElem?_eq_some_iff.1 hu).1
          rwa [flat_len _ k (fun _ => by simp), List.length_range] at this
        have hk0 : 0 < k := by
          rcases Nat.eq_zero_or_pos k with h | h
          · subst h; omega
          · exact h
        have hq : q = q / k * k + q % k := by rw [Nat.mul_comm]; exact (Nat.div_add_mod q k).symm
        have hi : q / k < len := (Nat.div_lt_iff_lt_mul hk0).2 hql
        have hj := Nat.mod_lt q hk0
        rw [hq, flat_get _ k (fun _ => by simp) _ _ _ (q / k) (by simp [hi]) hj] at hu
        simp only [List.getElem?_map, List.getElem?_range hj, Option.map_some, Option.some.injEq] at hu
        subst hu
        have := (key _ hi _ hj).1
        rw [← hq] at this ⊢
        exact cellM_of_cell this
    · intro l hl
      obtain ⟨i, hi, rfl⟩ := List.mem_map.1 hl
      refine ⟨by simp, fun z hz => ?_⟩
      obtain ⟨j, hj, rfl⟩ := List.mem_map.1 hz
      exact (key i (List.mem_range.1 hi) j (List.mem_range.1 hj)).2
end
section
variable {H : Type} {enc : TypeId × Value → H} {w : World} {base : Nat} {held : Bool}
theorem open_piecesT {base' : Nat} {v : Value} {d : DataW H} {ps : List MemPlace} (hval : Value.okWide Tryd.prog w .any base' 22 v) (h : DataW.Trod enc Tryd.prog w base (fun _ => true) held 22 v d ps) :
    ∃ A m c vs, v = .slice A m c ∧ PsAt (memOf w) A m c vs ∧ (m : Int) ≤ 9223372036854775807 := by
  have hok := okWide_cell Tryd.underlying22 hval
  obtain ⟨a, len, cap, rfl⟩ := okWide_slice Tryd.underlying22 hval
  obtain ⟨fuel, hf⟩ := h
  exact open_pieces hok (by simpa [Value.cells] using hf)
end
theorem wf_i64 {z : Int} (h : (Lit.int .i64 z).wf = true) : -9223372036854775808 ≤ z ∧ z ≤ 9223372036854775807 := by
  simpa [Lit.wf, IntKind.min, IntKind.max, IntKind.signed, IntKind.bits] using h
end Go.Proofs.YtbogoehjoglneaaDoor
