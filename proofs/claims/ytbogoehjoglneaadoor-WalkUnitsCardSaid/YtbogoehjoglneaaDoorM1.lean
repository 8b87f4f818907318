/- The state of a walk: what is immutable (M), what the walk's own blocks hold (L), what lay below is as it was. Lemmas for the walk's steps. No Go function is named here. -/
import Derived.Test.YtbogoehjoglneaaDoorProg
import Derived.WalkKit
import Derived.WalkSpells
import Derived.WalkLawsBesides
import Derived.Lib.Hide
import Derived.Lib.ConvBytes
import Derived.Laws.BytesArg
import Derived.Deep.Draws
import Derived.KernelRfl
import Derived.OrdersHeld
import Derived.Shelf.Abstract
import Derived.Lib.DecodeN
import Derived.RangeFuncNested
import Derived.OrdersIn
set_option linter.unusedVariables false
set_option linter.unusedSimpArgs false
set_option linter.unnecessarySimpa false
set_option linter.unusedSectionVars false
namespace Go.Proofs.YtbogoehjoglneaaDoor
open Go.RowKit

/- Known memory that no call may turn. -/
abbrev Mem := Nat → Option Obj
def Imm (M : Mem) (w : World) : Prop := ∀ b o, M b = some o → w.heap[b]? = some o
def Mem.le (M M' : Mem) : Prop := ∀ b o, M b = some o → M' b = some o
def Mem.add (M : Mem) (b : Nat) (o : Obj) : Mem := fun k => if k = b then some o else M k
/- What M' knows more lies at or beyond n. -/
def Mem.fresh (M M' : Mem) (n : Nat) : Prop := ∀ b, M b = none → M' b ≠ none → n ≤ b

theorem Mem.le_refl (M : Mem) : M.le M := fun _ _ h => h
theorem Mem.le_trans {A B C : Mem} (h : A.le B) (k : B.le C) : A.le C := fun b o e => k b o (h b o e)
theorem Mem.fresh_refl (M : Mem) (n : Nat) : M.fresh M n := fun _ h k => absurd h k
theorem Mem.fresh_trans {A B C : Mem} {n m : Nat} (h : A.fresh B n) (k : B.fresh C m) (hm : n ≤ m) : A.fresh C n := fun b ha hc => by
  by_cases hb : B b = none
  · exact Nat.le_trans hm (k b hb hc)
  · exact h b ha hb

/- W' is W but for blocks of O, and new ones. -/
structure Moves (O : Nat → Prop) (W W' : World) : Prop where
  os : W'.os = W.os
  tape : W'.tape = W.tape
  output : W'.output = W.output
  size : W.heap.size ≤ W'.heap.size
  same : ∀ k, k < W.heap.size → ¬ O k → W'.heap[k]? = W.heap[k]?
theorem Moves.refl (O : Nat → Prop) (W : World) : Moves O W W := ⟨rfl, rfl, rfl, Nat.le_refl _, fun _ _ _ => rfl⟩
theorem Moves.trans {O : Nat → Prop} {A B C : World} (h : Moves O A B) (k : Moves O B C) : Moves O A C :=
  ⟨k.os.trans h.os, k.tape.trans h.tape, k.output.trans h.output, Nat.le_trans h.size k.size, fun i hi hn => (k.same i (Nat.lt_of_lt_of_le hi h.size) hn).trans (h.same i hi hn)⟩
theorem Moves.of_below {O : Nat → Prop} {A B : World} (h : Below A.heap.size A B) : Moves O A B := ⟨h.os, h.tape, h.output, h.size, fun k hk _ => h.block k hk⟩
theorem Moves.more {O O' : Nat → Prop} {A B : World} (h : Moves O A B) (ho : ∀ k, k < A.heap.size → O k → O' k) : Moves O' A B := ⟨h.os, h.tape, h.output, h.size, fun k hk hn => h.same k hk fun h' => hn (ho k hk h')⟩

/- The walk's state: from world w0 to world w; B: the blocks that are its own. -/
structure St (B : Nat → Prop) (w0 w : World) (M : Mem) (L : List (Nat × Obj)) : Prop where
  moved : Moves B w0 w
  imm : Imm M w
  loc : ∀ p ∈ L, w.heap[p.1]? = some p.2
  base : ∀ p ∈ L, B p.1 ∧ M p.1 = none
  nodup : (L.map Prod.fst).Nodup
  hB : ∀ k, w0.heap.size ≤ k → B k

theorem St.below {w0 w : World} {M : Mem} {L : List (Nat × Obj)} (h : St (fun k => w0.heap.size ≤ k) w0 w M L) : Below w0.heap.size w0 w :=
  ⟨h.moved.os, h.moved.tape, h.moved.output, h.moved.size, fun k hk => h.moved.same k hk (by simp; omega)⟩

theorem Imm.below {M : Mem} {w w' : World} (h : Imm M w) (hb : Below w.heap.size w w') : Imm M w' := fun b o e => by
  have h1 := h b o e
  rw [hb.block b (Array.getElem?_eq_some_iff.1 h1).1]; exact h1

theorem Imm.lt {M : Mem} {w : World} (h : Imm M w) {b : Nat} (e : M b ≠ none) : b < w.heap.size := by
  obtain ⟨o, ho⟩ := Option.ne_none_iff_exists'.1 e
  exact (Array.getElem?_eq_some_iff.1 (h b o ho)).1
theorem Imm.fresh {M : Mem} {w : World} (h : Imm M w) {b : Nat} (hb : w.heap.size ≤ b) : M b = none := by
  cases e : M b with
  | none => rfl
  | some o => have := h.lt (b := b) (by rw [e]; exact fun h => by cases h); omega

theorem St.start {w : World} {M : Mem} (h : Imm M w) : St (fun k => w.heap.size ≤ k) w w M [] :=
  ⟨Moves.refl _ _, h, fun _ h => (by cases h), fun _ h => (by cases h), List.nodup_nil, fun _ h => h⟩

/- A call. -/
theorem St.call {B : Nat → Prop} {w0 w w' : World} {M : Mem} {L : List (Nat × Obj)} (h : St B w0 w M L) (hb : Below w.heap.size w w') : St B w0 w' M L :=
  ⟨h.moved.trans (.of_below hb), h.imm.below hb, fun p hp => by rw [hb.block p.1 (Array.getElem?_eq_some_iff.1 (h.loc p hp)).1]; exact h.loc p hp, h.base, h.nodup, h.hB⟩

/- A call that hands back more immutable memory. -/
theorem St.callM {B : Nat → Prop} {w0 w w' : World} {M M' : Mem} {L : List (Nat × Obj)} (h : St B w0 w M L) (hb : Below w.heap.size w w') (hf : M.fresh M' w.heap.size) (hi : Imm M' w') : St B w0 w' M' L :=
  ⟨h.moved.trans (.of_below hb), hi, (h.call hb).loc, fun p hp => ⟨(h.base p hp).1, by
    rcases Classical.em (M' p.1 = none) with e | e
    · exact e
    · have h1 := hf p.1 (h.base p hp).2 e
      have h2 := (Array.getElem?_eq_some_iff.1 (h.loc p hp)).1
      omega⟩, h.nodup, h.hB⟩

theorem St.drew {B : Nat → Prop} {w0 w : World} {M : Mem} {L : List (Nat × Obj)} (h : St B w0 w M L) : St B w0 w.drew M L :=
  ⟨⟨h.moved.os, h.moved.tape, h.moved.output, h.moved.size, h.moved.same⟩, h.imm, h.loc, h.base, h.nodup, h.hB⟩

theorem St.alloc {B : Nat → Prop} {w0 w : World} {M : Mem} {L : List (Nat × Obj)} (h : St B w0 w M L) (o : Obj) : St B w0 (w.alloc o) M ((w.heap.size, o) :: L) where
  moved := h.moved.trans (.of_below ((Below.refl _ w).alloc (Nat.le_refl _) o))
  imm := fun b x e => by rw [Below.heap_alloc _ _ _ (Array.getElem?_eq_some_iff.1 (h.imm b x e)).1]; exact h.imm b x e
  loc := fun p hp => by
    rcases List.mem_cons.1 hp with rfl | hp
    · exact heap_alloc_new w o
    · rw [Below.heap_alloc _ _ _ (Array.getElem?_eq_some_iff.1 (h.loc p hp)).1]; exact h.loc p hp
  base := fun p hp => by
    rcases List.mem_cons.1 hp with rfl | hp
    · exact ⟨h.hB _ h.moved.size, h.imm.fresh (Nat.le_refl _)⟩
    · exact h.base p hp
  nodup := by
    refine List.nodup_cons.2 ⟨fun hm => ?_, h.nodup⟩
    obtain ⟨p, hp, e⟩ := List.mem_map.1 hm
    have := (Array.getElem?_eq_some_iff.1 (h.loc p hp)).1
    omega
  hB := h.hB

/- An own block becomes immutable. -/
theorem St.keep {B : Nat → Prop} {w0 w : World} {M : Mem} {L : List (Nat × Obj)} {b : Nat} {o : Obj} (h : St B w0 w M ((b, o) :: L)) : St B w0 w (M.add b o) L where
  moved := h.moved
  imm := fun k x e => by
    unfold Mem.add at e
    split at e
    · rename_i hk; subst hk; cases e; exact h.loc (k, o) (.head _)
    · exact h.imm k x e
  loc := fun p hp => h.loc p (.tail _ hp)
  base := fun p hp => ⟨(h.base p (.tail _ hp)).1, by
    unfold Mem.add
    rw [if_neg]
    · exact (h.base p (.tail _ hp)).2
    · intro e
      have := (List.nodup_cons.1 h.nodup).1
      exact this (List.mem_map.2 ⟨p, hp, e⟩)⟩
  nodup := (List.nodup_cons.1 h.nodup).2
  hB := h.hB

theorem Mem.le_add {M : Mem} {b : Nat} {o : Obj} (h : M b = none) : M.le (M.add b o) := fun k x e => by
  unfold Mem.add; split
  · rename_i hk; subst hk; rw [h] at e; cases e
  · exact e
theorem Mem.add_same (M : Mem) (b : Nat) (o : Obj) : M.add b o b = some o := by simp [Mem.add]
theorem Mem.fresh_add {M : Mem} {b : Nat} {o : Obj} {n : Nat} (h : n ≤ b) : M.fresh (M.add b o) n := fun k hk hn => by
  unfold Mem.add at hn; split at hn
  · rename_i e; subst e; exact h
  · exact absurd hk hn

/- An own block is forgotten. -/
theorem St.drop {B : Nat → Prop} {w0 w : World} {M : Mem} {L : List (Nat × Obj)} {p : Nat × Obj} (h : St B w0 w M (p :: L)) : St B w0 w M L :=
  ⟨h.moved, h.imm, fun q hq => h.loc q (.tail _ hq), fun q hq => h.base q (.tail _ hq), (List.nodup_cons.1 h.nodup).2, h.hB⟩

/- A place of a frame; all of them, written out. -/
def nthV : List Value → Nat → Value
  | [], _ => undef
  | x :: _, 0 => x
  | _ :: t, n + 1 => nthV t n
def litL (g : Nat → Value) : Nat → List Value → List Value
  | 0, acc => acc
  | n + 1, acc => litL g n (g n :: acc)
theorem litL_eq (g : Nat → Value) : ∀ n acc, litL g n acc = (List.range n).map g ++ acc
  | 0, acc => by simp [litL]
  | n + 1, acc => by rw [litL, litL_eq g n, List.range_succ]; simp
theorem nthV_eq : ∀ (l : List Value) (i : Nat), nthV l i = l[i]?.getD undef
  | [], i => by simp [nthV]
  | x :: t, 0 => by simp [nthV]
  | x :: t, n + 1 => by simp [nthV, nthV_eq t n]
theorem frame_open {n : Nat} {a : Act} {ds : List Deferred} (hd : a.defers = ds) (hn : a.tmps.toList.length = n) : ∃ g : Nat → Value, (∀ i, nthV a.tmps.toList i = g i) ∧ a = { tmps := (litL g n []).toArray, defers := ds } := by
  refine ⟨nthV a.tmps.toList, fun _ => rfl, ?_⟩
  obtain ⟨t, d⟩ := a
  simp only at hd hn
  subst hd
  have : t = (litL (nthV t.toList) n []).toArray := by
    apply Array.ext'
    rw [litL_eq, List.append_nil]
    apply List.ext_getElem?
    intro i
    rw [List.getElem?_map]
    rcases Nat.lt_or_ge i n with h | h
    · rw [List.getElem?_range h, Option.map_some, nthV_eq, List.getElem?_eq_getElem (by omega)]
      rfl
    · rw [List.getElem?_eq_none (by omega), List.getElem?_eq_none (by simpa using h)]
      rfl
  rw [← this]
/- What stands in a frame that is written out. -/
theorem eval_lit {l : List Value} {d : List Deferred} {i : Nat} {v : Value} (h : nthV l i = v) : Act.eval { tmps := l.toArray, defers := d } (.tmp i) = v := by
  rw [← h, nthV_eq]
  show (l.toArray).getD i undef = _
  simp
theorem cells_lit {l : List Value} {d : List Deferred} {i : Nat} {vs : Array Value} (h : (nthV l i).cells = vs) : (Act.eval { tmps := l.toArray, defers := d } (.tmp i)).cells = vs := by
  rw [eval_lit rfl]; exact h

end Go.Proofs.YtbogoehjoglneaaDoor

/- Steps of a walk over the state St: a new block, a load, a store; what a type's row says. -/
namespace Go.Proofs.YtbogoehjoglneaaDoor
open Go.RowKit

/- What a type's row says: is it a struct or an array; its zero value's cells. -/
class TI (P : Program) (T : TypeId) (agg : outParam Bool) (z : outParam (List Value)) : Prop where
  under : (P.underlying T).map (fun d => match d with | .struct _ | .array _ _ => true | _ => false) = some agg
  info : (P.info? T).map (fun i => (i.zero.map (fun v => v.cells.toList), i.size)) = some (some z, z.length)

section
variable {P : Program} {T : TypeId} {agg : Bool} {z : List Value} (w : World)

theorem TI.isAgg [h : TI P T agg z] : (Go.isAgg T).run P w = .ok agg w := by
  have h1 := h.under
  cases hu : P.underlying T with
  | none => rw [hu] at h1; cases h1
  | some d =>
    rw [hu] at h1
    simp only [Option.map_some, Option.some.injEq] at h1
    unfold Go.isAgg
    rw [Sem.run_bind, run_underlying hu w]
    subst h1
    cases d <;> rfl

theorem TI.sizeOf [h : TI P T agg z] : (Go.sizeOf T).run P w = .ok z.length w := by
  have h1 := h.info
  cases hu : P.info? T with
  | none => rw [hu] at h1; cases h1
  | some i =>
    rw [hu] at h1
    simp only [Option.map_some, Option.some.injEq, Prod.mk.injEq] at h1
    simp [Go.sizeOf, typeInfo, hu, h1.2]

theorem TI.zeroV [h : TI P T agg z] : ∃ v : Value, v.cells.toList = z ∧ (zeroValue T).run P w = .ok v w := by
  have h1 := h.info
  cases hu : P.info? T with
  | none => rw [hu] at h1; cases h1
  | some i =>
    rw [hu] at h1
    simp only [Option.map_some, Option.some.injEq, Prod.mk.injEq] at h1
    cases hz : i.zero with
    | none => rw [hz] at h1; simp at h1
    | some v =>
      rw [hz] at h1
      simp only [Option.map_some, Option.some.injEq] at h1
      exact ⟨v, h1.1, by simp [zeroValue, typeInfo, hu, hz]⟩
end

/- One block turned. -/
def putB (w : World) (b : Nat) (o : Obj) : World := { w with heap := w.heap.setIfInBounds b o }

theorem putB_same {w : World} {b : Nat} {o : Obj} (h : b < w.heap.size) : (putB w b o).heap[b]? = some o := by simp [putB, h]
theorem putB_other {w : World} {b k : Nat} {o : Obj} (h : k ≠ b) : (putB w b o).heap[k]? = w.heap[k]? := by
  simp only [putB, Array.getElem?_setIfInBounds]; rw [if_neg (Ne.symm h)]
theorem putB_size {w : World} {b : Nat} {o : Obj} : (putB w b o).heap.size = w.heap.size := by simp [putB]
theorem putB_putB {w : World} {b : Nat} {o o' : Obj} : putB (putB w b o) b o' = putB w b o' := by
  simp [putB]

theorem setCell_putB {w : World} {b i : Nat} {c : Array Value} {t : TypeId} {fr : Nat × Nat} (h : w.heap[b]? = some (.cells c t fr)) (v : Value) :
    w.setCell ⟨b, i, none⟩ v = putB w b (.cells (c.setIfInBounds i v) t fr) := by
  unfold World.setCell putB
  congr 1
  apply Array.ext_getElem?
  intro k
  simp only [Array.getElem?_modify, Array.getElem?_setIfInBounds]
  by_cases hk : b = k
  · subst hk
    rw [if_pos rfl, if_pos rfl, h, if_pos (Array.getElem?_eq_some_iff.1 h).1]
    simp
  · rw [if_neg hk, if_neg hk]

/- cl with vs laid from off on. -/
def ovw (cl : List Value) (off : Nat) (vs : List Value) : List Value := cl.take off ++ vs ++ cl.drop (off + vs.length)

theorem ovw_cons (cl : List Value) (off : Nat) (v : Value) (vs : List Value) (h : off < cl.length) : ovw (cl.set off v) (off + 1) vs = ovw cl off (v :: vs) := by
  unfold ovw
  have h1 : (cl.set off v).take (off + 1) = cl.take off ++ [v] := by
    rw [List.take_set, List.take_succ_eq_append_getElem (by omega), List.set_append_right _ _ (by simp; omega)]
    have : off - (cl.take off).length = 0 := by simp; omega
    rw [this]; rfl
  have h2 : (cl.set off v).drop (off + 1 + vs.length) = cl.drop (off + (v :: vs).length) := by
    rw [List.drop_set_of_lt (by omega)]
    simp only [List.length_cons]; congr 1; omega
  rw [h1, h2]; simp

theorem run_storeCells_put {P : Program} {b : Nat} {t : TypeId} : ∀ (vs : List Value) (off i : Nat) (cl : List Value) (w : World), (∀ v ∈ vs, v.oneCell' = true) → off + i + vs.length ≤ cl.length →
    w.heap[b]? = some (.cells cl.toArray t (0, 0)) → (storeCells ⟨b, off, none⟩ vs i).run P w = .ok () (putB w b (.cells (ovw cl (off + i) vs).toArray t (0, 0)))
  | [], off, i, cl, w, _, _, hb => by
    have : putB w b (.cells (ovw cl (off + i) []).toArray t (0, 0)) = w := by
      unfold putB ovw
      simp only [List.append_nil, List.length_nil, Nat.add_zero, List.take_append_drop]
      have : w.heap.setIfInBounds b (.cells cl.toArray t (0, 0)) = w.heap := by
        apply Array.ext_getElem?
        intro k
        rw [Array.getElem?_setIfInBounds]
        by_cases hk : b = k
        · subst hk; rw [if_pos rfl, hb, if_pos (Array.getElem?_eq_some_iff.1 hb).1]
        · rw [if_neg hk]
      rw [this]
    rw [this]; simp [storeCells]
  | v :: vs, off, i, cl, w, hv, hl, hb => by
    have hlen : off + i < cl.length := by simp at hl; omega
    have hc : w.cell? ⟨b, off + i, none⟩ = some (cl[off + i]'hlen) := by
      rw [cell_of_row _ _ _ _ _ _ hb]; simp
    have hf : w.frozen? ⟨b, off + i, none⟩ = false := frozen_of_row _ _ _ _ _ hb
    unfold storeCells
    rw [Sem.run_bind, Addr.add_lit, run_store P w ⟨b, off + i, none⟩ v .plain (hv v (.head _))]
    simp only [hc, hf, Result.andThen, Bool.false_eq_true, if_false]
    rw [setCell_putB hb]
    have ih := run_storeCells_put (P := P) (b := b) (t := t) vs off (i + 1) (cl.set (off + i) v) (putB w b (.cells (cl.toArray.setIfInBounds (off + i) v) t (0, 0))) (fun x hx => hv x (.tail _ hx)) (by simp at hl ⊢; omega)
      (by rw [putB_same (Array.getElem?_eq_some_iff.1 hb).1]; simp)
    rw [ih, putB_putB, ← Nat.add_assoc, ovw_cons _ _ _ _ hlen]

/- L' is L with block b's o turned to o'. -/
inductive Rep1 (b : Nat) (o o' : Obj) : List (Nat × Obj) → List (Nat × Obj) → Prop
  | head (L : List (Nat × Obj)) : Rep1 b o o' ((b, o) :: L) ((b, o') :: L)
  | tail (p : Nat × Obj) {L L' : List (Nat × Obj)} : Rep1 b o o' L L' → Rep1 b o o' (p :: L) (p :: L')

theorem Rep1.mem {b : Nat} {o o' : Obj} {L L' : List (Nat × Obj)} (h : Rep1 b o o' L L') : (b, o) ∈ L := by
  induction h with
  | head => exact .head _
  | tail _ _ ih => exact .tail _ ih
theorem Rep1.fst {b : Nat} {o o' : Obj} {L L' : List (Nat × Obj)} (h : Rep1 b o o' L L') : L'.map Prod.fst = L.map Prod.fst := by
  induction h with
  | head => rfl
  | tail _ _ ih => simp [ih]
theorem Rep1.mem' {b : Nat} {o o' : Obj} {L L' : List (Nat × Obj)} (h : Rep1 b o o' L L') (hn : (L.map Prod.fst).Nodup) : ∀ p ∈ L', p = (b, o') ∨ (p ∈ L ∧ p.1 ≠ b) := by
  induction h with
  | head L =>
    intro p hp
    rcases List.mem_cons.1 hp with hp | hp
    · exact .inl hp
    · exact .inr ⟨.tail _ hp, fun e => (List.nodup_cons.1 hn).1 (by rw [show (b, o).1 = p.1 from e.symm]; exact List.mem_map.2 ⟨p, hp, rfl⟩)⟩
  | tail q h ih =>
    intro p hp
    rcases List.mem_cons.1 hp with hp | hp
    · subst hp
      exact .inr ⟨.head _, fun e => (List.nodup_cons.1 hn).1 (by rw [e]; exact List.mem_map.2 ⟨_, h.mem, rfl⟩)⟩
    · rcases ih (List.nodup_cons.1 hn).2 p hp with h | h
      · exact .inl h
      · exact .inr ⟨.tail _ h.1, h.2⟩

theorem St.putB {B : Nat → Prop} {w0 w : World} {M : Mem} {L L' : List (Nat × Obj)} {b : Nat} {o o' : Obj} (h : St B w0 w M L) (hr : Rep1 b o o' L L') : St B w0 (putB w b o') M L' where
  moved := h.moved.trans ⟨rfl, rfl, rfl, by rw [putB_size]; exact Nat.le_refl _, fun k _ hk => putB_other (fun e => hk (e ▸ (h.base _ hr.mem).1))⟩
  imm := fun k x e => by
    rw [putB_other]
    · exact h.imm k x e
    · intro hk; rw [hk, (h.base _ hr.mem).2] at e; cases e
  loc := fun p hp => by
    rcases hr.mem' h.nodup p hp with rfl | ⟨hp, hne⟩
    · exact putB_same (Array.getElem?_eq_some_iff.1 (h.loc _ hr.mem)).1
    · rw [putB_other hne]; exact h.loc p hp
  base := fun p hp => by
    rcases hr.mem' h.nodup p hp with rfl | ⟨hp, _⟩
    · exact h.base (b, o) hr.mem
    · exact h.base p hp
  nodup := by rw [hr.fst]; exact h.nodup
  hB := h.hB

/- Where a block's content is known. -/
inductive Blk (M : Mem) (L : List (Nat × Obj)) (b : Nat) (o : Obj) : Prop
  | loc (h : (b, o) ∈ L) : Blk M L b o
  | imm (h : M b = some o) : Blk M L b o

theorem St.blk {B : Nat → Prop} {w0 w : World} {M : Mem} {L : List (Nat × Obj)} {b : Nat} {o : Obj} (h : St B w0 w M L) (hb : Blk M L b o) : w.heap[b]? = some o := by
  cases hb with
  | loc hb => exact h.loc _ hb
  | imm hb => exact h.imm _ _ hb

def ldv (agg : Bool) (n : Nat) (cl : List Value) (off : Nat) : Option Value :=
  if agg then (if off + n ≤ cl.length then some (.agg ((cl.drop off).take n).toArray) else none) else cl[off]?

theorem run_loadVar_blk {P : Program} {T : TypeId} {agg : Bool} {z : List Value} [TI P T agg z] {w : World} {b off : Nat} {cl : List Value} {t : TypeId} {fr : Nat × Nat} {v : Value}
    (hb : w.heap[b]? = some (.cells cl.toArray t fr)) (hv : ldv agg z.length cl off = some v) : (loadVar T ⟨b, off, none⟩).run P w = .ok v w := by
  unfold loadVar
  rw [Sem.run_bind, TI.isAgg w]
  unfold ldv at hv
  cases agg with
  | false =>
    simp only [Bool.false_eq_true, if_false] at hv
    simp only [Result.andThen, Bool.false_eq_true, if_false, run_load]
    rw [cell_of_row _ _ _ _ _ _ hb, List.getElem?_toArray, hv]
  | true =>
    simp only [if_true] at hv
    split at hv
    · rename_i hle
      have hl := run_loadCells_list (P := P) w ⟨b, off, none⟩ ((cl.drop off).take z.length) (fun j v hj => by
        rw [Addr.add_lit, cell_of_row _ _ _ _ _ _ hb, List.getElem?_toArray]
        rw [List.getElem?_take] at hj
        split at hj
        · rw [List.getElem?_drop] at hj; exact hj
        · cases hj)
      have hlen : ((cl.drop off).take z.length).length = z.length := by simp; omega
      rw [hlen] at hl
      simp only [Result.andThen, if_true, Sem.run_bind, TI.sizeOf w, hl, Sem.run_pure]
      rw [← Option.some.inj hv]
    · cases hv

section
variable {P : Program} {ops : Array Oper} {rest : List Oper} {a : Act} {Q : Exit → Act → World → Prop} {w w0 : World} {B : Nat → Prop} {M : Mem} {L : List (Nat × Obj)}

theorem wpList_ok {o : Oper} (hw : Region.wanted o (yielded ops a.tmps) = true) {v : Value} {w' : World} (h : (execOp a.eval o).run P w = .ok (.value v) w') (k : wpList P ops Q rest (a.put o.dst v) w') :
    wpList P ops Q (o :: rest) a w :=
  wpList_step fun K hK => by
    rw [if_pos hw]; unfold Oper.wp; rw [h]; exact hK _ _ k

theorem wpList_okU {o : Oper} (hw : Region.wanted o (yielded ops a.tmps) = true) {w' : World} (h : (execOp a.eval o).run P w = .ok .skip w') (k : wpList P ops Q rest (a.put o.dst undef) w') :
    wpList P ops Q (o :: rest) a w :=
  wpList_step fun K hK => by
    rw [if_pos hw]; unfold Oper.wp; rw [h]; exact hK _ _ k

theorem st_alloc {d : Option Tmp} {T ty : TypeId} {ps : String} {af : Array Edge} {g : Option (Nat × Bool)} {agg : Bool} {z : List Value} [TI P T agg z]
    (hw : Region.wanted { dst := d, op := .alloc T, type := ty, pos := ps, after := af, guard := g } (yielded ops a.tmps) = true) (HS : St B w0 w M L)
    (k : ∀ (b : Nat) (w' : World), St B w0 w' M ((b, .cells z.toArray T (0, 0)) :: L) → wpList P ops Q rest (a.put d (.pointer (some ⟨b, 0, none⟩))) w') :
    wpList P ops Q ({ dst := d, op := .alloc T, type := ty, pos := ps, after := af, guard := g } :: rest) a w := by
  obtain ⟨v, hv, hz⟩ := TI.zeroV (P := P) (T := T) (agg := agg) (z := z) w
  refine wpList_ok (v := .pointer (some ⟨w.heap.size, 0, none⟩)) (w' := w.alloc (.cells z.toArray T (0, 0))) hw ?_ (k _ _ (HS.alloc _))
  simp only [execOp, Instr.alloc, Sem.run_bind, hz, Result.andThen, newVar, newRow, run_newObj, Sem.run_pure]
  rw [← hv]; rfl

theorem st_box {d : Option Tmp} {T ty : TypeId} {x : Operand} {ps : String} {af : Array Edge} {g : Option (Nat × Bool)} {cl : List Value}
    (hw : Region.wanted { dst := d, op := .box T x, type := ty, pos := ps, after := af, guard := g } (yielded ops a.tmps) = true) (HS : St B w0 w M L) (hx : (a.eval x).cells = cl.toArray)
    (k : ∀ (b : Nat) (w' : World), St B w0 w' M ((b, .cells cl.toArray T (0, 0)) :: L) → wpList P ops Q rest (a.put d (.pointer (some ⟨b, 0, none⟩))) w') :
    wpList P ops Q ({ dst := d, op := .box T x, type := ty, pos := ps, after := af, guard := g } :: rest) a w := by
  refine wpList_ok (v := .pointer (some ⟨w.heap.size, 0, none⟩)) (w' := w.alloc (.cells cl.toArray T (0, 0))) hw ?_ (k _ _ (HS.alloc _))
  simp only [execOp, Instr.box, Sem.run_bind, Result.andThen, newVar, newRow, run_newObj, Sem.run_pure, hx]
  rfl

theorem st_load {d : Option Tmp} {T ty : TypeId} {x : Operand} {ps : String} {af : Array Edge} {g : Option (Nat × Bool)} {agg : Bool} {z : List Value} [TI P T agg z] {b off : Nat} {cl : List Value} {t : TypeId} {fr : Nat × Nat} {v : Value}
    (hw : Region.wanted { dst := d, op := .load T x, type := ty, pos := ps, after := af, guard := g } (yielded ops a.tmps) = true) (HS : St B w0 w M L) (hx : a.eval x = .pointer (some ⟨b, off, none⟩))
    (hb : Blk M L b (.cells cl.toArray t fr)) (hv : ldv agg z.length cl off = some v)
    (k : wpList P ops Q rest (a.put d v) w) :
    wpList P ops Q ({ dst := d, op := .load T x, type := ty, pos := ps, after := af, guard := g } :: rest) a w := by
  refine wpList_ok (v := v) (w' := w) hw ?_ k
  simp only [execOp, hx, Instr.loadAt, Instr.sureAddr, Sem.run_bind, Sem.run_pure, Result.andThen, run_loadVar_blk (P := P) (T := T) (HS.blk hb) hv]

theorem run_storeVar_blk {T : TypeId} {agg : Bool} {z : List Value} [TI P T agg z] {b off : Nat} {cl : List Value} {t : TypeId} {v : Value} {vs : List Value}
    (hb : w.heap[b]? = some (.cells cl.toArray t (0, 0))) (hv : v.cells = vs.toArray) (hl : vs.length = z.length) (ho : vs.all Value.oneCell' = true) (hoff : off + vs.length ≤ cl.length) :
    (storeVar T ⟨b, off, none⟩ v).run P w = .ok () (Go.Proofs.YtbogoehjoglneaaDoor.putB w b (.cells (ovw cl off vs).toArray t (0, 0))) := by
  unfold storeVar
  rw [Sem.run_bind, TI.sizeOf w]
  simp only [Result.andThen]
  rw [if_neg (by rw [hv]; simp [hl])]
  rw [hv]
  exact run_storeCells_put vs off 0 cl w (fun v hv => List.all_eq_true.1 ho v hv) hoff hb

theorem st_store {d : Option Tmp} {T ty : TypeId} {x y : Operand} {ps : String} {af : Array Edge} {g : Option (Nat × Bool)} {agg : Bool} {z : List Value} [TI P T agg z] {b off : Nat} {cl cl' : List Value} {t : TypeId} {vs : List Value} {L' : List (Nat × Obj)}
    (hw : Region.wanted { dst := d, op := .store T x y, type := ty, pos := ps, after := af, guard := g } (yielded ops a.tmps) = true) (HS : St B w0 w M L) (hx : a.eval x = .pointer (some ⟨b, off, none⟩)) (hy : (a.eval y).cells = vs.toArray)
    (hr : Rep1 b (.cells cl.toArray t (0, 0)) (.cells cl'.toArray t (0, 0)) L L') (hl : Nat.beq vs.length z.length = true) (ho : vs.all Value.oneCell' = true) (hoff : off + vs.length ≤ cl.length) (hc : ovw cl off vs = cl')
    (k : ∀ (w' : World), St B w0 w' M L' → wpList P ops Q rest (a.put d undef) w') :
    wpList P ops Q ({ dst := d, op := .store T x y, type := ty, pos := ps, after := af, guard := g } :: rest) a w := by
  refine wpList_okU (w' := Go.Proofs.YtbogoehjoglneaaDoor.putB w b (.cells cl'.toArray t (0, 0))) hw ?_ (k _ (HS.putB hr))
  simp only [execOp, hx, Instr.storeAt, Instr.sureAddr, Sem.run_bind, Sem.run_pure, Result.andThen]
  rw [run_storeVar_blk (P := P) (T := T) (HS.loc _ hr.mem) hy (Nat.eq_of_beq_eq_true hl) ho hoff, hc]

/- The same steps with their side goals closed by themselves; what stands first only looks at the step's shape. -/
theorem q_alloc {d : Option Tmp} {T ty : TypeId} {ps : String} {af : Array Edge} {g : Option (Nat × Bool)} (k : wpList P ops Q ({ dst := d, op := .alloc T, type := ty, pos := ps, after := af, guard := g } :: rest) a w) : wpList P ops Q ({ dst := d, op := .alloc T, type := ty, pos := ps, after := af, guard := g } :: rest) a w := k
theorem q_box {d : Option Tmp} {T ty : TypeId} {x : Operand} {ps : String} {af : Array Edge} {g : Option (Nat × Bool)} (k : wpList P ops Q ({ dst := d, op := .box T x, type := ty, pos := ps, after := af, guard := g } :: rest) a w) : wpList P ops Q ({ dst := d, op := .box T x, type := ty, pos := ps, after := af, guard := g } :: rest) a w := k
theorem q_load {d : Option Tmp} {T ty : TypeId} {x : Operand} {ps : String} {af : Array Edge} {g : Option (Nat × Bool)} (k : wpList P ops Q ({ dst := d, op := .load T x, type := ty, pos := ps, after := af, guard := g } :: rest) a w) : wpList P ops Q ({ dst := d, op := .load T x, type := ty, pos := ps, after := af, guard := g } :: rest) a w := k
theorem q_store {d : Option Tmp} {T ty : TypeId} {x y : Operand} {ps : String} {af : Array Edge} {g : Option (Nat × Bool)} (k : wpList P ops Q ({ dst := d, op := .store T x y, type := ty, pos := ps, after := af, guard := g } :: rest) a w) : wpList P ops Q ({ dst := d, op := .store T x y, type := ty, pos := ps, after := af, guard := g } :: rest) a w := k
theorem a_alloc {d : Option Tmp} {T ty : TypeId} {ps : String} {af : Array Edge} {g : Option (Nat × Bool)} {agg : Bool} {z : List Value} [TI P T agg z] (HS : St B w0 w M L)
    (k : ∀ (b : Nat) (w' : World), St B w0 w' M ((b, .cells z.toArray T (0, 0)) :: L) → wpList P ops Q rest (a.put d (.pointer (some ⟨b, 0, none⟩))) w')
    (hw : Region.wanted { dst := d, op := .alloc T, type := ty, pos := ps, after := af, guard := g } (yielded ops a.tmps) = true := by first | rfl | fail) :
    wpList P ops Q ({ dst := d, op := .alloc T, type := ty, pos := ps, after := af, guard := g } :: rest) a w := st_alloc hw HS k
theorem a_box {d : Option Tmp} {T ty : TypeId} {x : Operand} {ps : String} {af : Array Edge} {g : Option (Nat × Bool)} {cl : List Value} (HS : St B w0 w M L)
    (k : ∀ (b : Nat) (w' : World), St B w0 w' M ((b, .cells cl.toArray T (0, 0)) :: L) → wpList P ops Q rest (a.put d (.pointer (some ⟨b, 0, none⟩))) w')
    (hw : Region.wanted { dst := d, op := .box T x, type := ty, pos := ps, after := af, guard := g } (yielded ops a.tmps) = true := by first | rfl | fail) (hx : (a.eval x).cells = cl.toArray := by first | exact cells_lit (by dsimp only [nthV]; exact rfl) | rfl | fail) :
    wpList P ops Q ({ dst := d, op := .box T x, type := ty, pos := ps, after := af, guard := g } :: rest) a w := st_box hw HS hx k
theorem a_box2 {d : Option Tmp} {T ty : TypeId} {x : Operand} {ps : String} {af : Array Edge} {g : Option (Nat × Bool)} {cl : List Value} (HS : St B w0 w M L)
    (k : ∀ (b : Nat) (w' : World), St B w0 w' M ((b, .cells cl.toArray T (0, 0)) :: L) → wpList P ops Q rest (a.put d (.pointer (some ⟨b, 0, none⟩))) w')
    (hw : Region.wanted { dst := d, op := .box T x, type := ty, pos := ps, after := af, guard := g } (yielded ops a.tmps) = true := by first | rfl | fail) (hx : (a.eval x).cells = cl.toArray := by first | exact cells_lit (by dsimp only [nthV]; exact rfl) | (go_simp; exact rfl) | rfl | fail) :
    wpList P ops Q ({ dst := d, op := .box T x, type := ty, pos := ps, after := af, guard := g } :: rest) a w := st_box hw HS hx k
theorem a_load {d : Option Tmp} {T ty : TypeId} {x : Operand} {ps : String} {af : Array Edge} {g : Option (Nat × Bool)} {agg : Bool} {z : List Value} [TI P T agg z] {b off : Nat} {cl : List Value} {t : TypeId} {fr : Nat × Nat} {v : Value} (HS : St B w0 w M L)
    (k : wpList P ops Q rest (a.put d v) w)
    (hw : Region.wanted { dst := d, op := .load T x, type := ty, pos := ps, after := af, guard := g } (yielded ops a.tmps) = true := by first | rfl | (go_simp; done) | fail) (hx : a.eval x = .pointer (some ⟨b, off, none⟩) := by first | exact eval_lit rfl | rfl | fail)
    (hb : Blk M L b (.cells cl.toArray t fr) := by first | (first | (apply Blk.loc; (repeat (first | (with_reducible exact List.mem_cons_self) | apply List.mem_cons_of_mem)); done) | (apply Blk.imm; with_reducible assumption)) | fail) (hv : ldv agg z.length cl off = some v := by first | (simp only [ldv, List.length_cons, List.length_nil, List.drop_succ_cons, List.drop_zero, List.take_succ_cons, List.take_zero, List.getElem?_cons_succ, List.getElem?_cons_zero, Nat.reduceAdd, Nat.reduceMul, Nat.reduceLeDiff, Int.toNat_natCast, Int.toNat_zero, Int.toNat_one, Int.reduceToNat, Bool.false_eq_true, if_true, if_false, Nat.zero_add, Nat.zero_mul, Nat.one_mul]; exact rfl) | fail) :
    wpList P ops Q ({ dst := d, op := .load T x, type := ty, pos := ps, after := af, guard := g } :: rest) a w := st_load hw HS hx hb hv k
theorem a_store {d : Option Tmp} {T ty : TypeId} {x y : Operand} {ps : String} {af : Array Edge} {g : Option (Nat × Bool)} {agg : Bool} {z : List Value} [TI P T agg z] {b off : Nat} {cl cl' : List Value} {t : TypeId} {vs : List Value} {L' : List (Nat × Obj)} (HS : St B w0 w M L)
    (k : ∀ (w' : World), St B w0 w' M L' → wpList P ops Q rest (a.put d undef) w')
    (hw : Region.wanted { dst := d, op := .store T x y, type := ty, pos := ps, after := af, guard := g } (yielded ops a.tmps) = true := by first | rfl | fail) (hx : a.eval x = .pointer (some ⟨b, off, none⟩) := by first | exact eval_lit rfl | rfl | fail) (hy : (a.eval y).cells = vs.toArray := by first | exact cells_lit (by dsimp only [nthV]; exact rfl) | rfl | fail)
    (hr : Rep1 b (.cells cl.toArray t (0, 0)) (.cells cl'.toArray t (0, 0)) L L' := by first | ((repeat (first | exact Rep1.head _ | apply Rep1.tail)); done) | fail) (hl : Nat.beq vs.length z.length = true := by first | rfl | fail) (ho : vs.all Value.oneCell' = true := by first | rfl | fail)
    (hoff : off + vs.length ≤ cl.length := by first | exact Nat.le_of_ble_eq_true rfl | fail) (hc : ovw cl off vs = cl' := by first | (simp only [ovw, List.length_cons, List.length_nil, List.drop_succ_cons, List.drop_zero, List.take_succ_cons, List.take_zero, List.drop_nil, List.append_nil, List.nil_append, List.cons_append, Nat.reduceAdd, Nat.zero_add]; exact rfl) | fail) :
    wpList P ops Q ({ dst := d, op := .store T x y, type := ty, pos := ps, after := af, guard := g } :: rest) a w := st_store hw HS hx hy hr hl ho hoff hc k
theorem a_store2 {d : Option Tmp} {T ty : TypeId} {x y : Operand} {ps : String} {af : Array Edge} {g : Option (Nat × Bool)} {agg : Bool} {z : List Value} [TI P T agg z] {b off : Nat} {cl cl' : List Value} {t : TypeId} {vs : List Value} {L' : List (Nat × Obj)} (HS : St B w0 w M L)
    (k : ∀ (w' : World), St B w0 w' M L' → wpList P ops Q rest (a.put d undef) w')
    (hw : Region.wanted { dst := d, op := .store T x y, type := ty, pos := ps, after := af, guard := g } (yielded ops a.tmps) = true := by first | rfl | fail) (hx : a.eval x = .pointer (some ⟨b, off, none⟩) := by first | exact eval_lit rfl | rfl | fail) (hy : (a.eval y).cells = vs.toArray := by first | exact cells_lit (by dsimp only [nthV]; exact rfl) | (go_simp; exact rfl) | rfl | fail)
    (hr : Rep1 b (.cells cl.toArray t (0, 0)) (.cells cl'.toArray t (0, 0)) L L' := by first | ((repeat (first | exact Rep1.head _ | apply Rep1.tail)); done) | fail) (hl : Nat.beq vs.length z.length = true := by first | rfl | fail) (ho : vs.all Value.oneCell' = true := by first | rfl | fail)
    (hoff : off + vs.length ≤ cl.length := by first | exact Nat.le_of_ble_eq_true rfl | fail) (hc : ovw cl off vs = cl' := by first | (simp only [ovw, List.length_cons, List.length_nil, List.drop_succ_cons, List.drop_zero, List.take_succ_cons, List.take_zero, List.drop_nil, List.append_nil, List.nil_append, List.cons_append, Nat.reduceAdd, Nat.zero_add]; exact rfl) | fail) :
    wpList P ops Q ({ dst := d, op := .store T x y, type := ty, pos := ps, after := af, guard := g } :: rest) a w := st_store hw HS hx hy hr hl ho hoff hc k
end

/- A result that lies in a cell. -/
theorem ret_cell {P : Program} {w w0 : World} {B : Nat → Prop} {M : Mem} {L : List (Nat × Obj)} {fn : Func} {p : Tmp} {T : TypeId} {z : List Value} [TI P T true z] (h : fn.results = #[.cell p T]) {tmps : Array Value} {b : Nat} {cl : List Value} {t : TypeId} {fr : Nat × Nat}
    (HS : St B w0 w M L) (hp : tmps.getD p undef = .pointer (some ⟨b, 0, none⟩)) (hb : Blk M L b (.cells cl.toArray t fr)) (hl' : Nat.beq cl.length z.length = true) : (results fn tmps).run P w = .ok (.agg cl.toArray) w := by
  have hl := Nat.eq_of_beq_eq_true hl'
  have hv : ldv true z.length cl 0 = some (.agg cl.toArray) := by unfold ldv; simp [hl]; rw [← hl]; exact List.take_length
  have hp' : tmps[p]?.getD undef = .pointer (some ⟨b, 0, none⟩) := by simpa using hp
  simp [results, h, hp', asAddr, run_loadVar_blk (P := P) (T := T) (HS.blk hb) hv]
theorem post_cell {P : Program} {w w0 : World} {B : Nat → Prop} {M : Mem} {L : List (Nat × Obj)} {fn : Func} {R : Ending → World → Prop} {p : Tmp} {T : TypeId} {z : List Value} [TI P T true z] (h : fn.results = #[.cell p T]) {a : Act} {b : Nat} {cl : List Value} {t : TypeId} {fr : Nat × Nat}
    (HS : St B w0 w M L) (hp : a.tmps.getD p undef = .pointer (some ⟨b, 0, none⟩)) (hd : a.defers = []) (hb : Blk M L b (.cells cl.toArray t fr)) (hl : Nat.beq cl.length z.length = true) (hR : R (.returned (.agg cl.toArray)) w) : bodyPost P fn R .ret a w :=
  bodyPost_ret (ret_cell h HS hp hb hl) hd hR

theorem run_cell {P : Program} {w w0 : World} {B : Nat → Prop} {M : Mem} {L : List (Nat × Obj)} {T : TypeId} {z : List Value} [TI P T true z] {b : Nat} {cl : List Value} {t : TypeId} {fr : Nat × Nat}
    (HS : St B w0 w M L) (hb : Blk M L b (.cells cl.toArray t fr)) (hl' : Nat.beq cl.length z.length = true) : (loadVar T ⟨b, 0, none⟩).run P w = .ok (.agg cl.toArray) w := by
  have hl := Nat.eq_of_beq_eq_true hl'
  have hv : ldv true z.length cl 0 = some (.agg cl.toArray) := by unfold ldv; simp [hl]; rw [← hl]; exact List.take_length
  exact run_loadVar_blk (P := P) (T := T) (HS.blk hb) hv

theorem post_cell_tmp {P : Program} {w w0 : World} {B : Nat → Prop} {M : Mem} {L : List (Nat × Obj)} {fn : Func} {R : Ending → World → Prop} {p u : Tmp} {T : TypeId} {z : List Value} [TI P T true z] (h : fn.results = #[.cell p T, .tmp u]) {a : Act} {b : Nat} {cl : List Value} {t : TypeId} {fr : Nat × Nat}
    (HS : St B w0 w M L) (hp : a.tmps.getD p undef = .pointer (some ⟨b, 0, none⟩)) (hd : a.defers = []) (hb : Blk M L b (.cells cl.toArray t fr)) (hl : Nat.beq cl.length z.length = true) (hR : R (.returned (.tuple #[.agg cl.toArray, a.tmps.getD u undef])) w) : bodyPost P fn R .ret a w := by
  refine bodyPost_ret (v := .tuple #[.agg cl.toArray, a.tmps.getD u undef]) ?_ hd hR
  have hp' : a.tmps[p]?.getD undef = .pointer (some ⟨b, 0, none⟩) := by simpa using hp
  simp [results, h, hp', asAddr, run_cell (P := P) (T := T) HS hb hl]

theorem post_tmp_cell_tmp {P : Program} {w w0 : World} {B : Nat → Prop} {M : Mem} {L : List (Nat × Obj)} {fn : Func} {R : Ending → World → Prop} {q p u : Tmp} {T : TypeId} {z : List Value} [TI P T true z] (h : fn.results = #[.tmp q, .cell p T, .tmp u]) {a : Act} {b : Nat} {cl : List Value} {t : TypeId} {fr : Nat × Nat}
    (HS : St B w0 w M L) (hp : a.tmps.getD p undef = .pointer (some ⟨b, 0, none⟩)) (hd : a.defers = []) (hb : Blk M L b (.cells cl.toArray t fr)) (hl : Nat.beq cl.length z.length = true) (hR : R (.returned (.tuple #[a.tmps.getD q undef, .agg cl.toArray, a.tmps.getD u undef])) w) : bodyPost P fn R .ret a w := by
  refine bodyPost_ret (v := .tuple #[a.tmps.getD q undef, .agg cl.toArray, a.tmps.getD u undef]) ?_ hd hR
  have hp' : a.tmps[p]?.getD undef = .pointer (some ⟨b, 0, none⟩) := by simpa using hp
  simp [results, h, hp', asAddr, run_cell (P := P) (T := T) HS hb hl]

theorem post_cell_cell_tmp {P : Program} {w w0 : World} {B : Nat → Prop} {M : Mem} {L : List (Nat × Obj)} {fn : Func} {R : Ending → World → Prop} {p p2 u : Tmp} {T T2 : TypeId} {z z2 : List Value} [TI P T true z] [TI P T2 true z2] (h : fn.results = #[.cell p T, .cell p2 T2, .tmp u]) {a : Act} {b b2 : Nat} {cl cl2 : List Value} {t t2 : TypeId} {fr fr2 : Nat × Nat}
    (HS : St B w0 w M L) (hp : a.tmps.getD p undef = .pointer (some ⟨b, 0, none⟩)) (hp2 : a.tmps.getD p2 undef = .pointer (some ⟨b2, 0, none⟩)) (hd : a.defers = []) (hb : Blk M L b (.cells cl.toArray t fr)) (hb2 : Blk M L b2 (.cells cl2.toArray t2 fr2)) (hl : Nat.beq cl.length z.length = true) (hl2 : Nat.beq cl2.length z2.length = true)
    (hR : R (.returned (.tuple #[.agg cl.toArray, .agg cl2.toArray, a.tmps.getD u undef])) w) : bodyPost P fn R .ret a w := by
  refine bodyPost_ret (v := .tuple #[.agg cl.toArray, .agg cl2.toArray, a.tmps.getD u undef]) ?_ hd hR
  have hp' : a.tmps[p]?.getD undef = .pointer (some ⟨b, 0, none⟩) := by simpa using hp
  have hp2' : a.tmps[p2]?.getD undef = .pointer (some ⟨b2, 0, none⟩) := by simpa using hp2
  simp [results, h, hp', hp2', asAddr, run_cell (P := P) (T := T) HS hb hl, run_cell (P := P) (T := T2) HS hb2 hl2]
end Go.Proofs.YtbogoehjoglneaaDoor

/- What the rows of this translation's types say: facts of the kernel. -/
namespace Go.Proofs.YtbogoehjoglneaaDoor
open Go.RowKit
set_option maxRecDepth 100000
instance tyI3 : TI Tryd.prog 3 false [.int .i64 0] := ⟨by kernel_rfl, by kernel_rfl⟩
instance tyI4 : TI Tryd.prog 4 false [.bool false] := ⟨by kernel_rfl, by kernel_rfl⟩
instance tyI5 : TI Tryd.prog 5 false [.int .u8 0] := ⟨by kernel_rfl, by kernel_rfl⟩
instance tyI9 : TI Tryd.prog 9 false [.string ByteArray.empty] := ⟨by kernel_rfl, by kernel_rfl⟩
instance tyI21 : TI Tryd.prog 21 false [.int .i32 0] := ⟨by kernel_rfl, by kernel_rfl⟩
instance tyI22 : TI Tryd.prog 22 false [.slice none 0 0] := ⟨by kernel_rfl, by kernel_rfl⟩
instance tyI24 : TI Tryd.prog 24 true [.slice none 0 0, .bool false] := ⟨by kernel_rfl, by kernel_rfl⟩
instance tyI27 : TI Tryd.prog 27 false [.pointer none] := ⟨by kernel_rfl, by kernel_rfl⟩
instance tyI28 : TI Tryd.prog 28 false [.slice none 0 0] := ⟨by kernel_rfl, by kernel_rfl⟩
instance tyI32 : TI Tryd.prog 32 false [.int .i64 0] := ⟨by kernel_rfl, by kernel_rfl⟩
instance tyI37 : TI Tryd.prog 37 false [.slice none 0 0] := ⟨by kernel_rfl, by kernel_rfl⟩
instance tyI39 : TI Tryd.prog 39 false [.int .i64 0] := ⟨by kernel_rfl, by kernel_rfl⟩
instance tyI41 : TI Tryd.prog 41 true [.int .i64 0, .int .i64 0, .int .i64 0] := ⟨by kernel_rfl, by kernel_rfl⟩
instance tyI43 : TI Tryd.prog 43 true [.int .i32 0, .int .i64 0, .bool false] := ⟨by kernel_rfl, by kernel_rfl⟩
instance tyI47 : TI Tryd.prog 47 true [.int .i64 0, .int .i32 0, .int .i64 0, .bool false] := ⟨by kernel_rfl, by kernel_rfl⟩
instance tyI57 : TI Tryd.prog 57 false [.slice none 0 0] := ⟨by kernel_rfl, by kernel_rfl⟩
instance tyI73 : TI Tryd.prog 73 true [.int .i64 0, .int .i64 0, .int .i64 0, .int .i64 0, .int .i64 0, .int .i64 0, .int .i64 0] := ⟨by kernel_rfl, by kernel_rfl⟩
instance tyI77 : TI Tryd.prog 77 false [.int .i64 0] := ⟨by kernel_rfl, by kernel_rfl⟩
instance tyI83 : TI Tryd.prog 83 false [.int .u16 0] := ⟨by kernel_rfl, by kernel_rfl⟩
instance tyI85 : TI Tryd.prog 85 true [.int .i64 0, .int .i64 0, .int .i64 0, .int .i64 0] := ⟨by kernel_rfl, by kernel_rfl⟩
instance tyI87 : TI Tryd.prog 87 true [.int .i64 0, .int .i64 0, .int .i64 0, .int .i64 0, .string ByteArray.empty, .string ByteArray.empty] := ⟨by kernel_rfl, by kernel_rfl⟩
instance tyI90 : TI Tryd.prog 90 true [.int .i64 0, .int .i64 0] := ⟨by kernel_rfl, by kernel_rfl⟩
instance tyI100 : TI Tryd.prog 100 false [.slice none 0 0] := ⟨by kernel_rfl, by kernel_rfl⟩
instance tyI134 : TI Tryd.prog 134 true [.int .i64 0, .int .i64 0, .int .i64 0, .int .i64 0] := ⟨by kernel_rfl, by kernel_rfl⟩
instance tyI144 : TI Tryd.prog 144 false [.nilFunc] := ⟨by kernel_rfl, by kernel_rfl⟩
instance tyI148 : TI Tryd.prog 148 false [.nilIface] := ⟨by kernel_rfl, by kernel_rfl⟩
instance tyI159 : TI Tryd.prog 159 true [.int .i64 0, .int .i64 0, .int .i64 0, .int .i64 0] := ⟨by kernel_rfl, by kernel_rfl⟩
instance tyI167 : TI Tryd.prog 167 true [.int .i64 0, .int .i64 0, .int .i64 0, .int .i64 0] := ⟨by kernel_rfl, by kernel_rfl⟩
instance tyI180 : TI Tryd.prog 180 false [.pointer none] := ⟨by kernel_rfl, by kernel_rfl⟩
instance tyI182 : TI Tryd.prog 182 true [.pointer none] := ⟨by kernel_rfl, by kernel_rfl⟩
instance tyI210 : TI Tryd.prog 210 false [.nilFunc] := ⟨by kernel_rfl, by kernel_rfl⟩
instance tyI226 : TI Tryd.prog 226 false [.int .i64 0] := ⟨by kernel_rfl, by kernel_rfl⟩
instance tyI231 : TI Tryd.prog 231 true [.int .i64 0, .int .i64 0, .int .i64 0] := ⟨by kernel_rfl, by kernel_rfl⟩
instance tyI232 : TI Tryd.prog 232 true [.int .i64 0, .int .i64 0, .int .i64 0, .int .i64 0, .int .i64 0, .int .i64 0, .int .i64 0, .int .i64 0, .int .i64 0, .int .i64 0, .int .i64 0, .int .i64 0, .int .i64 0, .int .i64 0, .int .i64 0, .int .i64 0, .int .i64 0, .int .i64 0, .int .i64 0, .int .i64 0, .int .i64 0] := ⟨by kernel_rfl, by kernel_rfl⟩
instance tyI92 : TI Tryd.prog 92 true [.int .i64 0, .int .i64 0, .int .i64 0, .int .i64 0, .int .i64 0, .int .i64 0] := ⟨by kernel_rfl, by kernel_rfl⟩
instance tyI120 : TI Tryd.prog 120 false [.slice none 0 0] := ⟨by kernel_rfl, by kernel_rfl⟩
instance tyI124 : TI Tryd.prog 124 false [.slice none 0 0] := ⟨by kernel_rfl, by kernel_rfl⟩
instance tyI150 : TI Tryd.prog 150 true [.nilIface] := ⟨by kernel_rfl, by kernel_rfl⟩
instance tyI186 : TI Tryd.prog 186 true [.nilIface, .nilIface, .int .i64 0, .int .i64 0, .int .i64 0, .int .i64 0, .int .i64 0, .int .i64 0, .string ByteArray.empty, .string ByteArray.empty] := ⟨by kernel_rfl, by kernel_rfl⟩
instance tyI205 : TI Tryd.prog 205 true [.string ByteArray.empty, .int .i64 0, .int .i64 0, .int .i64 0, .int .i64 0, .string ByteArray.empty, .string ByteArray.empty] := ⟨by kernel_rfl, by kernel_rfl⟩
instance tyI118 : TI Tryd.prog 118 true [.int .i64 0, .pointer none] := ⟨by kernel_rfl, by kernel_rfl⟩
instance tyI116 : TI Tryd.prog 116 true [.int .i64 0] := ⟨by kernel_rfl, by kernel_rfl⟩
instance tyI31 : TI Tryd.prog 31 false [.pointer none] := ⟨by kernel_rfl, by kernel_rfl⟩
instance tyI175 : TI Tryd.prog 175 false [.pointer none] := ⟨by kernel_rfl, by kernel_rfl⟩
instance tyI184 : TI Tryd.prog 184 false [.pointer none] := ⟨by kernel_rfl, by kernel_rfl⟩
instance tyI163 : TI Tryd.prog 163 false [.slice none 0 0] := ⟨by kernel_rfl, by kernel_rfl⟩
instance tyI169 : TI Tryd.prog 169 false [.slice none 0 0] := ⟨by kernel_rfl, by kernel_rfl⟩
end Go.Proofs.YtbogoehjoglneaaDoor

/- Bytes and strings in a walk: slices of bytes over immutable memory; conversions; slicing. -/
namespace Go.Proofs.YtbogoehjoglneaaDoor
open Go.RowKit

/- A list of bytes as a string. -/
def sOf (l : List UInt8) : ByteArray := ⟨l.toArray⟩
def ub (b : UInt8) : Value := .int .u8 (b.toNat : Int)
theorem sOf_size (l : List UInt8) : (sOf l).size = l.length := by simp [sOf, ByteArray.size]
theorem sOf_data (l : List UInt8) : (sOf l).data.toList = l := by simp [sOf]
theorem sOf_self (s : ByteArray) : sOf s.data.toList = s := by cases s; simp [sOf]
theorem sOf_inj {a b : List UInt8} (h : sOf a = sOf b) : a = b := by rw [← sOf_data a, ← sOf_data b, h]
theorem sOf_append (a b : List UInt8) : sOf a ++ sOf b = sOf (a ++ b) := by
  apply ByteArray.ext; simp [sOf]
theorem sOf_extract (l : List UInt8) (lo hi : Nat) : (sOf l).extract lo hi = sOf ((l.take hi).drop lo) := by
  apply ByteArray.ext
  simp [sOf, ByteArray.data_extract, List.drop_take, List.extract]
theorem sOf_toList (l : List UInt8) : (sOf l).toList = l := by rw [ByteArray.toList_eq]; exact sOf_data l

/- The cell at a place of immutable memory. -/
def cellM (M : Mem) (b o : Nat) : Option Value := match M b with | some (.cells c _ _) => c[o]? | _ => none
theorem Imm.cell {M : Mem} {w : World} (h : Imm M w) {b o : Nat} {v : Value} (e : cellM M b o = some v) : w.cell? ⟨b, o, none⟩ = some v := by
  unfold cellM at e
  split at e
  · rename_i c t fr hm
    unfold World.cell?; simp only [h b _ hm]; exact e
  · cases e
theorem cellM_le {M M' : Mem} (h : M.le M') {b o : Nat} {v : Value} (e : cellM M b o = some v) : cellM M' b o = some v := by
  unfold cellM at e ⊢
  split at e
  · rename_i c t fr hm; rw [h b _ hm]; exact e
  · cases e

/- A slice of bytes over immutable memory. -/
structure BS (M : Mem) (A : Option Addr) (c : Nat) (l : List UInt8) : Prop where
  cap : l.length ≤ c
  nil : A = none → l = []
  at_ : ∀ ad, A = some ad → ad.spot = none ∧ ∀ i (h : i < l.length), cellM M ad.block (ad.off + i) = some (ub l[i])

theorem BS.mono {M M' : Mem} {A : Option Addr} {c : Nat} {l : List UInt8} (h : BS M A c l) (hm : M.le M') : BS M' A c l :=
  ⟨h.cap, h.nil, fun ad e => ⟨(h.at_ ad e).1, fun i hi => cellM_le hm ((h.at_ ad e).2 i hi)⟩⟩
theorem BS.none (M : Mem) (c : Nat) : BS M none c [] := ⟨Nat.zero_le _, fun _ => rfl, fun _ e => by cases e⟩

theorem ub_nums (l : List UInt8) : strOfNums (l.map fun b => (b.toNat : Int)) = sOf l := by
  unfold strOfNums sOf
  congr 2
  rw [List.map_map]
  conv => rhs; rw [← List.map_id l]
  apply List.map_congr_left
  intro b _
  simp

section
variable {P : Program} {ops : Array Oper} {rest : List Oper} {a : Act} {Q : Exit → Act → World → Prop} {w w0 : World} {B : Nat → Prop} {M : Mem} {L : List (Nat × Obj)}

theorem run_conv_bs {S D e : TypeId} (hs : P.underlying S = some (.slice e)) (he : P.underlying e = some (.int .u8)) (hd : P.underlying D = some .string) {A : Option Addr} {n c : Nat} {l : List UInt8}
    (hi : Imm M w) (hb : BS M A c l) (hn : n = l.length) : (convert S D (.slice A n c)).run P w = .ok (.string (sOf l)) w := by
  cases A with
  | none =>
    rw [hb.nil rfl]
    exact run_convert_bytes_nil w S e hs he n c D hd
  | some ad =>
    obtain ⟨b, off, sp⟩ := ad
    obtain ⟨h1, h2⟩ := hb.at_ _ rfl
    simp only at h1 h2
    subst h1
    rw [run_convert_bytes_arg w S e hs he b off n c (l.map fun b => (b.toNat : Int)) (by simp [hn]) (fun i hi' => by
      have hlt : i < l.length := by omega
      rw [hi.cell (h2 i hlt)]
      simp [ub, List.getD, hlt]) D hd, ub_nums]

/- []byte to string. -/
theorem st_conv_bs {d : Option Tmp} {S D e ty : TypeId} {x : Operand} {ps : String} {af : Array Edge} {g : Option (Nat × Bool)} {A : Option Addr} {n c : Nat} {l : List UInt8}
    (hw : Region.wanted { dst := d, op := .convert S D x, type := ty, pos := ps, after := af, guard := g } (yielded ops a.tmps) = true)
    (hs : P.underlying S = some (.slice e)) (he : P.underlying e = some (.int .u8)) (hd : P.underlying D = some .string)
    (HS : St B w0 w M L) (hx : a.eval x = .slice A n c) (hb : BS M A c l) (hn : n = l.length)
    (k : wpList P ops Q rest (a.put d (.string (sOf l))) w) :
    wpList P ops Q ({ dst := d, op := .convert S D x, type := ty, pos := ps, after := af, guard := g } :: rest) a w := by
  refine wpList_ok (v := .string (sOf l)) (w' := w) hw ?_ k
  simp only [execOp, hx, Sem.run_bind, run_conv_bs hs he hd HS.imm hb hn, Result.andThen, Sem.run_pure]

theorem bytesWorld_below (w : World) (e : TypeId) (s : ByteArray) : Below w.heap.size w (Lib.bytesWorld w e s) :=
  ⟨by simp [Lib.bytesWorld, World.freeze, World.alloc, World.drew, -World.alloc_eq, -World.drew_eq], by simp [Lib.bytesWorld, World.freeze, World.alloc, World.drew, -World.alloc_eq, -World.drew_eq], by simp [Lib.bytesWorld, World.freeze, World.alloc, World.drew, -World.alloc_eq, -World.drew_eq], by rw [Lib.bytesWorld_size]; omega, fun k hk => Lib.bytesWorld_at_old w e s k hk⟩

/- string to []byte. -/
theorem st_conv_sb {d : Option Tmp} {S D e ty : TypeId} {x : Operand} {ps : String} {af : Array Edge} {g : Option (Nat × Bool)} {l : List UInt8}
    (hw : Region.wanted { dst := d, op := .convert S D x, type := ty, pos := ps, after := af, guard := g } (yielded ops a.tmps) = true)
    (hs : P.underlying S = some .string) (hd : P.underlying D = some (.slice e)) (he : P.underlying e = some (.int .u8))
    (HS : St B w0 w M L) (hx : a.eval x = .string (sOf l))
    (k : ∀ (M' : Mem) (b c : Nat) (w' : World), M.le M' → M.fresh M' w.heap.size → St B w0 w' M' L → w.heap.size ≤ w'.heap.size → BS M' (some ⟨b, 0, none⟩) c l → wpList P ops Q rest (a.put d (.slice (some ⟨b, 0, none⟩) l.length c)) w') :
    wpList P ops Q ({ dst := d, op := .convert S D x, type := ty, pos := ps, after := af, guard := g } :: rest) a w := by
  have hM : M w.heap.size = none := by
    rcases Classical.em (M w.heap.size = none) with e | e
    · exact e
    · exact absurd (HS.imm.lt e) (Nat.lt_irrefl _)
  refine wpList_ok (v := .slice (some ⟨w.heap.size, 0, none⟩) l.length (grownCap w (sOf l).size 0 e)) (w' := Lib.bytesWorld w e (sOf l)) hw ?_
    (k (M.add w.heap.size (.cells (Lib.bytesCells w e (sOf l)) e ((Lib.bytesCells w e (sOf l)).size, (Lib.bytesCells w e (sOf l)).size + 1))) _ _ _ (Mem.le_add hM) (Mem.fresh_add (Nat.le_refl _))
      (HS.callM (bytesWorld_below w e _) (Mem.fresh_add (Nat.le_refl _)) (fun b o h => ?_)) (by rw [Lib.bytesWorld_size]; omega) ⟨?_, (fun h => by cases h), fun ad h => ?_⟩)
  · simp only [execOp, hx, Sem.run_bind, Lib.run_convert_string_bytes w S D e (sOf l) hs hd he, Result.andThen, Sem.run_pure]
    rw [sOf_size]
  · unfold Mem.add at h
    split at h
    · rename_i hb; subst hb; cases h; exact Lib.bytesWorld_at_new w e _
    · rw [Lib.bytesWorld_at_old _ _ _ _ (Array.getElem?_eq_some_iff.1 (HS.imm b o h)).1]; exact HS.imm b o h
  · unfold grownCap Question.cut; rw [sOf_size]; dsimp only; omega
  · cases h
    refine ⟨rfl, fun i hi => ?_⟩
    unfold cellM
    rw [Mem.add_same]
    simp only [Nat.zero_add, Lib.bytesCells]
    rw [Array.getElem?_append_left (by simp [sOf]; exact hi)]
    simp [sOf, ub, hi]

/- b[lo:hi], b[:hi], b[lo:], of a slice of bytes. -/
theorem BS.slice {M : Mem} {A : Option Addr} {c : Nat} {l : List UInt8} (h : BS M A c l) {lo hi : Nat} (h1 : lo ≤ hi) (h2 : hi ≤ l.length) :
    BS M (if c = lo then A else A.map (·.add (lo * 1))) (c - lo) ((l.take hi).drop lo) := by
  refine ⟨by simp; have := h.cap; omega, fun e => ?_, fun ad e => ?_⟩
  · split at e
    · rw [h.nil e]; simp
    · cases A with
      | none => rw [h.nil rfl]; simp
      | some ad => cases e
  · split at e
    · rename_i hc
      have := h.cap
      refine ⟨(h.at_ ad e).1, fun i hi' => ?_⟩
      simp at hi'; omega
    · cases A with
      | none => cases e
      | some a0 =>
        obtain ⟨g1, g2⟩ := h.at_ a0 rfl
        obtain ⟨b, off, sp⟩ := a0
        simp only at g1 g2
        subst g1
        simp only [Option.map_some, Option.some.injEq, Addr.add_lit] at e
        subst e
        refine ⟨rfl, fun i hi' => ?_⟩
        have hi2 : lo + i < l.length := by simp at hi'; omega
        have := g2 (lo + i) hi2
        simp only [Nat.mul_one] at *
        rw [Nat.add_assoc, this]
        simp

abbrev sliceEnds (n : Nat) (lo hi : Option Value) (x y : Nat) : Prop :=
  (match lo with | Option.none => x = 0 | some v => v = .int .i64 (x : Int)) ∧ (match hi with | Option.none => y = n | some v => v = .int .i64 (y : Int)) ∧ x ≤ y ∧ y ≤ n

theorem run_sliceBounds {n c x y : Nat} {lo hi : Option Value} {b : Bool} (h : sliceEnds n lo hi x y) (hc : n ≤ c) : (Instr.sliceBounds b n c lo hi Option.none).run P w = .ok (x, y, c) w := by
  obtain ⟨h1, h2, h3, h4⟩ := h
  cases lo <;> cases hi <;> simp only at h1 h2 <;> subst h1 h2 <;> simp [Instr.sliceBounds, Instr.sliceBound, asIntOf, Result.andThen, h3, h4, Nat.le_trans h4 hc, hc]

theorem st_slice_bs {d : Option Tmp} {S e ty : TypeId} {x : Operand} {lo hi : Option Operand} {ps : String} {af : Array Edge} {g : Option (Nat × Bool)} {A : Option Addr} {n c : Nat} {l : List UInt8} {i j : Nat}
    (hw : Region.wanted { dst := d, op := .slice S x lo hi Option.none, type := ty, pos := ps, after := af, guard := g } (yielded ops a.tmps) = true)
    (hs : P.underlying S = some (.slice e)) (he : (P.info? e).map (·.size) = some 1)
    (hx : a.eval x = .slice A n c) (hb : BS M A c l) (hn : n = l.length) (hij : sliceEnds n (lo.map a.eval) (hi.map a.eval) i j)
    (k : ∀ A', BS M A' (c - i) ((l.take j).drop i) → wpList P ops Q rest (a.put d (.slice A' (j - i) (c - i))) w) :
    wpList P ops Q ({ dst := d, op := .slice S x lo hi Option.none, type := ty, pos := ps, after := af, guard := g } :: rest) a w := by
  have hj := hij.2.2
  refine wpList_ok (v := .slice (if c = i then A else A.map (·.add (i * 1))) (j - i) (c - i)) (w' := w) hw ?_ (k _ (hb.slice hj.1 (hn ▸ hj.2)))
  have hsz : (sizeOf e).run P w = .ok 1 w := by
    cases hu : P.info? e with
    | none => rw [hu] at he; cases he
    | some q => rw [hu] at he; simp only [Option.map_some, Option.some.injEq] at he; simp [sizeOf, typeInfo, hu, he]
  have hcap : n ≤ c := by rw [hn]; exact hb.cap
  simp only [execOp, hx, Instr.sliceAt, Sem.run_bind, run_underlying hs, Result.andThen, Option.map_none, Instr.slice, run_sliceBounds (P := P) (w := w) (b := true) hij hcap, hsz, Sem.run_pure]

theorem st_slice_str {d : Option Tmp} {S ty : TypeId} {x : Operand} {lo hi : Option Operand} {ps : String} {af : Array Edge} {g : Option (Nat × Bool)} {l : List UInt8} {i j : Nat}
    (hw : Region.wanted { dst := d, op := .slice S x lo hi Option.none, type := ty, pos := ps, after := af, guard := g } (yielded ops a.tmps) = true)
    (hs : P.underlying S = some .string)
    (hx : a.eval x = .string (sOf l)) (hij : sliceEnds l.length (lo.map a.eval) (hi.map a.eval) i j)
    (k : wpList P ops Q rest (a.put d (.string (sOf ((l.take j).drop i)))) w) :
    wpList P ops Q ({ dst := d, op := .slice S x lo hi Option.none, type := ty, pos := ps, after := af, guard := g } :: rest) a w := by
  refine wpList_ok (v := .string (sOf ((l.take j).drop i))) (w' := w) hw ?_ k
  have hij' := hij
  rw [← sOf_size l] at hij'
  simp only [execOp, hx, Instr.sliceAt, Sem.run_bind, run_underlying hs, Result.andThen, Option.map_none, Option.isSome_none, Bool.false_eq_true, if_false, Instr.slice, run_sliceBounds (P := P) (w := w) (b := false) hij' (Nat.le_refl _), Sem.run_pure, sOf_extract]
end
end Go.Proofs.YtbogoehjoglneaaDoor

/- A region that draws its order, walked by a plan: the soft operations (one value in every world that meets S) as early as they may come, the hard ones (a call, an alloc, a store) where they alone may come. A call. -/
namespace Go.Proofs.YtbogoehjoglneaaDoor
open Go.RowKit

section
variable {P : Program} {ops : Array Oper} {Q : Exit → Act → World → Prop} {S : World → Prop} {brk : Nat → Bool}

/- As wpAnyH, but an operation that is marked in brk need not keep S. -/
def wpAnyB (P : Program) (ops : Array Oper) (Q : Exit → Act → World → Prop) (S : World → Prop) (brk : Nat → Bool) : Nat → Array Bool → Act → World → Prop
  | 0, listed, a, w => Region.ready .any ops listed = [] ∧ Q .normal a w
  | fuel + 1, listed, a, w =>
    (Region.ready .any ops listed = [] → Q .normal a w) ∧
    ∀ i ∈ Region.ready .any ops listed, wpOp P ops Q i (fun a' w' => (brk i = false → S w') ∧ wpAnyB P ops Q S brk fuel (listed.setIfInBounds i true) a' w') a w

theorem wpAny_of_B : ∀ (fuel : Nat) (listed : Array Bool) (a : Act) (w : World), wpAnyB P ops Q S brk fuel listed a w → wpAny P .any ops Q fuel listed a w
  | 0, _, _, _, h => h
  | fuel + 1, _, _, _, h => ⟨h.1, fun i hi => wpOp_mono (fun a' w' h' => wpAny_of_B fuel _ a' w' h'.2) (h.2 i hi)⟩

theorem wpAnyB_first {i : Nat} {oi : Oper} {v : Value} (hi : ops[i]? = some oi) (hsel : ∀ (j : Nat) (o : Oper) cs b, ops[j]? = some o → o.op ≠ .select cs b)
    (hQ : ∀ c a w, Q (.panic c) (a.put oi.dst v) w → Q (.panic c) a w) :
    ∀ (fuel : Nat) (listed : Array Bool) (a : Act) (w : World),
      (∀ j oj, ops[j]? = some oj → j ≠ i → listed.getD j true = false → (∀ e ∈ oj.after, Region.binds .any e = true → e.on ≠ i) → oi.apart ops oj = true ∧ brk j = false) →
      i ∈ Region.ready .any ops listed → YieldsIf P ops S oi v a → S w →
      wpAnyB P ops Q S brk fuel (listed.setIfInBounds i true) (a.put oi.dst v) w → wpAnyB P ops Q S brk (fuel + 1) listed a w := by
  intro fuel
  induction fuel with
  | zero =>
    intro listed a w _ hr hy hS H
    refine ⟨fun h => (by rw [h] at hr; cases hr), fun j hj => ?_⟩
    by_cases hji : j = i
    · subst hji; exact hy.wpOp hi hS ⟨fun _ => hS, H⟩
    · have := ready_mono hj hji
      rw [H.1] at this
      cases this
  | succ fuel ih =>
    intro listed a w hfree hr hy hS H
    refine ⟨fun h => (by rw [h] at hr; cases hr), fun j hj => ?_⟩
    by_cases hji : j = i
    · subst hji; exact hy.wpOp hi hS ⟨fun _ => hS, H⟩
    · have h1 := H.2 j (ready_mono hj hji)
      obtain ⟨hjun, oj, hoj, hall⟩ := mem_ready.1 hj
      have hnot : ∀ e ∈ oj.after, Region.binds .any e = true → e.on ≠ i := fun e he hb heq => by
        have h1 := hall e he hb
        have h0 := (mem_ready.1 hr).1
        rw [heq] at h1
        rcases Nat.lt_or_ge i listed.size with h' | h'
        · simp [h'] at h0 h1; rw [h0] at h1; cases h1
        · simp [Array.getElem?_eq_none h'] at h1
      have hap := hfree j oj hoj hji hjun hnot
      have h2 := wpOp_putIf hoj hap.1 (fun cs b => hsel i oi cs b hi) (fun cs b => hsel j oj cs b hoj) hQ hy h1
      have hfree' : ∀ k ok, ops[k]? = some ok → k ≠ i → (listed.setIfInBounds j true).getD k true = false →
          (∀ e ∈ ok.after, Region.binds .any e = true → e.on ≠ i) → oi.apart ops ok = true ∧ brk k = false := fun k ok hk hki hun hno => by
        refine hfree k ok hk hki ?_ hno
        by_cases hjk : j = k
        · subst hjk; exact hjun
        · rw [getD_set_ne true hjk] at hun; exact hun
      refine wpOp_mono (fun a' w' h3 => ⟨h3.2.1, ih (listed.setIfInBounds j true) a' w' hfree' (ready_mono hr (Ne.symm hji)) h3.1 (h3.2.1 hap.2) ?_⟩) h2
      rw [Array.setIfInBounds_comm _ _ hji]
      exact h3.2.2

/- May soft operation i be taken? -/
def freeB (brk : Nat → Bool) (ops : Array Oper) (listed : Array Bool) (i : Nat) : Bool :=
  match ops[i]? with
  | none => false
  | some oi => (List.range ops.size).all fun j => j == i || listed.getD j true || match ops[j]? with
      | some oj => oj.after.any (fun e => Region.binds .any e && e.on == i) || (oi.apart ops oj && !brk j)
      | none => true

theorem freeB_spec {i : Nat} {oi : Oper} {listed : Array Bool} (hi : ops[i]? = some oi) (h : freeB brk ops listed i = true) (j : Nat) (oj : Oper)
    (hj : ops[j]? = some oj) (hne : j ≠ i) (hun : listed.getD j true = false) (hno : ∀ e ∈ oj.after, Region.binds .any e = true → e.on ≠ i) :
    oi.apart ops oj = true ∧ brk j = false := by
  simp only [freeB, hi, List.all_eq_true, List.mem_range] at h
  have h1 := h j (Array.getElem?_eq_some_iff.1 hj).1
  simp only [hj, Bool.or_eq_true, beq_iff_eq, hne, false_or, hun, Bool.false_eq_true, Bool.and_eq_true, Bool.not_eq_true'] at h1
  rcases h1 with h1 | h1
  · obtain ⟨e, he, hb⟩ := Array.any_eq_true'.1 h1
    simp only [Bool.and_eq_true, beq_iff_eq] at hb
    exact absurd hb.2 (hno e he hb.1)
  · exact h1

/- A plan: (true, i): soft; (false, i): hard. -/
def planOk (brk : Nat → Bool) (ops : Array Oper) : List (Bool × Nat) → Array Bool → Bool
  | [], listed => (Region.ready .any ops listed).isEmpty
  | (true, i) :: r, listed => freeB brk ops listed i && (Region.ready .any ops listed).contains i && planOk brk ops r (listed.setIfInBounds i true)
  | (false, i) :: r, listed => (Region.ready .any ops listed == [i]) && (!brk i || r.all (fun p => !p.1)) && planOk brk ops r (listed.setIfInBounds i true)

def isIn (l : List Nat) (i : Nat) : Bool := l.contains i

def exitD (Q : Exit → Act → World → Prop) (K : Act → World → Prop) : Exit → Act → World → Prop
  | .normal, a, w => K a w
  | .panic _, _, _ => False
  | e, a, w => Q e a w

def lexD (P : Program) (ops : Array Oper) (Q : Exit → Act → World → Prop) (S : World → Prop) (brk : Nat → Bool) : List (Bool × Nat) → Act → World → Prop
  | [], a, w => Q .normal a w
  | (true, i) :: r, a, w => match ops[i]? with | some o => ∃ v, YieldsIf P ops S o v a ∧ lexD P ops Q S brk r (a.put o.dst v) w | none => False
  | (false, i) :: r, a, w => match ops[i]? with
    | some o => wpList P ops (exitD Q (fun a' w' => (brk i = false → S w') ∧ lexD P ops Q S brk r a' w')) [o] a w
    | none => False

def NoPan (Q : Exit → Act → World → Prop) : Exit → Act → World → Prop
  | .panic _, _, _ => False
  | e, a, w => Q e a w

theorem wpAnyB_of_plan (hsel : Region.noSelect ops = true) : ∀ (plan : List (Bool × Nat)) (listed : Array Bool) (a : Act) (w : World),
    planOk brk ops plan listed = true → ((plan.all fun p => !p.1) = false → S w) → lexD P ops Q S brk plan a w → wpAnyB P ops (NoPan Q) S brk plan.length listed a w
  | [], listed, a, w, hp, _, h => ⟨by simpa [planOk] using hp, h⟩
  | (true, i) :: r, listed, a, w, hp, hS, h => by
    simp only [planOk, Bool.and_eq_true] at hp
    obtain ⟨⟨h1, h2⟩, h3⟩ := hp
    unfold lexD at h
    cases hi : ops[i]? with
    | none => simp [hi] at h
    | some o =>
      simp only [hi] at h
      obtain ⟨v, hy, h⟩ := h
      have hSw := hS (by simp)
      exact wpAnyB_first hi (Region.noSelect_spec hsel) (fun _ _ _ h => h) r.length listed a w (freeB_spec hi h1) (by simpa using h2) hy hSw
        (wpAnyB_of_plan hsel r _ _ w h3 (fun _ => hSw) h)
  | (false, i) :: r, listed, a, w, hp, hS, h => by
    simp only [planOk, Bool.and_eq_true, beq_iff_eq] at hp
    obtain ⟨⟨h1, h2⟩, h3⟩ := hp
    unfold lexD at h
    cases hi : ops[i]? with
    | none => simp [hi] at h
    | some o =>
      simp only [hi] at h
      refine ⟨fun h0 => (by rw [h1] at h0; cases h0), fun j hj => ?_⟩
      rw [h1, List.mem_singleton] at hj
      subst hj
      have hK : wpOp P ops (NoPan Q) j (fun a' w' => (brk j = false → S w') ∧ lexD P ops Q S brk r a' w') a w := by
        unfold wpOp
        simp only [hi]
        unfold wpList at h
        split
        · rename_i hw; rw [if_pos hw] at h; exact h
        · rename_i hw; rw [if_neg hw] at h; exact h
      refine wpOp_mono (fun a' w' hh => ⟨hh.1, wpAnyB_of_plan hsel r _ a' w' h3 (fun hr => ?_) hh.2⟩) hK
      rcases Bool.eq_false_or_eq_true (brk j) with hb | hb
      · rw [hb] at h2
        simp only [Bool.not_true, Bool.false_or] at h2
        rw [h2] at hr; cases hr
      · exact hh.1 hb

/- The beginning. -/
theorem wp_region_plan {id : Nat} {a : Act} {w : World} {l : List Oper} (brks : List Nat) (plan : List (Bool × Nat)) (S : World → Prop) (hm : P.follows .mixedOrders = true) (hsel : Region.noSelect l.toArray = true) (hn : plan.length = l.length)
    (hp : planOk (isIn brks) l.toArray plan (Array.replicate l.length false) = true) (hS : S w.drew) (h : lexD P l.toArray Q S (isIn brks) plan a w.drew) : (Code.region id l.toArray true).wp P Q a w := by
  have := wpAny_of_B _ _ _ _ (wpAnyB_of_plan (P := P) (Q := Q) (S := S) hsel plan _ a w.drew hp (fun _ => hS) h)
  refine Code.wp_mono (fun e a w h => ?_) (wp_region_any (Q := NoPan Q) hm (by rw [hn] at this; simpa using this))
  cases e <;> first | exact h | exact h.elim

theorem lexD_soft {r : List (Bool × Nat)} {i : Nat} {o : Oper} {a : Act} {w : World} {v : Value} (hi : ops[i]? = some o) (hw : Region.wanted o (yielded ops a.tmps) = true) (hy : ∀ w, S w → (execOp a.eval o).run P w = .ok (.value v) w)
    (k : lexD P ops Q S brk r (a.put o.dst v) w) : lexD P ops Q S brk ((true, i) :: r) a w := by
  unfold lexD; simp only [hi]; exact ⟨v, .inl ⟨hw, hy⟩, k⟩
theorem lexD_skip {r : List (Bool × Nat)} {i : Nat} {o : Oper} {a : Act} {w : World} (hi : ops[i]? = some o) (hw : Region.wanted o (yielded ops a.tmps) = false)
    (k : lexD P ops Q S brk r (a.put o.dst undef) w) : lexD P ops Q S brk ((true, i) :: r) a w := by
  unfold lexD; simp only [hi]; exact ⟨undef, .inr ⟨hw, rfl⟩, k⟩
theorem lexD_hard {r : List (Bool × Nat)} {i : Nat} {o : Oper} {a : Act} {w : World} (hi : ops[i]? = some o)
    (k : wpList P ops (exitD Q (fun a' w' => (brk i = false → S w') ∧ lexD P ops Q S brk r a' w')) [o] a w) : lexD P ops Q S brk ((false, i) :: r) a w := by
  unfold lexD; simp only [hi]; exact k
theorem lexD_done {r : List (Bool × Nat)} {i : Nat} {a : Act} {w : World} (hS : brk i = false → S w) (k : lexD P ops Q S brk r a w) :
    wpList P ops (exitD Q (fun a' w' => (brk i = false → S w') ∧ lexD P ops Q S brk r a' w')) [] a w := ⟨hS, k⟩
theorem lexD_end {a : Act} {w : World} (k : Q .normal a w) : lexD P ops Q S brk [] a w := k

/- A load's one value. -/
theorem yields_load {a : Act} {d : Option Tmp} {T ty : TypeId} {x : Operand} {ps : String} {af : Array Edge} {g : Option (Nat × Bool)} {agg : Bool} {z : List Value} [TI P T agg z] {B : Nat → Prop} {w0 w : World} {M : Mem} {L : List (Nat × Obj)} {b off : Nat} {cl : List Value} {t : TypeId} {fr : Nat × Nat} {v : Value}
    (HS : St B w0 w M L) (hx : a.eval x = .pointer (some ⟨b, off, Option.none⟩)) (hb : Blk M L b (.cells cl.toArray t fr)) (hv : ldv agg z.length cl off = some v) :
    (execOp a.eval { dst := d, op := .load T x, type := ty, pos := ps, after := af, guard := g }).run P w = .ok (.value v) w := by
  simp only [execOp, hx, Instr.loadAt, Instr.sureAddr, Sem.run_bind, Sem.run_pure, Result.andThen, run_loadVar_blk (P := P) (T := T) (HS.blk hb) hv]

/- A call of a named Go function. -/
theorem st_call {rest : List Oper} {a : Act} {w : World} {d : Option Tmp} {f : FuncId} {fn : Func} {c : Code} {xs : Array Operand} {ts : Array TypeId} {ty : TypeId} {ps : String} {af : Array Edge} {g : Option (Nat × Bool)} {R : Ending → World → Prop}
    (hw : Region.wanted { dst := d, op := .call { callee := .value (.func f), args := xs, argTypes := ts }, type := ty, pos := ps, after := af, guard := g } (yielded ops a.tmps) = true)
    (hf : P.funcs[f]? = some fn) (hname : (fn.name == "runtime.NumGoroutine") = false) (hb : fn.body = some c) {args : Array Value} (hargs : xs.map a.eval = args)
    (hc : Calls P f args w R) (k : ∀ e w', R e w' → ∃ v, e = .returned v ∧ wpList P ops Q rest (a.put d v) w') :
    wpList P ops Q ({ dst := d, op := .call { callee := .value (.func f), args := xs, argTypes := ts }, type := ty, pos := ps, after := af, guard := g } :: rest) a w :=
  wpList_step fun K hK => by
    rw [if_pos hw]
    unfold Oper.wp
    have hrun : (execOp a.eval { dst := d, op := .call { callee := .value (.func f), args := xs, argTypes := ts }, type := ty, pos := ps, after := af, guard := g }).run P w = .ok (.enter f args) w := by
      rw [execOp_call_go, hargs]
      have := (Go.Proofs.enters_of (P := P) hf hname hb) args w
      simpa using this
    rw [hrun]
    exact hc.mono fun e w' he => by
      obtain ⟨v, rfl, h⟩ := k e w' he
      exact hK _ _ h
end
end Go.Proofs.YtbogoehjoglneaaDoor

/- Plain laws on bytes: encodings, steps, floors. No Go, no memory. -/
namespace Go.Proofs.YtbogoehjoglneaaDoor
set_option linter.unusedVariables false
set_option linter.unusedSimpArgs false

/- The byte at a place; 256: none. -/
def byt (l : List UInt8) (i : Nat) : Nat := match l[i]? with | some b => b.toNat | none => 256

/- How many bytes the encoding has that begins with these; 0: none does. -/
def encN (x y z w : Nat) : Nat :=
  if x ≤ 127 then 1
  else if (194 ≤ x ∧ x ≤ 223) ∧ (128 ≤ y ∧ y ≤ 191) then 2
  else if (128 ≤ z ∧ z ≤ 191) ∧ ((x = 224 ∧ 160 ≤ y ∧ y ≤ 191) ∨ ((225 ≤ x ∧ x ≤ 236) ∧ 128 ≤ y ∧ y ≤ 191) ∨ (x = 237 ∧ 128 ≤ y ∧ y ≤ 159) ∨ ((238 ≤ x ∧ x ≤ 239) ∧ 128 ≤ y ∧ y ≤ 191)) then 3
  else if (128 ≤ z ∧ z ≤ 191) ∧ (128 ≤ w ∧ w ≤ 191) ∧ ((x = 240 ∧ 144 ≤ y ∧ y ≤ 191) ∨ ((241 ≤ x ∧ x ≤ 243) ∧ 128 ≤ y ∧ y ≤ 191) ∨ (x = 244 ∧ 128 ≤ y ∧ y ≤ 143)) then 4
  else 0

def enc (l : List UInt8) : Nat := encN (byt l 0) (byt l 1) (byt l 2) (byt l 3)

def valN (n x y z w : Nat) : Nat :=
  if n = 1 then x else if n = 2 then x % 32 * 64 + y % 64 else if n = 3 then x % 16 * 4096 + y % 64 * 64 + z % 64 else x % 8 * 262144 + y % 64 * 4096 + z % 64 * 64 + w % 64

def val (l : List UInt8) : Nat := valN (enc l) (byt l 0) (byt l 1) (byt l 2) (byt l 3)

structure Stp where
  r : Nat
  w : Nat
  ok : Bool
  deriving DecidableEq

def stp (l : List UInt8) : Stp := if enc l = 0 then ⟨65533, 1, false⟩ else ⟨val l, enc l, true⟩

theorem byt_lt {l : List UInt8} {i : Nat} (h : i < l.length) : byt l i = l[i].toNat ∧ byt l i < 256 := by
  unfold byt; rw [List.getElem?_eq_getElem h]; exact ⟨rfl, UInt8.toNat_lt _⟩
theorem byt_ge {l : List UInt8} {i : Nat} (h : l.length ≤ i) : byt l i = 256 := by
  unfold byt; rw [List.getElem?_eq_none h]
theorem byt_le (l : List UInt8) (i : Nat) : byt l i ≤ 256 := by
  unfold byt; split
  · have := UInt8.toNat_lt ‹UInt8›; omega
  · omega
theorem lt_of_byt {l : List UInt8} {i : Nat} (h : byt l i < 256) : i < l.length := by
  rcases Nat.lt_or_ge i l.length with h' | h'
  · exact h'
  · rw [byt_ge h'] at h; omega
theorem byt_drop (l : List UInt8) (p i : Nat) : byt (l.drop p) i = byt l (p + i) := by simp [byt]
theorem byt_tail (l : List UInt8) (i : Nat) : byt l.tail i = byt l (i + 1) := by simp [byt]
theorem byt_take {l : List UInt8} {n i : Nat} (h : i < n) : byt (l.take n) i = byt l i := by simp [byt, List.getElem?_take, h]
theorem byt_append_left {a b : List UInt8} {i : Nat} (h : i < a.length) : byt (a ++ b) i = byt a i := by simp [byt, List.getElem?_append_left h]
theorem byt_append_right {a b : List UInt8} {i : Nat} (h : a.length ≤ i) : byt (a ++ b) i = byt b (i - a.length) := by simp [byt, List.getElem?_append_right h]

theorem encN_le (x y z w : Nat) : encN x y z w ≤ 4 := by
  unfold encN; repeat' split
  all_goals omega
theorem enc_le (l : List UInt8) : enc l ≤ 4 := encN_le _ _ _ _

/- What an encoding of n bytes says of its bytes. -/
theorem encN_spec (x y z w : Nat) : (encN x y z w = 1 ↔ x ≤ 127) ∧ (2 ≤ encN x y z w → 194 ≤ x ∧ x ≤ 244 ∧ 128 ≤ y ∧ y ≤ 191) ∧ (3 ≤ encN x y z w → 128 ≤ z ∧ z ≤ 191) ∧ (4 ≤ encN x y z w → 128 ≤ w ∧ w ≤ 191) := by
  unfold encN; repeat' split
  all_goals (refine ⟨?_, ?_, ?_, ?_⟩ <;> omega)

theorem enc_len (l : List UInt8) : enc l ≤ l.length := by
  have h := encN_spec (byt l 0) (byt l 1) (byt l 2) (byt l 3)
  have h4 := enc_le l
  unfold enc at *
  rcases Nat.lt_or_ge l.length (encN (byt l 0) (byt l 1) (byt l 2) (byt l 3)) with hlt | hge
  · exfalso
    have hn : l.length = 0 ∨ l.length = 1 ∨ l.length = 2 ∨ l.length = 3 := by omega
    have b0 : l.length ≤ 0 → byt l 0 = 256 := byt_ge
    have b1 : l.length ≤ 1 → byt l 1 = 256 := byt_ge
    have b2 : l.length ≤ 2 → byt l 2 = 256 := byt_ge
    have b3 : l.length ≤ 3 → byt l 3 = 256 := byt_ge
    rcases hn with e | e | e | e <;> omega
  · exact hge

/- Only its own bytes count. -/
theorem encN_congr {x y z w x' y' z' w' n : Nat} (hn : encN x y z w = n) (h0 : 0 < n) (hx : x' = x) (hy : 1 < n → y' = y) (hz : 2 < n → z' = z) (hw : 3 < n → w' = w) : encN x' y' z' w' = n := by
  subst hx
  have hs := encN_spec x' y z w
  have h4 := encN_le x' y z w
  have hc : n = 1 ∨ n = 2 ∨ n = 3 ∨ n = 4 := by omega
  rcases hc with e | e | e | e <;> subst e
  · have := hs.1.1 hn; unfold encN; rw [if_pos this]
  · have := hy (by omega); subst this
    unfold encN at hn ⊢
    repeat' split at hn
    all_goals (repeat' split)
    all_goals omega
  · have := hy (by omega); subst this
    have := hz (by omega); subst this
    unfold encN at hn ⊢
    repeat' split at hn
    all_goals (repeat' split)
    all_goals omega
  · have := hy (by omega); subst this
    have := hz (by omega); subst this
    have := hw (by omega); subst this
    exact hn

theorem enc_congr {l l' : List UInt8} (h0 : 0 < enc l) (h : ∀ i, i < enc l → byt l' i = byt l i) : enc l' = enc l :=
  encN_congr rfl h0 (h 0 h0) (fun k => h 1 k) (fun k => h 2 k) (fun k => h 3 k)

/- Behind an encoding's first byte stand bytes that begin none. -/
theorem enc_tail {l : List UInt8} {i : Nat} (h1 : 1 ≤ i) (h2 : i < enc l) : 128 ≤ byt l i ∧ byt l i ≤ 191 := by
  have h := encN_spec (byt l 0) (byt l 1) (byt l 2) (byt l 3)
  have h4 := enc_le l
  unfold enc at *
  have hc : i = 1 ∨ i = 2 ∨ i = 3 := by omega
  rcases hc with e | e | e <;> subst e <;> omega

theorem enc_of_tail {l : List UInt8} (h1 : 128 ≤ byt l 0) (h2 : byt l 0 ≤ 191) : enc l = 0 := by
  have h := encN_spec (byt l 0) (byt l 1) (byt l 2) (byt l 3)
  have h4 := enc_le l
  unfold enc at *
  omega

theorem enc_drop {l : List UInt8} {i : Nat} (h1 : 1 ≤ i) (h2 : i < enc l) : enc (l.drop i) = 0 := by
  have := enc_tail h1 h2
  exact enc_of_tail (by rw [byt_drop]; simpa using this.1) (by rw [byt_drop]; simpa using this.2)

theorem enc_nil : enc [] = 0 := by decide

/- It begins no later: two encodings do not lie over one another. -/
theorem enc_apart {l : List UInt8} {p q : Nat} (h : p < q) (h1 : 0 < enc (l.drop q)) : p + enc (l.drop p) ≤ q := by
  rcases Nat.lt_or_ge q (p + enc (l.drop p)) with hlt | hge
  · have := enc_drop (l := l.drop p) (i := q - p) (by omega) (by omega)
    rw [List.drop_drop, show p + (q - p) = q from by omega] at this
    omega
  · exact hge

/- How far ahead of p the encoding begins that goes over it; 0: none does. -/
def inside (l : List UInt8) (p : Nat) : Nat :=
  if 1 ≤ p ∧ 1 < enc (l.drop (p - 1)) then 1 else if 2 ≤ p ∧ 2 < enc (l.drop (p - 2)) then 2 else if 3 ≤ p ∧ 3 < enc (l.drop (p - 3)) then 3 else 0

def floorN (l : List UInt8) (p : Nat) : Nat := p - inside l p

theorem inside_le (l : List UInt8) (p : Nat) : inside l p ≤ 3 ∧ inside l p ≤ p := by
  unfold inside; repeat' split
  all_goals omega
theorem inside_spec {l : List UInt8} {p k : Nat} (h0 : 1 ≤ k) (hk : k ≤ p) (h : k < enc (l.drop (p - k))) : inside l p = k := by
  have h4 := enc_le (l.drop (p - k))
  have key : ∀ j, 1 ≤ j → j < k → ¬ (j < enc (l.drop (p - j))) := fun j hj hjk hh => by
    have := enc_apart (l := l) (p := p - k) (q := p - j) (by omega) (by omega)
    omega
  unfold inside
  have hc : k = 1 ∨ k = 2 ∨ k = 3 := by omega
  rcases hc with e | e | e <;> subst e
  · rw [if_pos ⟨hk, h⟩]
  · rw [if_neg (fun hh => key 1 (by omega) (by omega) hh.2), if_pos ⟨hk, h⟩]
  · rw [if_neg (fun hh => key 1 (by omega) (by omega) hh.2), if_neg (fun hh => key 2 (by omega) (by omega) hh.2), if_pos ⟨hk, h⟩]
theorem inside_pos {l : List UInt8} {p : Nat} (h : inside l p ≠ 0) : 1 ≤ inside l p ∧ inside l p ≤ p ∧ inside l p < enc (l.drop (p - inside l p)) := by
  unfold inside at h ⊢
  repeat' split
  all_goals first | omega | simp_all
theorem inside_zero {l : List UInt8} {p k : Nat} (h : inside l p = 0) (h0 : 1 ≤ k) (hk : k ≤ p) : enc (l.drop (p - k)) ≤ k := by
  rcases Nat.lt_or_ge k (enc (l.drop (p - k))) with hlt | hge
  · have := inside_spec h0 hk hlt; omega
  · exact hge

/- The floor is an edge. -/
theorem floor_edge (l : List UInt8) (p : Nat) : inside l (floorN l p) = 0 := by
  unfold floorN
  by_cases h : inside l p = 0
  · rw [h]; simpa using h
  · obtain ⟨h1, h2, h3⟩ := inside_pos h
    by_cases h' : inside l (p - inside l p) = 0
    · exact h'
    · obtain ⟨g1, g2, g3⟩ := inside_pos h'
      have := enc_apart (l := l) (p := p - inside l p - inside l (p - inside l p)) (q := p - inside l p) (by omega) (by omega)
      omega
theorem floor_le (l : List UInt8) (p : Nat) : floorN l p ≤ p := Nat.sub_le _ _
theorem floor_self {l : List UInt8} {p : Nat} (h : inside l p = 0) : floorN l p = p := by unfold floorN; rw [h]; rfl

theorem stp_w (l : List UInt8) : 1 ≤ (stp l).w ∧ (stp l).w ≤ 4 := by
  have := enc_le l
  unfold stp; split
  · exact ⟨by decide, by decide⟩
  · exact ⟨by show 1 ≤ enc l; omega, this⟩
theorem stp_len {l : List UInt8} (h : l ≠ []) : (stp l).w ≤ l.length := by
  have := enc_len l
  unfold stp; split
  · exact List.length_pos_iff.2 h
  · exact this
theorem stp_enc (l : List UInt8) : enc l ≤ (stp l).w := by
  unfold stp; split
  · rename_i h; rw [h]; exact Nat.zero_le _
  · exact Nat.le_refl _

/- From edge to edge. -/
theorem edge_next {l : List UInt8} {p : Nat} (h : inside l p = 0) : inside l (p + (stp (l.drop p)).w) = 0 := by
  have hw := stp_w (l.drop p)
  have he := stp_enc (l.drop p)
  by_cases h' : inside l (p + (stp (l.drop p)).w) = 0
  · exact h'
  · exfalso
    obtain ⟨g1, g2, g3⟩ := inside_pos h'
    generalize inside l (p + (stp (l.drop p)).w) = k at *
    rcases Nat.lt_trichotomy (p + (stp (l.drop p)).w - k) p with hlt | heq | hgt
    · have := inside_zero (l := l) (p := p) (k := p - (p + (stp (l.drop p)).w - k)) h (by omega) (by omega)
      rw [show p - (p - (p + (stp (l.drop p)).w - k)) = p + (stp (l.drop p)).w - k from by omega] at this
      omega
    · rw [heq] at g3; omega
    · -- it begins within the step
      have hz := enc_apart (l := l) (p := p) (q := p + (stp (l.drop p)).w - k) hgt (by omega)
      by_cases e0 : enc (l.drop p) = 0
      · have : (stp (l.drop p)).w = 1 := by unfold stp; rw [if_pos e0]
        omega
      · have : (stp (l.drop p)).w = enc (l.drop p) := by unfold stp; rw [if_neg e0]
        omega

/- A place strictly within a step has the step's beginning as its floor. -/
theorem floor_within {l : List UInt8} {p q : Nat} (h : inside l p = 0) (h1 : p ≤ q) (h2 : q < p + (stp (l.drop p)).w) : floorN l q = p := by
  by_cases e : q = p
  · subst e; exact floor_self h
  · have he : enc (l.drop p) = (stp (l.drop p)).w := by
      by_cases e0 : enc (l.drop p) = 0
      · have : (stp (l.drop p)).w = 1 := by unfold stp; rw [if_pos e0]
        omega
      · unfold stp; rw [if_neg e0]
    have := inside_spec (l := l) (p := q) (k := q - p) (by omega) (by omega) (by rw [show q - (q - p) = p from by omega]; omega)
    unfold floorN; omega

theorem floor_step (l : List UInt8) (p : Nat) (hp : p < l.length) : p < floorN l p + (stp (l.drop (floorN l p))).w := by
  by_cases h : inside l p = 0
  · rw [floor_self h]; have := stp_w (l.drop p); omega
  · obtain ⟨h1, h2, h3⟩ := inside_pos h
    have := stp_enc (l.drop (floorN l p))
    unfold floorN at *
    omega

theorem inside_len (l : List UInt8) {p : Nat} (hp : l.length ≤ p) : inside l p = 0 := by
  by_cases h : inside l p = 0
  · exact h
  · obtain ⟨h1, h2, h3⟩ := inside_pos h
    have := enc_len (l.drop (p - inside l p))
    simp at this
    omega
theorem inside_at_zero (l : List UInt8) : inside l 0 = 0 := by unfold inside; simp

/- All steps, each with its place. -/
def steps (l : List UInt8) (p : Nat) : List (Nat × Stp) :=
  if h : l = [] then [] else (p, stp l) :: steps (l.drop (stp l).w) (p + (stp l).w)
termination_by l.length
decreasing_by
  have := List.length_pos_iff.2 h
  have := (stp_w l).1
  simp; omega

theorem steps_nil (p : Nat) : steps [] p = [] := by rw [steps]; simp
theorem steps_cons {l : List UInt8} (h : l ≠ []) (p : Nat) : steps l p = (p, stp l) :: steps (l.drop (stp l).w) (p + (stp l).w) := by rw [steps]; rw [dif_neg h]

theorem decodeN_enc (n x y z w y' z' w' : Nat) (hx : x < 256) (h1 : 1 < n → y' = y ∧ y < 256) (h2 : 2 < n → z' = z ∧ z < 256) (h3 : 3 < n → w' = w ∧ w < 256)
    (e1 : ¬ 1 < n → y = 256) (e2 : ¬ 2 < n → z = 256) (e3 : ¬ 3 < n → w = 256) :
    Lib.decodeN n x y' z' w' = if encN x y z w = 0 then (65533, 1) else (valN (encN x y z w) x y z w, encN x y z w) := by
  by_cases c0 : x ≤ 127
  · have : encN x y z w = 1 := by unfold encN; rw [if_pos c0]
    rw [this]; unfold Lib.decodeN valN; rw [if_pos (by omega)]; rfl
  by_cases c1 : x ≤ 193
  · have : encN x y z w = 0 := by unfold encN; (repeat' split) <;> omega
    rw [this, if_pos rfl]; unfold Lib.decodeN
    repeat' split
    all_goals first | rfl | (exfalso; omega)
  by_cases c2 : x ≤ 223
  · by_cases hy : 128 ≤ y ∧ y ≤ 191
    · have : encN x y z w = 2 := by unfold encN; rw [if_neg c0, if_pos ⟨⟨by omega, c2⟩, hy⟩]
      have hn : 1 < n := by rcases Nat.lt_or_ge 1 n with h | h; · exact h
                            · have := e1 (by omega); omega
      have := h1 hn
      rw [‹encN x y z w = 2›]; unfold Lib.decodeN valN
      rw [if_neg (by omega), if_pos ⟨by omega, hn, by omega⟩, if_pos (by omega)]
      simp [this.1]
    · have : encN x y z w = 0 := by unfold encN; (repeat' split) <;> omega
      rw [this, if_pos rfl]; unfold Lib.decodeN
      repeat' split
      all_goals first | rfl | (exfalso; omega)
  by_cases c3 : x ≤ 239
  · by_cases hy : (128 ≤ z ∧ z ≤ 191) ∧ ((x = 224 ∧ 160 ≤ y ∧ y ≤ 191) ∨ ((225 ≤ x ∧ x ≤ 236) ∧ 128 ≤ y ∧ y ≤ 191) ∨ (x = 237 ∧ 128 ≤ y ∧ y ≤ 159) ∨ ((238 ≤ x ∧ x ≤ 239) ∧ 128 ≤ y ∧ y ≤ 191))
    · have : encN x y z w = 3 := by unfold encN; rw [if_neg c0, if_neg (by omega), if_pos hy]
      have hn : 2 < n := by rcases Nat.lt_or_ge 2 n with h | h; · exact h
                            · have := e2 (by omega); omega
      have hh1 := h1 (by omega)
      have hh2 := h2 hn
      rw [this]; unfold Lib.decodeN valN
      rw [if_neg (by omega), if_neg (by omega), if_pos ⟨by omega, ⟨by omega, by omega⟩, hn, by omega⟩, if_pos (by omega)]
      simp [hh1.1, hh2.1]
    · have : encN x y z w = 0 := by unfold encN; (repeat' split) <;> omega
      rw [this, if_pos rfl]; unfold Lib.decodeN
      repeat' split
      all_goals first | rfl | (exfalso; omega)
  · by_cases hy : (128 ≤ z ∧ z ≤ 191) ∧ (128 ≤ w ∧ w ≤ 191) ∧ ((x = 240 ∧ 144 ≤ y ∧ y ≤ 191) ∨ ((241 ≤ x ∧ x ≤ 243) ∧ 128 ≤ y ∧ y ≤ 191) ∨ (x = 244 ∧ 128 ≤ y ∧ y ≤ 143))
    · have : encN x y z w = 4 := by unfold encN; rw [if_neg c0, if_neg (by omega), if_neg (by omega), if_pos hy]
      have hn : 3 < n := by rcases Nat.lt_or_ge 3 n with h | h; · exact h
                            · have := e3 (by omega); omega
      have hh1 := h1 (by omega)
      have hh2 := h2 (by omega)
      have hh3 := h3 hn
      rw [this]; unfold Lib.decodeN valN
      rw [if_neg (by omega), if_neg (by omega), if_neg (by omega), if_pos ⟨by omega, ⟨by omega, by omega⟩, ⟨by omega, by omega⟩, hn, by omega⟩, if_pos (by omega)]
      simp [hh1.1, hh2.1, hh3.1]
    · have : encN x y z w = 0 := by unfold encN; (repeat' split) <;> omega
      rw [this, if_pos rfl]; unfold Lib.decodeN
      repeat' split
      all_goals first | rfl | (exfalso; omega)

/- The model's own decoding. -/
theorem decode_stp (l : List UInt8) (p : Nat) (hp : p < l.length) : Utf8.decode ⟨l.toArray⟩ p = ((stp (l.drop p)).r, (stp (l.drop p)).w) := by
  have hg : ∀ i, ((⟨l.toArray⟩ : ByteArray).get! i).toNat = if i < l.length then byt l i else 0 := by
    intro i
    show (l.toArray[i]!).toNat = _
    split
    · rename_i h; rw [(byt_lt h).1]; simp [h]
    · rename_i h; simp [h]; rfl
  rw [Lib.decode_at]
  simp only [hg]
  have hsz : (⟨l.toArray⟩ : ByteArray).size = l.length := by simp [ByteArray.size]
  rw [hsz]
  have hb := fun i => byt_le l i
  have h0 := byt_lt hp
  rw [if_pos hp]
  have hd : ∀ i, byt (l.drop p) i = byt l (p + i) := byt_drop l p
  unfold stp val enc
  simp only [hd, Nat.add_zero]
  have g1 : (p + 1 < l.length → byt l (p + 1) < 256) := fun h => (byt_lt h).2
  have g2 : (p + 2 < l.length → byt l (p + 2) < 256) := fun h => (byt_lt h).2
  have g3 : (p + 3 < l.length → byt l (p + 3) < 256) := fun h => (byt_lt h).2
  have e1 : (¬ p + 1 < l.length → byt l (p + 1) = 256) := fun h => byt_ge (by omega)
  have e2 : (¬ p + 2 < l.length → byt l (p + 2) = 256) := fun h => byt_ge (by omega)
  have e3 : (¬ p + 3 < l.length → byt l (p + 3) = 256) := fun h => byt_ge (by omega)
  have h00 := h0.2
  generalize byt l p = x at *
  generalize byt l (p + 1) = y at *
  generalize byt l (p + 2) = z at *
  generalize byt l (p + 3) = w at *
  clear hg hd hb hsz h0
  rw [decodeN_enc (l.length - p) x y z w _ _ _ h00 (fun h => by rw [if_pos (by omega)]; exact ⟨rfl, g1 (by omega)⟩) (fun h => by rw [if_pos (by omega)]; exact ⟨rfl, g2 (by omega)⟩) (fun h => by rw [if_pos (by omega)]; exact ⟨rfl, g3 (by omega)⟩)
    (fun h => e1 (by omega)) (fun h => e2 (by omega)) (fun h => e3 (by omega))]
  split <;> rfl
end Go.Proofs.YtbogoehjoglneaaDoor

/- More steps: indices, a range over a string, a load of a known cell. -/
namespace Go.Proofs.YtbogoehjoglneaaDoor
open Go.RowKit
set_option linter.unusedVariables false
set_option linter.unusedSimpArgs false

section
variable {P : Program} {ops : Array Oper} {rest : List Oper} {a : Act} {Q : Exit → Act → World → Prop} {w w0 : World} {B : Nat → Prop} {M : Mem} {L : List (Nat × Obj)}

theorem run_part_ldv {T : TypeId} {agg : Bool} {z : List Value} [TI P T agg z] {cl : List Value} {off : Nat} {v : Value} (hv : ldv agg z.length cl off = some v) : (part T cl.toArray off).run P w = .ok v w := by
  unfold part
  rw [Sem.run_bind, TI.isAgg w]
  unfold ldv at hv
  cases agg with
  | false =>
    simp only [Bool.false_eq_true, if_false] at hv
    simp [Result.andThen, hv]
  | true =>
    simp only [if_true] at hv
    split at hv
    · simp only [Result.andThen, if_true, Sem.run_bind, TI.sizeOf w, Sem.run_pure]
      rw [← Option.some.inj hv]
      congr 3
      simp [List.extract]
      try omega
    · cases hv

/- x[i] of an array's value. -/
theorem st_index_arr {d : Option Tmp} {T e ty : TypeId} {x ix : Operand} {ps : String} {af : Array Edge} {g : Option (Nat × Bool)} {n : Nat} {agg : Bool} {z : List Value} [TI P e agg z] {cl : List Value} {j : Int} {v : Value}
    (hw : Region.wanted { dst := d, op := .index T x ix, type := ty, pos := ps, after := af, guard := g } (yielded ops a.tmps) = true)
    (hT : P.underlying T = some (.array n e)) (hx : a.eval x = .agg cl.toArray) (hi : a.eval ix = .int .i64 j) (hj : 0 ≤ j ∧ j < n) (hv : ldv agg z.length cl (j.toNat * z.length) = some v)
    (k : wpList P ops Q rest (a.put d v) w) : wpList P ops Q ({ dst := d, op := .index T x ix, type := ty, pos := ps, after := af, guard := g } :: rest) a w := by
  refine wpList_ok (v := v) (w' := w) hw ?_ k
  simp only [execOp, hx, hi, Instr.index, asIntOf, Sem.run_bind, Sem.run_pure, run_underlying hT, Result.andThen, if_pos hj, TI.sizeOf (P := P) (T := e) w, run_part_ldv (P := P) (T := e) (w := w) hv]

theorem get_byt {l : List UInt8} {i : Nat} (h : i < l.length) : (sOf l)[i]? = some (l[i]'h) := by
  have hs : i < (sOf l).size := by rw [sOf_size]; exact h
  rw [getElem?_pos (sOf l) i hs]
  rfl

/- s[i] of a string. -/
theorem st_index_str {d : Option Tmp} {T ty : TypeId} {x ix : Operand} {ps : String} {af : Array Edge} {g : Option (Nat × Bool)} {l : List UInt8} {j : Int}
    (hw : Region.wanted { dst := d, op := .index T x ix, type := ty, pos := ps, after := af, guard := g } (yielded ops a.tmps) = true)
    (hT : P.underlying T = some .string) (hx : a.eval x = .string (sOf l)) (hi : a.eval ix = .int .i64 j) (hj : 0 ≤ j ∧ j < l.length)
    (k : wpList P ops Q rest (a.put d (.int .u8 (byt l j.toNat))) w) : wpList P ops Q ({ dst := d, op := .index T x ix, type := ty, pos := ps, after := af, guard := g } :: rest) a w := by
  refine wpList_ok (v := .int .u8 (byt l j.toNat)) (w' := w) hw ?_ k
  have hlt : j.toNat < l.length := by omega
  simp only [execOp, hx, hi, Instr.index, asIntOf, Sem.run_bind, Sem.run_pure, run_underlying hT, Result.andThen, if_pos hj.1, get_byt hlt, (byt_lt hlt).1]

/- &b[i] of a slice of bytes. -/
theorem st_indexAddr_bs {d : Option Tmp} {T e ty : TypeId} {x ix : Operand} {ps : String} {af : Array Edge} {g : Option (Nat × Bool)} {A : Option Addr} {n c : Nat} {l : List UInt8} {j : Int}
    (hw : Region.wanted { dst := d, op := .indexAddr T x ix, type := ty, pos := ps, after := af, guard := g } (yielded ops a.tmps) = true)
    (hT : P.underlying T = some (.slice e)) (he : (P.info? e).map (·.size) = some 1) (hx : a.eval x = .slice A n c) (hb : BS M A c l) (hn : n = l.length) (hi : a.eval ix = .int .i64 j) (hj : 0 ≤ j ∧ j < l.length)
    (k : ∀ b o, cellM M b o = some (.int .u8 (byt l j.toNat)) → wpList P ops Q rest (a.put d (.pointer (some ⟨b, o, Option.none⟩))) w) :
    wpList P ops Q ({ dst := d, op := .indexAddr T x ix, type := ty, pos := ps, after := af, guard := g } :: rest) a w := by
  have hlt : j.toNat < l.length := by omega
  cases A with
  | none => rw [hb.nil rfl] at hlt; simp at hlt
  | some ad =>
    obtain ⟨h1, h2⟩ := hb.at_ ad rfl
    obtain ⟨b, off, sp⟩ := ad
    simp only at h1 h2
    subst h1
    have hsz : (sizeOf e).run P w = .ok 1 w := by
      cases hu : P.info? e with
      | none => rw [hu] at he; cases he
      | some q => rw [hu] at he; simp only [Option.map_some, Option.some.injEq] at he; simp [sizeOf, typeInfo, hu, he]
    refine wpList_ok (v := .pointer (some ⟨b, off + j.toNat, Option.none⟩)) (w' := w) hw ?_ (k b (off + j.toNat) (by rw [h2 _ hlt, (byt_lt hlt).1]; rfl))
    have hj' : 0 ≤ j ∧ j < (n : Int) := by rw [hn]; exact hj
    simp [execOp, hx, hi, Instr.indexAt, asIntOf, run_underlying hT, Result.andThen, hj', hsz, Addr.add_lit]

/- A load of a cell of immutable memory. -/
theorem st_load_cellM {d : Option Tmp} {T ty : TypeId} {x : Operand} {ps : String} {af : Array Edge} {g : Option (Nat × Bool)} {z : List Value} [TI P T false z] {b off : Nat} {v : Value}
    (hw : Region.wanted { dst := d, op := .load T x, type := ty, pos := ps, after := af, guard := g } (yielded ops a.tmps) = true) (HS : St B w0 w M L) (hx : a.eval x = .pointer (some ⟨b, off, Option.none⟩))
    (hc : cellM M b off = some v) (k : wpList P ops Q rest (a.put d v) w) :
    wpList P ops Q ({ dst := d, op := .load T x, type := ty, pos := ps, after := af, guard := g } :: rest) a w := by
  refine wpList_ok (v := v) (w' := w) hw ?_ k
  have hcell := HS.imm.cell hc
  have hl : (loadVar T ⟨b, off, Option.none⟩).run P w = .ok v w := by
    unfold loadVar
    rw [Sem.run_bind, TI.isAgg w]
    simp only [Result.andThen, Bool.false_eq_true, if_false, run_load, hcell]
  simp only [execOp, hx, Instr.loadAt, Instr.sureAddr, Sem.run_bind, Sem.run_pure, Result.andThen, hl]

/- 'range s': a new iterator. -/
theorem st_range_str {d : Option Tmp} {T ty : TypeId} {x : Operand} {ps : String} {af : Array Edge} {g : Option (Nat × Bool)} {s : ByteArray}
    (hw : Region.wanted { dst := d, op := .range T x, type := ty, pos := ps, after := af, guard := g } (yielded ops a.tmps) = true)
    (hT : P.underlying T = some .string) (HS : St B w0 w M L) (hx : a.eval x = .string s)
    (k : ∀ (b : Nat) (w' : World), St B w0 w' M ((b, .stringIter s 0) :: L) → wpList P ops Q rest (a.put d (.pointer (some ⟨b, 0, Option.none⟩))) w') :
    wpList P ops Q ({ dst := d, op := .range T x, type := ty, pos := ps, after := af, guard := g } :: rest) a w := by
  refine wpList_ok (v := .pointer (some ⟨w.heap.size, 0, Option.none⟩)) (w' := w.alloc (.stringIter s 0)) hw ?_ (k _ _ (HS.alloc _))
  have := run_range_string (P := P) w T s hT
  simp only [execOp, hx, Sem.run_bind, this, Result.andThen, Sem.run_pure]
  rfl

theorem run_next_str {b pos : Nat} {l : List UInt8} (h : w.heap[b]? = some (.stringIter (sOf l) pos)) (hp : pos < l.length) (ty : TypeId) :
    (Instr.next (.pointer (some ⟨b, 0, Option.none⟩)) true ty).run P w = .ok (.tuple #[.bool true, .int .i64 pos, .int .i32 (stp (l.drop pos)).r]) (putB w b (.stringIter (sOf l) (pos + (stp (l.drop pos)).w))) := by
  have hd := decode_stp l pos hp
  have hlt : pos < (sOf l).size := by rw [sOf_size]; exact hp
  have hd' : Utf8.decode (sOf l) pos = ((stp (l.drop pos)).r, (stp (l.drop pos)).w) := hd
  simp [Instr.next, getObj, setObj, Sem.run, h, Result.andThen, hlt, hd', goInt, putB]

theorem run_next_str_end {b pos : Nat} {l : List UInt8} (h : w.heap[b]? = some (.stringIter (sOf l) pos)) (hp : ¬ pos < l.length) (ty : TypeId) :
    (Instr.next (.pointer (some ⟨b, 0, Option.none⟩)) true ty).run P w = .ok (.tuple #[.bool false]) w := by
  have hlt : ¬ pos < (sOf l).size := by rw [sOf_size]; exact hp
  simp [Instr.next, getObj, Sem.run, h, hlt]

theorem st_next_str {d : Option Tmp} {ty : TypeId} {x : Operand} {ps : String} {af : Array Edge} {g : Option (Nat × Bool)} {b pos : Nat} {l : List UInt8} {L' : List (Nat × Obj)}
    (hw : Region.wanted { dst := d, op := .next x true, type := ty, pos := ps, after := af, guard := g } (yielded ops a.tmps) = true)
    (HS : St B w0 w M L) (hx : a.eval x = .pointer (some ⟨b, 0, Option.none⟩)) (hp : pos < l.length)
    (hr : Rep1 b (.stringIter (sOf l) pos) (.stringIter (sOf l) (pos + (stp (l.drop pos)).w)) L L')
    (k : ∀ (w' : World), St B w0 w' M L' → wpList P ops Q rest (a.put d (.tuple #[.bool true, .int .i64 pos, .int .i32 (stp (l.drop pos)).r])) w') :
    wpList P ops Q ({ dst := d, op := .next x true, type := ty, pos := ps, after := af, guard := g } :: rest) a w := by
  refine wpList_ok (v := .tuple #[.bool true, .int .i64 pos, .int .i32 (stp (l.drop pos)).r]) (w' := putB w b (.stringIter (sOf l) (pos + (stp (l.drop pos)).w))) hw ?_ (k _ (HS.putB hr))
  have := run_next_str (P := P) (HS.loc _ hr.mem) hp ty
  simp only [execOp, hx, Sem.run_bind, this, Result.andThen, Sem.run_pure]

theorem st_next_str_end {d : Option Tmp} {ty : TypeId} {x : Operand} {ps : String} {af : Array Edge} {g : Option (Nat × Bool)} {b pos : Nat} {l : List UInt8}
    (hw : Region.wanted { dst := d, op := .next x true, type := ty, pos := ps, after := af, guard := g } (yielded ops a.tmps) = true)
    (HS : St B w0 w M L) (hx : a.eval x = .pointer (some ⟨b, 0, Option.none⟩)) (hp : ¬ pos < l.length) (hm : (b, .stringIter (sOf l) pos) ∈ L)
    (k : wpList P ops Q rest (a.put d (.tuple #[.bool false])) w) :
    wpList P ops Q ({ dst := d, op := .next x true, type := ty, pos := ps, after := af, guard := g } :: rest) a w := by
  refine wpList_ok (v := .tuple #[.bool false]) (w' := w) hw ?_ k
  have := run_next_str_end (P := P) (HS.loc _ hm) hp ty
  simp only [execOp, hx, Sem.run_bind, this, Result.andThen, Sem.run_pure]
end

/-! The soft steps of a plan. -/
def nth : List Oper → Nat → Option Oper
  | [], _ => Option.none
  | o :: _, 0 => some o
  | _ :: l, i + 1 => nth l i
theorem nth_eq : ∀ (l : List Oper) (i : Nat), nth l i = l[i]?
  | [], i => by cases i <;> rfl
  | o :: l, 0 => rfl
  | o :: l, i + 1 => by simp [nth, nth_eq l i]
theorem nth_arr {l : List Oper} {i : Nat} {o : Oper} (h : nth l i = some o) : l.toArray[i]? = some o := by
  rw [nth_eq] at h; simpa using h

section
variable {P : Program} {ops : List Oper} {Q : Exit → Act → World → Prop} {S : World → Prop} {brk : Nat → Bool} {r : List (Bool × Nat)} {i : Nat} {a : Act} {w : World}

theorem dSoft {o : Oper} {v : Value} (hi : nth ops i = some o) (hw : Region.wanted o (yielded ops.toArray a.tmps) = true) (hy : ∀ w, S w → (execOp a.eval o).run P w = .ok (.value v) w)
    (k : lexD P ops.toArray Q S brk r (a.put o.dst v) w) : lexD P ops.toArray Q S brk ((true, i) :: r) a w := lexD_soft (nth_arr hi) hw hy k
theorem dSkip {o : Oper} (hi : nth ops i = some o) (hw : Region.wanted o (yielded ops.toArray a.tmps) = false)
    (k : lexD P ops.toArray Q S brk r (a.put o.dst undef) w) : lexD P ops.toArray Q S brk ((true, i) :: r) a w := lexD_skip (nth_arr hi) hw k
theorem dHard {o : Oper} (hi : nth ops i = some o)
    (k : wpList P ops.toArray (exitD Q (fun a' w' => (brk i = false → S w') ∧ lexD P ops.toArray Q S brk r a' w')) [o] a w) : lexD P ops.toArray Q S brk ((false, i) :: r) a w := lexD_hard (nth_arr hi) k

theorem dLoad {d : Option Tmp} {T ty : TypeId} {x : Operand} {ps : String} {af : Array Edge} {g : Option (Nat × Bool)} {agg : Bool} {z : List Value} [TI P T agg z] {B : Nat → Prop} {w0 : World} {M : Mem} {L : List (Nat × Obj)} {b off : Nat} {cl : List Value} {t : TypeId} {fr : Nat × Nat} {v : Value}
    (hi : nth ops i = some { dst := d, op := .load T x, type := ty, pos := ps, after := af, guard := g }) (hw : Region.wanted { dst := d, op := .load T x, type := ty, pos := ps, after := af, guard := g } (yielded ops.toArray a.tmps) = true)
    (HS : ∀ w, S w → St B w0 w M L) (hx : a.eval x = .pointer (some ⟨b, off, Option.none⟩)) (hb : Blk M L b (.cells cl.toArray t fr)) (hv : ldv agg z.length cl off = some v)
    (k : lexD P ops.toArray Q S brk r (a.put d v) w) : lexD P ops.toArray Q S brk ((true, i) :: r) a w :=
  dSoft hi hw (fun w h => yields_load (HS w h) hx hb hv) k

theorem dLoadC {d : Option Tmp} {T ty : TypeId} {x : Operand} {ps : String} {af : Array Edge} {g : Option (Nat × Bool)} {z : List Value} [TI P T false z] {B : Nat → Prop} {w0 : World} {M : Mem} {L : List (Nat × Obj)} {b off : Nat} {v : Value}
    (hi : nth ops i = some { dst := d, op := .load T x, type := ty, pos := ps, after := af, guard := g }) (hw : Region.wanted { dst := d, op := .load T x, type := ty, pos := ps, after := af, guard := g } (yielded ops.toArray a.tmps) = true)
    (HS : ∀ w, S w → St B w0 w M L) (hx : a.eval x = .pointer (some ⟨b, off, Option.none⟩)) (hc : cellM M b off = some v)
    (k : lexD P ops.toArray Q S brk r (a.put d v) w) : lexD P ops.toArray Q S brk ((true, i) :: r) a w :=
  dSoft hi hw (fun w h => by
    have hcell := (HS w h).imm.cell hc
    have hl : (loadVar T ⟨b, off, Option.none⟩).run P w = .ok v w := by
      unfold loadVar
      rw [Sem.run_bind, TI.isAgg w]
      simp only [Result.andThen, Bool.false_eq_true, if_false, run_load, hcell]
    simp only [execOp, hx, Instr.loadAt, Instr.sureAddr, Sem.run_bind, Sem.run_pure, Result.andThen, hl]) k

/- The same steps with their side goals closed by themselves. -/
theorem a_dSoft {o : Oper} {v : Value} (hi : nth ops i = some o) (k : lexD P ops.toArray Q S brk r (a.put o.dst v) w)
    (hw : Region.wanted o (yielded ops.toArray a.tmps) = true := by first | rfl | (go_simp; done) | fail) (hy : ∀ w, S w → (execOp a.eval o).run P w = .ok (.value v) w := by first | (intro w_ hw_; go_simp; done) | (intro w_ hw_; go_simp; rfl) | fail) : lexD P ops.toArray Q S brk ((true, i) :: r) a w := dSoft hi hw hy k
theorem a_dLoad {d : Option Tmp} {T ty : TypeId} {x : Operand} {ps : String} {af : Array Edge} {g : Option (Nat × Bool)} {agg : Bool} {z : List Value} [TI P T agg z] {B : Nat → Prop} {w0 : World} {M : Mem} {L : List (Nat × Obj)} {b off : Nat} {cl : List Value} {t : TypeId} {fr : Nat × Nat} {v : Value}
    (hi : nth ops i = some { dst := d, op := .load T x, type := ty, pos := ps, after := af, guard := g }) (HS : ∀ w, S w → St B w0 w M L) (k : lexD P ops.toArray Q S brk r (a.put d v) w)
    (hw : Region.wanted { dst := d, op := .load T x, type := ty, pos := ps, after := af, guard := g } (yielded ops.toArray a.tmps) = true := by first | rfl | (go_simp; done) | fail) (hx : a.eval x = .pointer (some ⟨b, off, Option.none⟩) := by first | exact eval_lit rfl | rfl | fail) (hb : Blk M L b (.cells cl.toArray t fr) := by first | (first | (apply Blk.loc; (repeat (first | (with_reducible exact List.mem_cons_self) | apply List.mem_cons_of_mem)); done) | (apply Blk.imm; with_reducible assumption)) | fail) (hv : ldv agg z.length cl off = some v := by first | (simp only [ldv, List.length_cons, List.length_nil, List.drop_succ_cons, List.drop_zero, List.take_succ_cons, List.take_zero, List.getElem?_cons_succ, List.getElem?_cons_zero, Nat.reduceAdd, Nat.reduceMul, Nat.reduceLeDiff, Int.toNat_natCast, Int.toNat_zero, Int.toNat_one, Int.reduceToNat, Bool.false_eq_true, if_true, if_false, Nat.zero_add, Nat.zero_mul, Nat.one_mul]; exact rfl) | fail) : lexD P ops.toArray Q S brk ((true, i) :: r) a w :=
  dLoad hi hw HS hx hb hv k
theorem a_dLoadC {d : Option Tmp} {T ty : TypeId} {x : Operand} {ps : String} {af : Array Edge} {g : Option (Nat × Bool)} {z : List Value} [TI P T false z] {B : Nat → Prop} {w0 : World} {M : Mem} {L : List (Nat × Obj)} {b off : Nat} {v : Value}
    (hi : nth ops i = some { dst := d, op := .load T x, type := ty, pos := ps, after := af, guard := g }) (HS : ∀ w, S w → St B w0 w M L) (k : lexD P ops.toArray Q S brk r (a.put d v) w)
    (hw : Region.wanted { dst := d, op := .load T x, type := ty, pos := ps, after := af, guard := g } (yielded ops.toArray a.tmps) = true := by first | rfl | (go_simp; done) | fail) (hx : a.eval x = .pointer (some ⟨b, off, Option.none⟩) := by first | exact eval_lit rfl | rfl | fail) (hc : cellM M b off = some v := by first | assumption | fail) : lexD P ops.toArray Q S brk ((true, i) :: r) a w :=
  dLoadC hi hw HS hx hc k

/- A sum or difference of two ints that stays within int. -/
theorem run_arith (op : BinOp) (T : TypeId) (hT : P.underlying T = some (.int .i64)) (x y : Int) (z : Int) (hz : (op = .add ∧ z = x + y) ∨ (op = .sub ∧ z = x - y)) (hb : -9223372036854775808 ≤ z ∧ z ≤ 9223372036854775807) :
    (binOp op T (.int .i64 x) (.int .i64 y)).run P w = .ok (.int .i64 z) w := by
  have hwr : IntKind.i64.wrap z = z := IntWalk.i64_in _ (by omega)
  rcases hz with ⟨rfl, rfl⟩ | ⟨rfl, rfl⟩ <;> (simp [go_sem]; try exact hwr)

theorem dAdd {d : Option Tmp} {T T' ty : TypeId} {x y : Operand} {ps : String} {af : Array Edge} {g : Option (Nat × Bool)} {m n : Int} (hT : P.underlying T = some (.int .i64))
    (hi : nth ops i = some { dst := d, op := .binOp .add T x y T', type := ty, pos := ps, after := af, guard := g }) (hw : Region.wanted { dst := d, op := .binOp .add T x y T', type := ty, pos := ps, after := af, guard := g } (yielded ops.toArray a.tmps) = true)
    (hx : a.eval x = .int .i64 m) (hy : a.eval y = .int .i64 n) (hb : -9223372036854775808 ≤ m + n ∧ m + n ≤ 9223372036854775807)
    (k : lexD P ops.toArray Q S brk r (a.put d (.int .i64 (m + n))) w) : lexD P ops.toArray Q S brk ((true, i) :: r) a w :=
  dSoft hi hw (fun w _ => by simp only [execOp, hx, hy, eqGuard_add, Sem.run_bind, Sem.run_pure, Result.andThen, run_arith (P := P) (w := w) .add T hT m n (m + n) (.inl ⟨rfl, rfl⟩) hb]) k
theorem dSub {d : Option Tmp} {T T' ty : TypeId} {x y : Operand} {ps : String} {af : Array Edge} {g : Option (Nat × Bool)} {m n : Int} (hT : P.underlying T = some (.int .i64))
    (hi : nth ops i = some { dst := d, op := .binOp .sub T x y T', type := ty, pos := ps, after := af, guard := g }) (hw : Region.wanted { dst := d, op := .binOp .sub T x y T', type := ty, pos := ps, after := af, guard := g } (yielded ops.toArray a.tmps) = true)
    (hx : a.eval x = .int .i64 m) (hy : a.eval y = .int .i64 n) (hb : -9223372036854775808 ≤ m - n ∧ m - n ≤ 9223372036854775807)
    (k : lexD P ops.toArray Q S brk r (a.put d (.int .i64 (m - n))) w) : lexD P ops.toArray Q S brk ((true, i) :: r) a w :=
  dSoft hi hw (fun w _ => by simp only [execOp, hx, hy, eqGuard_sub, Sem.run_bind, Sem.run_pure, Result.andThen, run_arith (P := P) (w := w) .sub T hT m n (m - n) (.inr ⟨rfl, rfl⟩) hb]) k

theorem dConvBS {d : Option Tmp} {Sx D e ty : TypeId} {x : Operand} {ps : String} {af : Array Edge} {g : Option (Nat × Bool)} {A : Option Addr} {n c : Nat} {l : List UInt8} {B : Nat → Prop} {w0 : World} {M : Mem} {L : List (Nat × Obj)}
    (hi : nth ops i = some { dst := d, op := .convert Sx D x, type := ty, pos := ps, after := af, guard := g }) (hw : Region.wanted { dst := d, op := .convert Sx D x, type := ty, pos := ps, after := af, guard := g } (yielded ops.toArray a.tmps) = true)
    (hs : P.underlying Sx = some (.slice e)) (he : P.underlying e = some (.int .u8)) (hd : P.underlying D = some .string)
    (HS : ∀ w, S w → St B w0 w M L) (hx : a.eval x = .slice A n c) (hb : BS M A c l) (hn : n = l.length)
    (k : lexD P ops.toArray Q S brk r (a.put d (.string (sOf l))) w) : lexD P ops.toArray Q S brk ((true, i) :: r) a w :=
  dSoft hi hw (fun w h => by simp only [execOp, hx, Sem.run_bind, run_conv_bs hs he hd (HS w h).imm hb hn, Result.andThen, Sem.run_pure]) k

theorem dSliceB {d : Option Tmp} {T e ty : TypeId} {x : Operand} {lo hi' : Option Operand} {ps : String} {af : Array Edge} {g : Option (Nat × Bool)} {A : Option Addr} {n c : Nat} {l : List UInt8} {M : Mem} (p q : Nat)
    (hi : nth ops i = some { dst := d, op := .slice T x lo hi' Option.none, type := ty, pos := ps, after := af, guard := g }) (hw : Region.wanted { dst := d, op := .slice T x lo hi' Option.none, type := ty, pos := ps, after := af, guard := g } (yielded ops.toArray a.tmps) = true)
    (hs : P.underlying T = some (.slice e)) (he : (P.info? e).map (·.size) = some 1)
    (hx : a.eval x = .slice A n c) (hb : BS M A c l) (hn : n = l.length) (hij : sliceEnds n (lo.map a.eval) (hi'.map a.eval) p q)
    (k : ∀ A', BS M A' (c - p) ((l.take q).drop p) → lexD P ops.toArray Q S brk r (a.put d (.slice A' (q - p) (c - p))) w) : lexD P ops.toArray Q S brk ((true, i) :: r) a w := by
  have hj := hij.2.2
  have hsz : ∀ w, (sizeOf e).run P w = .ok 1 w := fun w => by
    cases hu : P.info? e with
    | none => rw [hu] at he; cases he
    | some q => rw [hu] at he; simp only [Option.map_some, Option.some.injEq] at he; simp [sizeOf, typeInfo, hu, he]
  have hcap : n ≤ c := by rw [hn]; exact hb.cap
  exact dSoft (v := .slice (if c = p then A else A.map (·.add (p * 1))) (q - p) (c - p)) hi hw
    (fun w _ => by simp only [execOp, hx, Instr.sliceAt, Sem.run_bind, run_underlying hs, Result.andThen, Option.map_none, Instr.slice, run_sliceBounds (P := P) (w := w) (b := true) hij hcap, hsz, Sem.run_pure]) (k _ (hb.slice hj.1 (hn ▸ hj.2)))

theorem dSliceS {d : Option Tmp} {T ty : TypeId} {x : Operand} {lo hi' : Option Operand} {ps : String} {af : Array Edge} {g : Option (Nat × Bool)} {l : List UInt8} (p q : Nat)
    (hi : nth ops i = some { dst := d, op := .slice T x lo hi' Option.none, type := ty, pos := ps, after := af, guard := g }) (hw : Region.wanted { dst := d, op := .slice T x lo hi' Option.none, type := ty, pos := ps, after := af, guard := g } (yielded ops.toArray a.tmps) = true)
    (hs : P.underlying T = some .string) (hx : a.eval x = .string (sOf l)) (hij : sliceEnds l.length (lo.map a.eval) (hi'.map a.eval) p q)
    (k : lexD P ops.toArray Q S brk r (a.put d (.string (sOf ((l.take q).drop p)))) w) : lexD P ops.toArray Q S brk ((true, i) :: r) a w := by
  have hij' := hij
  rw [← sOf_size l] at hij'
  exact dSoft hi hw (fun w _ => by simp only [execOp, hx, Instr.sliceAt, Sem.run_bind, run_underlying hs, Result.andThen, Option.map_none, Option.isSome_none, Bool.false_eq_true, if_false, Instr.slice, run_sliceBounds (P := P) (w := w) (b := false) hij' (Nat.le_refl _), Sem.run_pure, sOf_extract]) k

theorem dIdxB {d : Option Tmp} {T e ty : TypeId} {x ix : Operand} {ps : String} {af : Array Edge} {g : Option (Nat × Bool)} {A : Option Addr} {n c : Nat} {l : List UInt8} {j : Int} {M : Mem}
    (hi : nth ops i = some { dst := d, op := .indexAddr T x ix, type := ty, pos := ps, after := af, guard := g }) (hw : Region.wanted { dst := d, op := .indexAddr T x ix, type := ty, pos := ps, after := af, guard := g } (yielded ops.toArray a.tmps) = true)
    (hT : P.underlying T = some (.slice e)) (he : (P.info? e).map (·.size) = some 1) (hx : a.eval x = .slice A n c) (hb : BS M A c l) (hn : n = l.length) (hix : a.eval ix = .int .i64 j) (hj : 0 ≤ j ∧ j < l.length)
    (k : ∀ b o, cellM M b o = some (.int .u8 (byt l j.toNat)) → lexD P ops.toArray Q S brk r (a.put d (.pointer (some ⟨b, o, Option.none⟩))) w) :
    lexD P ops.toArray Q S brk ((true, i) :: r) a w := by
  have hlt : j.toNat < l.length := by omega
  cases A with
  | none => rw [hb.nil rfl] at hlt; simp at hlt
  | some ad =>
    obtain ⟨h1, h2⟩ := hb.at_ ad rfl
    obtain ⟨b, off, sp⟩ := ad
    simp only at h1 h2
    subst h1
    have hsz : ∀ w, (sizeOf e).run P w = .ok 1 w := fun w => by
      cases hu : P.info? e with
      | none => rw [hu] at he; cases he
      | some q => rw [hu] at he; simp only [Option.map_some, Option.some.injEq] at he; simp [sizeOf, typeInfo, hu, he]
    have hj' : 0 ≤ j ∧ j < (n : Int) := by rw [hn]; exact hj
    exact dSoft (v := .pointer (some ⟨b, off + j.toNat, Option.none⟩)) hi hw (fun w _ => by simp [execOp, hx, hix, Instr.indexAt, asIntOf, run_underlying hT, Result.andThen, hj', hsz, Addr.add_lit]) (k b (off + j.toNat) (by rw [h2 _ hlt, (byt_lt hlt).1]; rfl))
end
end Go.Proofs.YtbogoehjoglneaaDoor

/- A range over a function: the contract of an iterator (SeqC), the statement's law over the state St, a call of yield, the walk in a round's frame by the plain walk's laws, the return behind the mark. No Go function is named here. -/
namespace Go.Proofs.YtbogoehjoglneaaDoor
open Go.RowKit
set_option linter.unusedVariables false
set_option linter.unusedSimpArgs false

/- The plain walk's laws in a round. -/
def noDefer : Oper → Bool
  | o => match o.op with | .defer _ => false | _ => true
def noDefers (l : List Oper) : Bool := l.all noDefer

theorem semAt_noDefer {r : Option Nat} {ρ : Operand → Value} {o : Oper} (h : noDefer o = true) : Oper.semAt r ρ o = execOp ρ o := by
  cases r with
  | none => exact Oper.semAt_none ρ o
  | some l =>
    refine Oper.semAt_some l ρ o fun c hc => ?_
    simp [noDefer, hc] at h

abbrev Wide (r : Option Nat) : Fence := { Fence.wide with round := r }

theorem uponIn_of_upon {r : Option Nat} {P : Program} {o : Oper} {a : Act} {K K' : Act → World → Prop} {Q : Exit → Act → World → Prop} (hK : ∀ a w, K a w → K' a w) :
    ∀ x : Result Next, o.upon P a K Q x → o.uponIn (Wide r) 0 P a K' Q x
  | .ok x w, h => by
    cases x <;> simp only [Oper.upon, Oper.uponIn] at h ⊢ <;> first
      | exact hK _ _ h
      | exact h.elim
      | (refine ⟨fun hd => (by cases hd), ?_⟩
         exact (callsIn_wide (n := 0)).2 (h.mono fun e w' he => by cases e <;> first | exact hK _ _ he | exact he))
      | (refine ⟨fun hd => (by cases hd), fun c cs _ => ?_⟩
         obtain ⟨v, w', hr, hs⟩ := h c cs
         exact ⟨v, w', hK _ _ hr, stepsIn_wide.2 hs⟩)
  | .halt x w, h => by
    cases x <;> simp only [Oper.upon, Oper.uponIn] at h ⊢ <;> exact h

theorem wpIn_of_wp {r : Option Nat} {P : Program} {o : Oper} {a : Act} {w : World} {K K' : Act → World → Prop} {Q : Exit → Act → World → Prop} (hd : noDefer o = true) (hK : ∀ a w, K a w → K' a w)
    (h : o.wp P a w K Q) : o.wpIn (Wide r) 0 P a w K' Q :=
  ⟨fun _ _ => trivial, by rw [semAt_noDefer hd]; exact uponIn_of_upon hK _ h⟩

theorem wpListIn_of {r : Option Nat} {P : Program} {ops : Array Oper} {Q : Exit → Act → World → Prop} {K : Act → World → Prop} {rest : List Oper} (hno : ¬ LetsOut Q) (hK : ∀ a w, K a w → wpListIn (Wide r) 0 P ops Q rest a w) :
    ∀ (l : List Oper) (a : Act) (w : World), noDefers l = true → wpList P ops (Exit.then K Q) l a w → wpListIn (Wide r) 0 P ops Q (l ++ rest) a w
  | [], a, w, _, h => hK a w h
  | o :: l, a, w, hd, h => by
    simp only [noDefers, List.all_cons, Bool.and_eq_true] at hd
    have ih := wpListIn_of hno hK l
    unfold wpList at h
    rw [List.cons_append]
    unfold wpListIn
    split
    · rename_i hw
      rw [if_pos hw] at h
      rcases h with h | h
      · exact wpIn_of_wp (Q := Q) hd.1 (fun a w h' => ih a w hd.2 h') (by
          unfold Oper.wp at h ⊢
          revert h
          generalize (execOp a.eval o).run P w = x
          intro h
          cases x with
          | ok x w' => cases x <;> first | exact h | (exact Calls.mono h fun e w'' he => by cases e <;> exact he)
          | halt x w' => cases x <;> exact h)
      · obtain ⟨_, a', w', h⟩ := h
        exact absurd ⟨a', w', h⟩ hno
    · rename_i hw
      rw [if_neg hw] at h
      exact ⟨fun _ _ => trivial, ih _ _ hd.2 h⟩

/- A region in a round, walked by the plain walk. -/
theorem wpIn_region_plain {r : Option Nat} {P : Program} {id : Nat} {l : List Oper} {Q : Exit → Act → World → Prop} {a : Act} {w : World} (hd : noDefers l = true) (hno : ¬ LetsOut Q)
    (h : wpList P l.toArray Q l a w) : (Code.region id l.toArray false).wpIn (Wide r) 0 P Q a w := by
  refine wpIn_region_lit ?_
  have := wpListIn_of (r := r) (rest := []) (K := Q .normal) hno (fun a w h => h) l a w hd (by
    have e : Exit.then (Q .normal) Q = Q := by funext e a w; cases e <;> rfl
    rw [e]; exact h)
  rwa [List.append_nil] at this

theorem wpOpIn_of {r : Option Nat} {P : Program} {ops : Array Oper} {Q : Exit → Act → World → Prop} {K K' : Act → World → Prop} {i : Nat} {a : Act} {w : World} (hno : ¬ LetsOut Q) (hd : noDefers ops.toList = true) (hK : ∀ a w, K a w → K' a w)
    (h : wpOp P ops Q i K a w) : wpOpIn (Wide r) 0 P ops Q i K' a w := by
  unfold wpOp at h
  unfold wpOpIn
  cases hi : ops[i]? with
  | none => simp only [hi] at h ⊢; exact hK _ _ h
  | some o =>
    simp only [hi] at h ⊢
    have hdo : noDefer o = true := List.all_eq_true.1 hd o (by
      obtain ⟨hlt, e⟩ := Array.getElem?_eq_some_iff.1 hi
      rw [← e]; exact Array.getElem_mem_toList hlt)
    split
    · rename_i hw
      rw [if_pos hw] at h
      rcases h with h | h
      · exact wpIn_of_wp hdo hK h
      · exact absurd h.2 hno
    · rename_i hw
      rw [if_neg hw] at h
      exact ⟨fun _ _ => trivial, hK _ _ h⟩

theorem wpAnyIn_of {r : Option Nat} {P : Program} {ops : Array Oper} {Q : Exit → Act → World → Prop} (hno : ¬ LetsOut Q) (hd : noDefers ops.toList = true) : ∀ (fuel : Nat) (listed : Array Bool) (a : Act) (w : World),
    wpAny P .any ops Q fuel listed a w → wpAnyIn (Wide r) 0 P .any ops Q fuel listed a w
  | 0, _, _, _, h => h
  | fuel + 1, listed, a, w, h => ⟨h.1, fun i hi => wpOpIn_of hno hd (fun a' w' h' => wpAnyIn_of hno hd fuel _ a' w' h') (h.2 i hi)⟩

theorem noPan_letsOut {Q : Exit → Act → World → Prop} (h : ¬ LetsOut Q) : ¬ LetsOut (NoPan Q) := fun ⟨a, w, k⟩ => h ⟨a, w, k⟩

theorem wpIn_region_plan {r : Option Nat} {P : Program} {Q : Exit → Act → World → Prop} {id : Nat} {a : Act} {w : World} {l : List Oper} (brks : List Nat) (plan : List (Bool × Nat)) (S : World → Prop) (hno : ¬ LetsOut Q) (hd : noDefers l = true) (hm : P.follows .mixedOrders = true) (hsel : Region.noSelect l.toArray = true) (hn : plan.length = l.length)
    (hp : planOk (isIn brks) l.toArray plan (Array.replicate l.length false) = true) (hS : S w.drew) (h : lexD P l.toArray Q S (isIn brks) plan a w.drew) : (Code.region id l.toArray true).wpIn (Wide r) 0 P Q a w := by
  have := wpAny_of_B _ _ _ _ (wpAnyB_of_plan (P := P) (Q := Q) (S := S) hsel plan _ a w.drew hp (fun _ => hS) h)
  rw [hn] at this
  refine Code.wpIn_mono (fun e a w h => ?_) (wpIn_region_any (Q := NoPan Q) hm (wpAnyIn_of (noPan_letsOut hno) (by simpa using hd) _ _ _ _ (by simpa using this)))
  cases e <;> first | exact h | exact h.elim

/- A region that calls yield: the operations ahead of it and behind it by the plain walk. -/
theorem wp_region_yield {P : Program} {id : Nat} {l : List Oper} {Q : Exit → Act → World → Prop} {a : Act} {w : World} (k : Nat) (hd : noDefers l = true) (hno : ¬ LetsOut Q)
    (h : ∀ K : Act → World → Prop, (∀ a w, wpListIn (Wide none) 0 P l.toArray Q (l.drop k) a w → K a w) → wpList P l.toArray (Exit.then K Q) (l.take k) a w) : (Code.region id l.toArray false).wp P Q a w := by
  refine (wpIn_wide (n := 0)).1 (wpIn_region_lit ?_)
  have := wpListIn_of (r := none) hno (fun a w h => h) (l.take k) a w (by
    unfold noDefers at hd ⊢
    rw [List.all_eq_true] at hd ⊢
    exact fun o ho => hd o (List.mem_of_mem_take ho)) (h _ fun _ _ h => h)
  rwa [List.take_append_drop] at this

theorem st_yield {P : Program} {ops : Array Oper} {rest : List Oper} {Q : Exit → Act → World → Prop} {a : Act} {w : World} {d : Option Tmp} {x : Operand} {l : Nat} {xs : Array Operand} {ts : Array TypeId} {ty : TypeId} {ps : String} {af : Array Edge} {g : Option (Nat × Bool)} {R : Ending → World → Prop} {vs : Array Value}
    (hw : Region.wanted { dst := d, op := .call { callee := .value x, args := xs, argTypes := ts }, type := ty, pos := ps, after := af, guard := g } (yielded ops a.tmps) = true)
    (hx : a.eval x = .func (.yield l) #[] #[]) (hargs : xs.map a.eval = vs) (hd : noDefers rest = true) (hno : ¬ LetsOut Q)
    (hy : YieldAt Fence.wide 0 P l vs w R) (k : ∀ e w', R e w' → ∃ v, e = .returned v ∧ wpList P ops Q rest (a.put d v) w') :
    wpListIn (Wide none) 0 P ops Q ({ dst := d, op := .call { callee := .value x, args := xs, argTypes := ts }, type := ty, pos := ps, after := af, guard := g } :: rest) a w := by
  unfold wpListIn
  rw [if_pos hw]
  obtain ⟨fn, tmps, assign, body, hyr, hr⟩ := hy
  refine ⟨fun _ _ => trivial, ?_⟩
  have hrun : (Oper.semAt (Wide none).round a.eval { dst := d, op := .call { callee := .value x, args := xs, argTypes := ts }, type := ty, pos := ps, after := af, guard := g }).run P w = .ok (.round l fn tmps assign body) w := by
    rw [semAt_noDefer (by rfl)]
    simp only [execOp, resolve, Sem.run_bind, hx, hargs, Sem.run_pure, Result.andThen, invoke, Deferred.ofValue]
    simpa using hyr
  rw [hrun]
  refine ⟨fun hd => (by cases hd), RoundIn.mono hr fun e w' he => ?_⟩
  obtain ⟨v, rfl, h⟩ := k e w' he
  have := wpListIn_of (r := none) (rest := []) (K := Q .normal) hno (fun a w h => h) rest _ _ hd (by
    have e : Exit.then (Q .normal) Q = Q := by funext e a w; cases e <;> rfl
    rw [e]; exact h)
  rwa [List.append_nil] at this

theorem st_noyield {P : Program} {ops : Array Oper} {rest : List Oper} {o : Oper} {Q : Exit → Act → World → Prop} {a : Act} {w : World} (hw : Region.wanted o (yielded ops a.tmps) = false) (hd : noDefers rest = true) (hno : ¬ LetsOut Q)
    (k : wpList P ops Q rest (a.put o.dst undef) w) : wpListIn (Wide none) 0 P ops Q (o :: rest) a w := by
  unfold wpListIn
  rw [if_neg (by rw [hw]; simp)]
  refine ⟨fun _ _ => trivial, ?_⟩
  have := wpListIn_of (r := none) (rest := []) (K := Q .normal) hno (fun a w h => h) rest _ _ hd (by
    have e : Exit.then (Q .normal) Q = Q := by funext e a w; cases e <;> rfl
    rw [e]; exact k)
  rwa [List.append_nil] at this

/- What a round keeps. -/
def Keeps (O : Nat → Prop) (W W' : World) : Prop := ∀ k, O k → W'.heap[k]? = W.heap[k]?
/- Of O' a block is one of O, or was laid between W and W'. -/
def Grown (O O' : Nat → Prop) (W W' : World) : Prop := ∀ k, O' k → O k ∨ (W.heap.size ≤ k ∧ k < W'.heap.size)
/- Blocks that the iterator hands over with an element. -/
structure Fresh (Fr : List (Nat × Obj)) (O : Nat → Prop) (W W' : World) : Prop where
  is : ∀ p ∈ Fr, W.heap.size ≤ p.1 ∧ ¬ O p.1 ∧ W'.heap[p.1]? = some p.2
  nodup : (Fr.map Prod.fst).Nodup

theorem Grown.refl (O : Nat → Prop) (W W' : World) : Grown O O W W' := fun _ h => .inl h
theorem Fresh.nil (O : Nat → Prop) (W W' : World) : Fresh [] O W W' := ⟨fun _ h => (by cases h), List.nodup_nil⟩

/- An iterator's contract: it gives xs one after the other; V: an element's values, and the new blocks that come with it. -/
def SeqC {α : Type} (P : Program) (M : Mem) (g : Nat) (lb : Array Value) (xs : List α) (V : List α → α → Array Value → List (Nat × Obj) → Prop) : Prop :=
  ∀ (l : Nat) (J Jx : List α → (Nat → Prop) → World → Prop) (W : World), Imm M W → (∀ s O W, J s O W → Imm M W) → (∀ s O W, Jx s O W → Imm M W) → J [] (fun _ => False) W →
    (∀ pre x vs Fr O0 O1 W0 W1, (pre ++ [x]) <+: xs → J pre O0 W0 → Moves O0 W0 W1 → Grown O0 O1 W0 W1 → V pre x vs Fr → Fresh Fr O1 W0 W1 →
      YieldAt Fence.wide 0 P l vs W1 fun e W' => (e = .returned (.bool true) ∧ J (pre ++ [x]) O1 W' ∧ Keeps O1 W1 W') ∨ (e = .returned (.bool false) ∧ Jx (pre ++ [x]) O1 W')) →
    CallsIn Fence.wide 0 P g (#[.func (.yield l) #[] #[]] ++ lb) W fun e W' => (∃ v, e = .returned v) ∧ ∃ O0 W0, Moves O0 W0 W' ∧ (J xs O0 W0 ∨ ∃ pre, pre <+: xs ∧ Jx pre O0 W0)

section
variable {B : Nat → Prop} {w0 w : World} {M : Mem} {L : List (Nat × Obj)}

theorem St.perm {L' : List (Nat × Obj)} (h : St B w0 w M L) (hp : L.Perm L') : St B w0 w M L' :=
  ⟨h.moved, h.imm, fun p hm => h.loc p (hp.mem_iff.2 hm), fun p hm => h.base p (hp.mem_iff.2 hm), (hp.map Prod.fst).nodup_iff.1 h.nodup, h.hB⟩
theorem St.less {M' : Mem} (h : St B w0 w M' L) (hm : M.le M') : St B w0 w M L :=
  ⟨h.moved, fun b o e => h.imm b o (hm b o e), h.loc, fun p hp => ⟨(h.base p hp).1, by
    cases e : M p.1 with
    | none => rfl
    | some o => exact absurd (hm _ _ e) (by rw [(h.base p hp).2]; exact fun e => by cases e)⟩, h.nodup, h.hB⟩
theorem St.moves {O : Nat → Prop} {w' : World} (h : St B w0 w M L) (hm : Moves O w w') (hO : ∀ k, O k → B k ∧ M k = none ∧ ∀ p ∈ L, p.1 ≠ k) : St B w0 w' M L where
  moved := h.moved.trans (hm.more fun k _ ho => (hO k ho).1)
  imm := fun b o e => by
    have h1 := h.imm b o e
    rw [hm.same b (Array.getElem?_eq_some_iff.1 h1).1 (fun ho => by rw [(hO b ho).2.1] at e; cases e)]; exact h1
  loc := fun p hp => by
    have h1 := h.loc p hp
    rw [hm.same p.1 (Array.getElem?_eq_some_iff.1 h1).1 (fun ho => (hO p.1 ho).2.2 p hp rfl)]; exact h1
  base := h.base
  nodup := h.nodup
  hB := h.hB

/- An iterator's state behind a round: its own blocks lie as they lay. -/
theorem St.again {O : Nat → Prop} {w' : World} (h : St B w0 w M L) (hL : ∀ p ∈ L, O p.1) (hK : Keeps O w w') (hi : Imm M w') : St (fun k => O k ∨ w'.heap.size ≤ k) w' w' M L where
  moved := Moves.refl _ _
  imm := hi
  loc := fun p hp => by rw [hK p.1 (hL p hp)]; exact h.loc p hp
  base := fun p hp => ⟨.inl (hL p hp), (h.base p hp).2⟩
  nodup := h.nodup
  hB := fun k hk => .inr hk
theorem St.movesO {O : Nat → Prop} (h : St (fun k => O k ∨ w0.heap.size ≤ k) w0 w M L) : Moves O w0 w := h.moved.more fun k hk ho => ho.elim id fun h' => (by omega)
theorem St.grown {O : Nat → Prop} (h : St (fun k => O k ∨ w0.heap.size ≤ k) w0 w M L) : Grown O (fun k => k ∈ L.map Prod.fst) w0 w := fun k hk => by
  obtain ⟨p, hp, rfl⟩ := List.mem_map.1 hk
  rcases (h.base p hp).1 with h1 | h1
  · exact .inl h1
  · exact .inr ⟨h1, (Array.getElem?_eq_some_iff.1 (h.loc p hp)).1⟩
theorem St.start' (h : Imm M w) : St (fun k => (fun _ => False) k ∨ w.heap.size ≤ k) w w M [] :=
  ⟨Moves.refl _ _, h, fun _ h => (by cases h), fun _ h => (by cases h), List.nodup_nil, fun _ h => .inr h⟩

theorem St.sink {p q1 q2 : Nat × Obj} (h : St B w0 w M (p :: q1 :: q2 :: L)) : St B w0 w M (q1 :: q2 :: p :: L) := h.perm ((List.Perm.swap _ _ _).trans (.cons _ (.swap _ _ _)))
theorem St.drop3 {p q1 q2 : Nat × Obj} (h : St B w0 w M (q1 :: q2 :: p :: L)) : St B w0 w M (q1 :: q2 :: L) := (h.perm ((List.Perm.cons _ (.swap _ _ _)).trans (.swap _ _ _))).drop

/- Known blocks that no one holds are added to what is immutable. -/
theorem St.more {M' : Mem} (h : St B w0 w M L) (hi : Imm M' w) (hn : ∀ p ∈ L, M' p.1 = none) : St B w0 w M' L :=
  ⟨h.moved, hi, h.loc, fun p hp => ⟨(h.base p hp).1, hn p hp⟩, h.nodup, h.hB⟩

theorem St.fresh {Fr : List (Nat × Obj)} {n : Nat} (h : St B w0 w M L) (hF : ∀ p ∈ Fr, n ≤ p.1 ∧ w.heap[p.1]? = some p.2) (hn : (Fr.map Prod.fst).Nodup) (hB : ∀ k, n ≤ k → B k) (hM : ∀ k, n ≤ k → M k = none) (hL : ∀ p ∈ L, p.1 < n) : St B w0 w M (Fr ++ L) where
  moved := h.moved
  imm := h.imm
  loc := fun p hp => by
    rcases List.mem_append.1 hp with hp | hp
    · exact (hF p hp).2
    · exact h.loc p hp
  base := fun p hp => by
    rcases List.mem_append.1 hp with hp | hp
    · exact ⟨hB _ (hF p hp).1, hM _ (hF p hp).1⟩
    · exact h.base p hp
  nodup := by
    rw [List.map_append, List.nodup_append]
    refine ⟨hn, h.nodup, fun a ha b hb e => ?_⟩
    obtain ⟨p, hp, rfl⟩ := List.mem_map.1 ha
    obtain ⟨q, hq, rfl⟩ := List.mem_map.1 hb
    have := (hF p hp).1; have := hL q hq; omega
  hB := h.hB
end

/- What the two parties' memory is: the iterator's blocks O1 lie still while a round goes on. -/
noncomputable def Mem.and (M : Mem) (O : Nat → Prop) (W : World) : Mem := open Classical in fun k => if O k then W.heap[k]? else M k

/- How a round's body may be left. -/
def roundC {α : Type} (B : Nat → Prop) (w0 : World) (M1 : Mem) (l D : Nat) (o1 o2 : Obj) (Φ : List α → List (Nat × Obj) → Prop) (Ψ : Code → List α → List (Nat × Obj) → Prop) (xs : List α) : Exit → Act → World → Prop
  | .normal, _, W' => ∃ M' L', M1.le M' ∧ St B w0 W' M' ((l, o1) :: (D, o2) :: L') ∧ Φ xs L'
  | .ret, _, W' => ∃ M' L', M1.le M' ∧ St B w0 W' M' ((l, o1) :: (D, o2) :: L') ∧ Ψ .ret xs L'
  | .exit id, _, W' => ∃ M' L', M1.le M' ∧ St B w0 W' M' ((l, o1) :: (D, o2) :: L') ∧ Ψ (.exit id) xs L'
  | .goto t, _, W' => ∃ M' L', M1.le M' ∧ St B w0 W' M' ((l, o1) :: (D, o2) :: L') ∧ Ψ (.goto t) xs L'
  | .panic _, _, _ => False
  | .outgrown, _, _ => False

theorem putObj_eq (w : World) (b : Nat) (o : Obj) : w.putObj b o = putB w b o := rfl

/- The statement's law. -/
theorem wp_rangeC {α : Type} {P : Program} {g : Operand} {ps : Array Tmp} {assign body : Code} {Q : Exit → Act → World → Prop} {a : Act} {B : Nat → Prop} {w0 w : World} {M : Mem} {L : List (Nat × Obj)} (HS : St B w0 w M L)
    {gf : Nat} {lb : Array Value} (hg : a.eval g = .func (.func gf) #[] lb) (eg : ∀ args w, (callFunc gf args).run P w = .ok (.enter gf args) w)
    {xs : List α} {V : List α → α → Array Value → List (Nat × Obj) → Prop} (hseq : SeqC P M gf lb xs V) (hps : ∀ pre x vs Fr, V pre x vs Fr → vs.size = ps.size)
    (Φ : List α → List (Nat × Obj) → Prop) (Ψ : Code → List α → List (Nat × Obj) → Prop) (h0 : Φ [] L)
    (hround : ∀ (l D : Nat) (o1 o2 : Obj) pre x vs Fr L' M1 W (K : Act → World → Prop), (pre ++ [x]) <+: xs → Φ pre L' → V pre x vs Fr → M.le M1 → St B w0 W M1 ((l, o1) :: (D, o2) :: (Fr ++ L')) →
      (∀ a' W' M' L', M1.le M' → St B w0 W' M' ((l, o1) :: (D, o2) :: L') → (∀ o1 W2, St B w0 W2 M' ((l, o1) :: (D, o2) :: L') → body.wpIn (Wide (some l)) 0 P (roundC B w0 M1 l D o1 o2 Φ Ψ (pre ++ [x])) a' W2) → K a' W') →
      assign.wpIn (Wide (some l)) 0 P (Exit.then K (fun _ _ _ => False)) { tmps := (ps.zip vs).foldl (fun t (p, v) => t.setIfInBounds p v) a.tmps, defers := [] } W)
    (hdone : ∀ D W L', St B w0 W M ((D, .deferred (some [])) :: L') → Φ xs L' → Q .normal { a with defers := { target := .collected D, args := #[] } :: a.defers } W)
    (hstop : ∀ D W L' c pre, pre <+: xs → St B w0 W M ((D, .deferred (some [])) :: L') → Ψ c pre L' → c.wp P Q { a with defers := { target := .collected D, args := #[] } :: a.defers } W) :
    (Code.rangeFunc g ps assign body).wp P Q a w := by
  refine (wpIn_wide (n := 0)).1 (wpIn_rangeFunc ?_)
  intro fn _
  show ∃ (l : Nat) (mark : List Deferred) (w₁ : World) (d : Deferred) (w₁' : World) (f : FuncId) (args : Array Value) (w₂ : World), (Instr.enterLoop fn a.tmps ps assign body none).run P w = .ok (l, mark) w₁ ∧ _
  obtain ⟨rec, hrec⟩ : ∃ rec : LoopState → Option Code → Loop, rec = fun st pe => { state := st, pending := pe, fn, tmps := a.tmps, params := ps, assign, body, defers := w.heap.size } := ⟨_, rfl⟩
  obtain ⟨D, hD⟩ : ∃ D, D = w.heap.size := ⟨_, rfl⟩
  obtain ⟨l, hl⟩ : ∃ l, l = w.heap.size + 1 := ⟨_, rfl⟩
  obtain ⟨W1, hW1⟩ : ∃ W1, (w.alloc (.deferred (some []))).alloc (.loop (rec .ready none)) = W1 := ⟨_, rfl⟩
  have HS1 : St B w0 W1 M ((l, .loop (rec .ready none)) :: (D, .deferred (some [])) :: L) := by
    have h := (HS.alloc (.deferred (some []))).alloc (.loop (rec .ready none))
    rw [hW1, World.size_alloc, ← hD] at h
    rw [hl, ← hD]; exact h
  let J : List α → (Nat → Prop) → World → Prop := fun pre O W => ∃ L', St B w0 W M ((l, .loop (rec .ready none)) :: (D, .deferred (some [])) :: L') ∧ Φ pre L' ∧
    ∀ k, O k → B k ∧ M k = none ∧ k < W.heap.size ∧ ∀ p ∈ (l, Obj.loop (rec .ready none)) :: (D, .deferred (some [])) :: L', p.1 ≠ k
  let Jx : List α → (Nat → Prop) → World → Prop := fun pre O W => ∃ c L', St B w0 W M ((l, .loop (rec .done (some c))) :: (D, .deferred (some [])) :: L') ∧ Ψ c pre L' ∧
    ∀ k, O k → B k ∧ M k = none ∧ k < W.heap.size ∧ ∀ p ∈ (l, Obj.loop (rec .done (some c))) :: (D, .deferred (some [])) :: L', p.1 ≠ k
  refine ⟨l, [{ target := .collected D, args := #[] }], W1, { target := .fn (.func gf) lb, args := #[.func (.yield l) #[] #[]] }, W1, gf, #[.func (.yield l) #[] #[]] ++ lb, W1, ?_, ?_, fun _ _ => trivial, ?_, fun hd => (by cases hd), ?_⟩
  · rw [← hW1, hrec, hl, hD]; exact run_enterLoop_outer _ _ _ _ _
  · simp only [resolve, hg]; simp [go_sem]
  · simp [invoke, go_sem, eg]
  refine (hseq l J Jx W1 HS1.imm (fun s O W h => by obtain ⟨_, h, _⟩ := h; exact h.imm) (fun s O W h => by obtain ⟨_, _, h, _⟩ := h; exact h.imm) ⟨L, HS1, h0, fun _ h => h.elim⟩ ?_).mono ?_
  · intro pre x vs Fr O0 O1 V0 V1 hpre hJ hM hG hV hF
    obtain ⟨L', hS, hΦ, hO⟩ := hJ
    have hS1 := hS.moves hM (fun k hk => ⟨(hO k hk).1, (hO k hk).2.1, (hO k hk).2.2.2⟩)
    have hlt : ∀ p ∈ (l, Obj.loop (rec .ready none)) :: (D, .deferred (some [])) :: L', p.1 < V0.heap.size := fun p hp => (Array.getElem?_eq_some_iff.1 (hS.loc p hp)).1
    have hMn : ∀ k, V0.heap.size ≤ k → M k = none := fun k hk => by
      cases e : M k with
      | none => rfl
      | some o => have := hS.imm.lt (b := k) (by rw [e]; exact fun h => by cases h); omega
    have hS2 := hS1.fresh (fun p hp => ⟨(hF.is p hp).1, (hF.is p hp).2.2⟩) hF.nodup (fun k hk => hS.hB k (Nat.le_trans hS.moved.size hk)) hMn hlt
    have hO1 : ∀ k, O1 k → B k ∧ M k = none ∧ k < V1.heap.size ∧ ∀ p ∈ Fr ++ (l, Obj.loop (rec .ready none)) :: (D, .deferred (some [])) :: L', p.1 ≠ k := fun k hk => by
      refine ⟨?_, ?_, ?_, fun p hp e => ?_⟩
      · rcases hG k hk with h | h
        · exact (hO k h).1
        · exact hS.hB k (Nat.le_trans hS.moved.size h.1)
      · rcases hG k hk with h | h
        · exact (hO k h).2.1
        · exact hMn k h.1
      · rcases hG k hk with h | h
        · exact Nat.lt_of_lt_of_le (hO k h).2.2.1 hM.size
        · exact h.2
      · rcases List.mem_append.1 hp with hp | hp
        · exact (hF.is p hp).2.1 (e ▸ hk)
        · rcases hG k hk with h | h
          · exact (hO k h).2.2.2 p hp e
          · have := hlt p hp; omega
    let M1 := M.and O1 V1
    have hle1 : M.le M1 := fun b o e => by
      show (M.and O1 V1) b = some o
      unfold Mem.and
      rw [if_neg (fun h => by rw [(hO1 b h).2.1] at e; cases e)]; exact e
    have hS3 : St B w0 V1 M1 (Fr ++ (l, Obj.loop (rec .ready none)) :: (D, .deferred (some [])) :: L') := hS2.more (fun b o e => by
      simp only [M1, Mem.and] at e
      split at e
      · exact e
      · exact hS2.imm b o e) (fun p hp => by
      simp only [M1, Mem.and]
      rw [if_neg (fun h => (hO1 _ h).2.2.2 p hp rfl)]
      exact (hS2.base p hp).2)
    have hS4 : St B w0 V1 M1 ((l, Obj.loop (rec .ready none)) :: (D, .deferred (some [])) :: (Fr ++ L')) := hS3.perm (by
      refine List.perm_middle.trans (.cons _ ?_)
      exact List.perm_middle)
    have hmem : V1.heap[l]? = some (.loop (rec .ready none)) := hS4.loc _ (.head _)
    have hy := run_yield (P := P) (args := vs) hmem (by rw [hrec]; exact hps _ _ _ _ hV)
    rw [hrec] at hy
    refine ⟨fn, _, assign, body, hy, roundIn_of_wpIn trivial ?_⟩
    have hkeep : ∀ {M' : Mem} {W' : World} {L2 : List (Nat × Obj)}, M1.le M' → St B w0 W' M' L2 → Keeps O1 V1 W' ∧ ∀ k, O1 k → B k ∧ M k = none ∧ k < W'.heap.size ∧ ∀ p ∈ L2, p.1 ≠ k := by
      intro M' W' L2 hle hS
      have hk : ∀ k, O1 k → ∃ o, M' k = some o ∧ V1.heap[k]? = some o := fun k hk => by
        have hlt := (hO1 k hk).2.2.1
        refine ⟨V1.heap[k], hle _ _ ?_, ?_⟩
        · simp only [M1, Mem.and, if_pos hk]; simp [hlt]
        · simp [hlt]
      refine ⟨fun k hO => ?_, fun k hO => ⟨(hO1 k hO).1, (hO1 k hO).2.1, ?_, fun p hp e => ?_⟩⟩
      · obtain ⟨o, h1, h2⟩ := hk k hO
        rw [h2]; exact hS.imm k o h1
      · obtain ⟨o, h1, _⟩ := hk k hO
        exact hS.imm.lt (by rw [h1]; exact fun h => by cases h)
      · obtain ⟨o, h1, _⟩ := hk k hO
        have := (hS.base p hp).2
        rw [e, h1] at this; cases this
    refine hround l D _ _ pre x vs Fr L' M1 V1 _ hpre hΦ hV hle1 hS4 ?_
    intro a' W' M' L2 hle2 hS5 hbody
    have hm5 : W'.heap[l]? = some (.loop (rec .ready none)) := hS5.loc _ (.head _)
    refine ⟨_, run_beginRound hm5 (by rw [hrec]), ?_⟩
    have hS6 : St B w0 (W'.putObj l (.loop { rec .ready none with state := .busy })) M' ((l, .loop { rec .ready none with state := .busy }) :: (D, .deferred (some [])) :: L2) := hS5.putB (.head _)
    refine wpIn_mono (hbody _ _ hS6) ?_
    have fin : ∀ (jump : Option Code) (W3 : World) (M3 : Mem) (L3 : List (Nat × Obj)), M1.le M3 → St B w0 W3 M3 ((l, .loop { rec .ready none with state := .busy }) :: (D, .deferred (some [])) :: L3) →
        (Instr.endRound l jump).run P W3 = .ok (.bool jump.isNone) (W3.putObj l (.loop (rec (if jump.isNone then .ready else .done) jump))) ∧
        St B w0 (W3.putObj l (.loop (rec (if jump.isNone then .ready else .done) jump))) M ((l, .loop (rec (if jump.isNone then .ready else .done) jump)) :: (D, .deferred (some [])) :: L3) ∧
        Keeps O1 V1 (W3.putObj l (.loop (rec (if jump.isNone then .ready else .done) jump))) ∧
        ∀ k, O1 k → B k ∧ M k = none ∧ k < (W3.putObj l (.loop (rec (if jump.isNone then .ready else .done) jump))).heap.size ∧ ∀ p ∈ (l, Obj.loop (rec (if jump.isNone then .ready else .done) jump)) :: (D, .deferred (some [])) :: L3, p.1 ≠ k := fun jump W3 M3 L3 hle hS => by
      have hl3 : W3.heap[l]? = some (.loop { rec .ready none with state := .busy }) := hS.loc _ (.head _)
      have h1 := run_endRound (P := P) jump hl3
      have hS' : St B w0 (W3.putObj l (.loop (rec (if jump.isNone then .ready else .done) jump))) M3 ((l, .loop (rec (if jump.isNone then .ready else .done) jump)) :: (D, .deferred (some [])) :: L3) := hS.putB (.head _)
      have h2 := hkeep hle hS'
      refine ⟨?_, hS'.less (Mem.le_trans hle1 hle), h2.1, h2.2⟩
      rw [hrec] at h1 ⊢; exact h1
    rintro e a3 W3 hp
    cases e with
    | normal =>
      obtain ⟨M3, L3, hle, hS, hΦ3⟩ := hp
      obtain ⟨hr, hS', hK, hO'⟩ := fin none W3 M3 L3 hle hS
      exact ⟨_, _, hr, .inl ⟨rfl, ⟨L3, hS', hΦ3, hO'⟩, hK⟩⟩
    | ret =>
      obtain ⟨M3, L3, hle, hS, hΨ3⟩ := hp
      obtain ⟨hr, hS', hK, hO'⟩ := fin (some .ret) W3 M3 L3 hle hS
      exact ⟨_, _, hr, .inr ⟨rfl, .ret, L3, hS', hΨ3, hO'⟩⟩
    | exit id =>
      obtain ⟨M3, L3, hle, hS, hΨ3⟩ := hp
      obtain ⟨hr, hS', hK, hO'⟩ := fin (some (.exit id)) W3 M3 L3 hle hS
      exact ⟨_, _, hr, .inr ⟨rfl, .exit id, L3, hS', hΨ3, hO'⟩⟩
    | goto t =>
      obtain ⟨M3, L3, hle, hS, hΨ3⟩ := hp
      obtain ⟨hr, hS', hK, hO'⟩ := fin (some (.goto t)) W3 M3 L3 hle hS
      exact ⟨_, _, hr, .inr ⟨rfl, .goto t, L3, hS', hΨ3, hO'⟩⟩
    | panic ch => exact hp.elim
    | outgrown => exact hp.elim
  · rintro e W2 ⟨⟨v, rfl⟩, O0, V0, hM, (⟨L', hS, hΦ, hO⟩ | ⟨pre, hpre, c, L', hS, hΨ, hO⟩)⟩
    · have hS1 := hS.moves hM (fun k hk => ⟨(hO k hk).1, (hO k hk).2.1, (hO k hk).2.2.2⟩)
      have hl2 : W2.heap[l]? = some (.loop (rec .ready none)) := hS1.loc _ (.head _)
      refine ⟨none, _, by have := run_endLoop (P := P) hl2 (by rw [hrec]; simp); rw [hrec] at this; exact this, ?_⟩
      have hS2 : St B w0 (W2.putObj l (.loop { rec .ready none with state := .exhausted })) M ((l, .loop { rec .ready none with state := .exhausted }) :: (D, .deferred (some [])) :: L') := hS1.putB (.head _)
      have := hdone D _ L' hS2.drop hΦ
      rw [hrec] at this; exact this
    · have hS1 := hS.moves hM (fun k hk => ⟨(hO k hk).1, (hO k hk).2.1, (hO k hk).2.2.2⟩)
      have hl2 : W2.heap[l]? = some (.loop (rec .done (some c))) := hS1.loc _ (.head _)
      refine ⟨some c, _, by have := run_endLoop (P := P) hl2 (by rw [hrec]; simp); rw [hrec] at this; exact this, ?_⟩
      have hS2 : St B w0 (W2.putObj l (.loop { rec .done (some c) with state := .exhausted })) M ((l, .loop { rec .done (some c) with state := .exhausted }) :: (D, .deferred (some [])) :: L') := hS1.putB (.head _)
      have := (wpIn_wide (n := 0)).2 (hstop D _ L' c pre hpre hS2.drop hΨ)
      rw [hrec] at this; exact this

/- A loop over a state of one's own. -/
theorem wp_loop_st {P : Program} {Q : Exit → Act → World → Prop} {a : Act} {w : World} {c : Code} {σ : Type} (I : σ → Act → World → Prop) (μ : σ → Nat) (s : σ) (h₀ : I s a w)
    (round : ∀ s a w, I s a w → c.wp P (Exit.then (fun a' w' => ∃ s', I s' a' w' ∧ μ s' < μ s) Q) a w) : (Code.loop c).wp P Q a w := by
  have key : ∀ n s a w, μ s < n → I s a w → Code.rounds P c Q n a w := by
    intro n
    induction n with
    | zero => intro s a w h; omega
    | succ n ih =>
      intro s a w hn hI
      rw [rounds_succ]
      refine Code.wp_mono (fun e a w q => ?_) (round s a w hI)
      cases e <;> first
        | exact q
        | (obtain ⟨s', h1, h2⟩ := q
           exact ih s' _ _ (by omega) h1)
  exact wp_loop_rounds (μ s + 1) (key _ s a w (by omega) h₀)

/- The return behind a mark. -/
theorem leaves_plain {P : Program} {fn : Func} {R : Ending → World → Prop} {a : Act} {w : World} (h : bodyPost P fn R .ret a w) : bodyPostM Fence.wide 0 P fn R .ret a w := by
  obtain ⟨hd, v, hr, hR⟩ := h
  show LeavesInM _ _ _ _ _ _ a.defers _ _
  rw [hd]; exact ⟨v, hr, hR⟩
theorem leaves_mark {P : Program} {fn : Func} {R : Ending → World → Prop} {a : Act} {B : Nat → Prop} {w0 w : World} {M : Mem} {L L' : List (Nat × Obj)} {D : Nat} {ds : List Deferred} (HS : St B w0 w M L) (hd : a.defers = { target := .collected D, args := #[] } :: ds)
    (hm : Rep1 D (.deferred (some [])) (.deferred none) L L') (h : ∀ w', St B w0 w' M L' → bodyPostM Fence.wide 0 P fn R .ret { a with defers := ds } w') : bodyPostM Fence.wide 0 P fn R .ret a w := by
  show LeavesInM _ _ _ _ _ _ a.defers _ _
  rw [hd]
  exact ⟨by simp, .inl ⟨D, _, rfl, run_takeDeferred (HS.loc _ hm.mem), h _ (HS.putB hm)⟩⟩
theorem leaves_normal {P : Program} {fn : Func} {R : Ending → World → Prop} {a : Act} {w : World} (h : bodyPostM Fence.wide 0 P fn R .ret a w) : bodyPostM Fence.wide 0 P fn R .normal a w := h
theorem calls_of_marks {P : Program} {f : FuncId} {fn : Func} {c : Code} {args : Array Value} {w : World} {R : Ending → World → Prop} (hf : P.funcs[f]? = some fn) (hb : fn.body = some c)
    (h : c.wp P (bodyPostM Fence.wide 0 P fn R) { tmps := args ++ Array.replicate (fn.ntmps - args.size) undef, defers := [] } w) : Calls P f args w R :=
  (callsIn_wide (n := 0)).1 (callsIn_of_wp_marks hf hb trivial (wpIn_wide.2 h) rfl)
end Go.Proofs.YtbogoehjoglneaaDoor
