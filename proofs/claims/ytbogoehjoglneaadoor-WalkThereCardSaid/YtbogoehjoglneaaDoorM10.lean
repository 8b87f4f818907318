/- The reference's UnitsOf: how many units a step has. -/
import Derived.Test.YtbogoehjoglneaaDoorM9
import Derived.Test.YtbogoehjoglneaaDoorM5
import Derived.Test.YtbogoehjoglneaaDoorM3
set_option linter.unusedVariables false
set_option linter.unusedSimpArgs false
set_option linter.unnecessarySimpa false
set_option linter.unusedSectionVars false
namespace Go.Proofs.YtbogoehjoglneaaDoor
open Go.RowKit
set_option linter.unusedVariables false
set_option linter.unusedSimpArgs false
set_option maxRecDepth 100000
attribute [local go_sem] byt_drop byt_tail Int.toNat_natCast sOf_size

theorem UnitsOf_any (M : Mem) (s : Stp) (hs : s.r ≤ 1114111) (w : World) (hi : Imm M w) :
    Calls Tryd.prog 27 #[stV s] w fun e w' => ∃ A c, e = .returned (.slice A (uOf s.r) c) ∧ Below w.heap.size w w' := by
  have hs' : (s.r : Int) ≤ 1114111 := by omega
  unfold uOf
  by_cases h : 65535 < s.r
  · rw [if_pos h]
    have h' : (65535 : Int) < s.r := by omega
    (have HS := St.start hi; go_enter Tryd.func27, Tryd.ntmps27)
    go_wp2_with (first | ((with_reducible refine' st_alloc ?hw HS ?_); (case hw => rfl); intro b_ w_ HS_; clear HS; have HS := HS_; clear HS_) | ((with_reducible refine' st_box ?hw HS ?hx ?_); (case hw => rfl); (case hx => first | (go_simp; exact rfl) | rfl); intro b_ w_ HS_; clear HS; have HS := HS_; clear HS_) | ((with_reducible refine' st_load ?hw HS ?hx ?hb ?hv ?_); (case hw => first | rfl | (go_simp; done)); (case hx => rfl); (case hb => (first | (apply Blk.loc; (repeat (first | (with_reducible exact List.mem_cons_self) | apply List.mem_cons_of_mem)); done) | (apply Blk.imm; with_reducible assumption))); (case hv => (simp only [ldv, List.length_cons, List.length_nil, List.drop_succ_cons, List.drop_zero, List.take_succ_cons, List.take_zero, List.getElem?_cons_succ, List.getElem?_cons_zero, Nat.reduceAdd, Nat.reduceMul, Nat.reduceLeDiff, Int.toNat_natCast, Int.toNat_zero, Int.toNat_one, Int.reduceToNat, Bool.false_eq_true, if_true, if_false, Nat.zero_add, Nat.zero_mul, Nat.one_mul]; exact rfl))) | ((with_reducible refine' st_store ?hw HS ?hx ?hy ?hr ?hl ?ho ?hoff ?hc ?_); (case hw => rfl); (case hx => rfl); (case hy => first | (go_simp; exact rfl) | rfl); (case hr => repeat (first | exact Rep1.head _ | apply Rep1.tail)); (case hl => rfl); (case ho => rfl); (case hoff => exact Nat.le_of_ble_eq_true rfl); (case hc => (simp only [ovw, List.length_cons, List.length_nil, List.drop_succ_cons, List.drop_zero, List.take_succ_cons, List.take_zero, List.drop_nil, List.append_nil, List.nil_append, List.cons_append, Nat.reduceAdd, Nat.zero_add]; exact rfl)); intro w_ HS_; clear HS; have HS := HS_; clear HS_))
    go_ret
    exact ⟨_, _, rfl, (HS.alloc _).below⟩
  · rw [if_neg h]
    have h' : ¬ (65535 : Int) < s.r := by omega
    (have HS := St.start hi; go_enter Tryd.func27, Tryd.ntmps27)
    go_wp2_with (first | ((with_reducible refine' st_alloc ?hw HS ?_); (case hw => rfl); intro b_ w_ HS_; clear HS; have HS := HS_; clear HS_) | ((with_reducible refine' st_box ?hw HS ?hx ?_); (case hw => rfl); (case hx => first | (go_simp; exact rfl) | rfl); intro b_ w_ HS_; clear HS; have HS := HS_; clear HS_) | ((with_reducible refine' st_load ?hw HS ?hx ?hb ?hv ?_); (case hw => first | rfl | (go_simp; done)); (case hx => rfl); (case hb => (first | (apply Blk.loc; (repeat (first | (with_reducible exact List.mem_cons_self) | apply List.mem_cons_of_mem)); done) | (apply Blk.imm; with_reducible assumption))); (case hv => (simp only [ldv, List.length_cons, List.length_nil, List.drop_succ_cons, List.drop_zero, List.take_succ_cons, List.take_zero, List.getElem?_cons_succ, List.getElem?_cons_zero, Nat.reduceAdd, Nat.reduceMul, Nat.reduceLeDiff, Int.toNat_natCast, Int.toNat_zero, Int.toNat_one, Int.reduceToNat, Bool.false_eq_true, if_true, if_false, Nat.zero_add, Nat.zero_mul, Nat.one_mul]; exact rfl))) | ((with_reducible refine' st_store ?hw HS ?hx ?hy ?hr ?hl ?ho ?hoff ?hc ?_); (case hw => rfl); (case hx => rfl); (case hy => first | (go_simp; exact rfl) | rfl); (case hr => repeat (first | exact Rep1.head _ | apply Rep1.tail)); (case hl => rfl); (case ho => rfl); (case hoff => exact Nat.le_of_ble_eq_true rfl); (case hc => (simp only [ovw, List.length_cons, List.length_nil, List.drop_succ_cons, List.drop_zero, List.take_succ_cons, List.take_zero, List.drop_nil, List.append_nil, List.nil_append, List.cons_append, Nat.reduceAdd, Nat.zero_add]; exact rfl)); intro w_ HS_; clear HS; have HS := HS_; clear HS_))
    go_ret
    exact ⟨⟨_, _, rfl⟩, (HS.alloc _).below⟩
end Go.Proofs.YtbogoehjoglneaaDoor

/- Plain laws: the i-th edge of a text, steps counted from both ends. No Go, no memory. -/
namespace Go.Proofs.YtbogoehjoglneaaDoor
set_option linter.unusedVariables false
set_option linter.unusedSimpArgs false

/- p is the i-th edge. -/
structure AtStep (l : List UInt8) (i p : Nat) : Prop where
  le : p ≤ l.length
  edge : inside l p = 0
  pre : ∃ pre, steps l 0 = pre ++ steps (l.drop p) p ∧ pre.length = i ∧ (∀ f, S f (l.take p) = sumS f pre)

theorem AtStep.sum {l : List UInt8} {p : Nat} {pre : List (Nat × Stp)} (h : inside l p = 0) (hp : p ≤ l.length) (e : steps l 0 = pre ++ steps (l.drop p) p) (f : Stp → Nat) : S f (l.take p) = sumS f pre := by
  have h1 := S_edge f l.length l p (Nat.le_refl _) hp h
  have h2 := sumS_steps f l.length l 0 (Nat.le_refl _)
  have h3 := sumS_steps f l.length (l.drop p) p (by rw [List.length_drop]; omega)
  rw [e, sumS_append, h3] at h2
  omega
theorem AtStep.zero (l : List UInt8) : AtStep l 0 0 := ⟨Nat.zero_le _, inside_at_zero l, [], by simp, rfl, fun f => by simp [S_nil, sumS]⟩
theorem AtStep.of_edge {l : List UInt8} {q : Nat} (hq : q ≤ l.length) (h : inside l q = 0) : ∃ i, AtStep l i q := by
  obtain ⟨pre, e, _⟩ := steps_from (l := l) q 0 q (by omega) (Nat.zero_le _) hq (inside_at_zero l) h
  rw [List.drop_zero] at e
  exact ⟨pre.length, hq, h, pre, e, rfl, AtStep.sum h hq e⟩
theorem AtStep.uniq {l : List UInt8} {i j p : Nat} (h : AtStep l i p) (k : AtStep l j p) : i = j := by
  obtain ⟨a, e1, e2, _⟩ := h.pre
  obtain ⟨b, f1, f2, _⟩ := k.pre
  have h1 := congrArg List.length e1
  have h2 := congrArg List.length f1
  rw [List.length_append] at h1 h2
  omega
theorem AtStep.rest {l : List UInt8} {p : Nat} (hp : p < l.length) : steps (l.drop p) p = (p, stp (l.drop p)) :: steps (l.drop (p + (stp (l.drop p)).w)) (p + (stp (l.drop p)).w) := by
  have hne : l.drop p ≠ [] := fun e => by
    have h1 := congrArg List.length e
    rw [List.length_drop, List.length_nil] at h1
    omega
  rw [steps_cons hne, List.drop_drop]
theorem AtStep.next {l : List UInt8} {i p : Nat} (h : AtStep l i p) (hp : p < l.length) : AtStep l (i + 1) (p + (stp (l.drop p)).w) ∧ (steps l 0)[i]? = some (p, stp (l.drop p)) := by
  obtain ⟨pre, e, hl, hs⟩ := h.pre
  have hne : l.drop p ≠ [] := fun e => by
    have h1 := congrArg List.length e
    rw [List.length_drop, List.length_nil] at h1
    omega
  have hw := stp_len hne
  rw [List.length_drop] at hw
  rw [AtStep.rest hp] at e
  have e' : steps l 0 = (pre ++ [(p, stp (l.drop p))]) ++ steps (l.drop (p + (stp (l.drop p)).w)) (p + (stp (l.drop p)).w) := by rw [e]; simp
  refine ⟨⟨by omega, edge_next h.edge, _, e', by simp [hl], AtStep.sum (edge_next h.edge) (by omega) e'⟩, ?_⟩
  rw [e, List.getElem?_append_right (by omega), hl, Nat.sub_self]
  rfl
theorem AtStep.lt {l : List UInt8} {i p : Nat} (h : AtStep l i p) : i < (steps l 0).length ↔ p < l.length := by
  obtain ⟨pre, e, hl, hs⟩ := h.pre
  have h1 := congrArg List.length e
  rw [List.length_append, hl] at h1
  constructor
  · intro hi
    rcases Nat.lt_or_ge p l.length with h2 | h2
    · exact h2
    · rw [show l.drop p = [] from by simp; omega, steps_nil] at h1
      simp at h1; omega
  · intro hp
    rw [AtStep.rest hp, List.length_cons] at h1
    omega
theorem AtStep.end (l : List UInt8) : AtStep l (steps l 0).length l.length := by
  obtain ⟨i, h⟩ := AtStep.of_edge (l := l) (q := l.length) (Nat.le_refl _) (inside_len l (Nat.le_refl _))
  have h1 := h.lt
  obtain ⟨pre, e, hl, hs⟩ := h.pre
  have h2 := congrArg List.length e
  rw [List.drop_length, steps_nil, List.append_nil] at h2
  rw [hl] at h2
  rw [h2]; exact h
theorem AtStep.place {l : List UInt8} {i p q : Nat} {s : Stp} (h : AtStep l i p) (e : (steps l 0)[i]? = some (q, s)) : q = p ∧ s = stp (l.drop p) ∧ p < l.length := by
  have hlt : i < (steps l 0).length := (List.getElem?_eq_some_iff.1 e).1
  have hp := h.lt.1 hlt
  have := (h.next hp).2
  rw [e] at this
  simp only [Option.some.injEq, Prod.mk.injEq] at this
  exact ⟨this.1, this.2, hp⟩
theorem AtStep.prev {l : List UInt8} {i p : Nat} (h : AtStep l (i + 1) p) : 0 < p ∧ AtStep l i (floorN l (p - 1)) ∧ floorN l (p - 1) + (stp (l.drop (floorN l (p - 1)))).w = p ∧ floorN l (p - 1) < l.length := by
  have h0 : 0 < p := by
    rcases Nat.eq_zero_or_pos p with e | e
    · subst e
      have := h.uniq (AtStep.zero l)
      omega
    · exact e
  have hle := h.le
  have hpe := prev_edge h.edge h0 hle
  have hfl := floor_le l (p - 1)
  obtain ⟨j, hj⟩ := AtStep.of_edge (l := l) (q := floorN l (p - 1)) (by omega) (floor_edge l (p - 1))
  have hn := (hj.next (by omega)).1
  rw [hpe] at hn
  have := hn.uniq h
  obtain rfl : j = i := by omega
  exact ⟨h0, hj, hpe, by omega⟩
theorem AtStep.runes {l : List UInt8} {i p : Nat} (h : AtStep l i p) : runesN (l.take p) = i := by
  obtain ⟨pre, e, hl, hs⟩ := h.pre
  unfold runesN
  rw [hs, sumS_len, hl]
theorem AtStep.units {l : List UInt8} {i p : Nat} (h : AtStep l i p) (hp : p < l.length) : unitsN (l.take (p + (stp (l.drop p)).w)) = unitsN (l.take p) + uOf (stp (l.drop p)).r := by
  obtain ⟨pre, e, hl, hs⟩ := h.pre
  rw [AtStep.rest hp] at e
  have e' : steps l 0 = (pre ++ [(p, stp (l.drop p))]) ++ steps (l.drop (p + (stp (l.drop p)).w)) (p + (stp (l.drop p)).w) := by rw [e]; simp
  unfold unitsN
  rw [AtStep.sum (edge_next h.edge) (h.next hp).1.le e', hs, sumS_append]
  simp [sumS]
end Go.Proofs.YtbogoehjoglneaaDoor

/- WalkThere: plain laws of skips over all steps; calls in the form that the law makes. -/
namespace Go.Proofs.YtbogoehjoglneaaDoor
open Go.RowKit
set_option linter.unusedVariables false
set_option linter.unusedSimpArgs false
set_option maxRecDepth 100000
attribute [local go_sem] byt_drop byt_tail Int.toNat_natCast sOf_size

theorem AtStep.first {l : List UInt8} {p : Nat} (h : AtStep l 0 p) : p = 0 := by
  rcases Nat.eq_zero_or_pos p with e | e
  · exact e
  · have hle := h.le
    have hpe := prev_edge h.edge e hle
    have hfl := floor_le l (p - 1)
    obtain ⟨j, hj⟩ := AtStep.of_edge (l := l) (q := floorN l (p - 1)) (by omega) (floor_edge l (p - 1))
    have hn := (hj.next (by omega)).1
    rw [hpe] at hn
    have := hn.uniq h
    omega
theorem AtStep.last {l : List UInt8} {p : Nat} (h : AtStep l (steps l 0).length p) : p = l.length := by
  have h1 := h.lt
  have h2 := h.le
  omega
theorem AtStep.skipB {l : List UInt8} : ∀ (i p k : Nat), AtStep l i p → 0 < k → skipB l p (i + k) = (0, i)
  | 0, p, k, h, hk => by
    rw [h.first]
    obtain ⟨k, rfl⟩ : ∃ m, k = m + 1 := ⟨k - 1, by omega⟩
    simp [Go.Proofs.YtbogoehjoglneaaDoor.skipB]
  | i + 1, p, k, h, hk => by
    obtain ⟨h0, hp, _, _⟩ := h.prev
    rw [show i + 1 + k = (i + k) + 1 from by omega]
    simp only [Go.Proofs.YtbogoehjoglneaaDoor.skipB, if_pos h0]
    rw [AtStep.skipB i _ k hp hk]
theorem AtStep.skipF {l : List UInt8} : ∀ (m i p k : Nat), AtStep l i p → i + m = (steps l 0).length → 0 < k → skipF l p (m + k) = (l.length, m)
  | 0, i, p, k, h, hm, hk => by
    have hp : p = l.length := by rw [Nat.add_zero] at hm; subst hm; exact h.last
    subst hp
    obtain ⟨k, rfl⟩ : ∃ m, k = m + 1 := ⟨k - 1, by omega⟩
    simp [Go.Proofs.YtbogoehjoglneaaDoor.skipF]
  | m + 1, i, p, k, h, hm, hk => by
    have hp : p < l.length := h.lt.1 (by omega)
    rw [show m + 1 + k = (m + k) + 1 from by omega]
    simp only [Go.Proofs.YtbogoehjoglneaaDoor.skipF, if_pos hp]
    rw [AtStep.skipF m (i + 1) _ k (h.next hp).1 (by omega) hk]

theorem new_zero (M : Mem) (hG : Gl M) (r : Nat) (l : List UInt8) (hr : RopeAt M r l) (w : World) (hi : Imm M w) :
    Calls Tryd.prog 16 #[ptr r, .int .i64 0] w fun e w' => ∃ c, e = .returned (.tuple #[ptr c, .int .i64 0]) ∧ Below w.heap.size w w' ∧ w.heap.size ≤ c ∧ w'.heap[c]? = some (curC (0 : Nat) r) := by
  have := WNew_in M hG r l hr 0 (Nat.zero_le _) w hi
  rw [floor_self (inside_at_zero l)] at this
  exact this
theorem new_end (M : Mem) (hG : Gl M) (r : Nat) (l : List UInt8) (hr : RopeAt M r l) (w : World) (hi : Imm M w) :
    Calls Tryd.prog 16 #[ptr r, .int .i64 l.length] w fun e w' => ∃ c, e = .returned (.tuple #[ptr c, .int .i64 0]) ∧ Below w.heap.size w w' ∧ w.heap.size ≤ c ∧ w'.heap[c]? = some (curC (l.length : Nat) r) := by
  have := WNew_in M hG r l hr l.length (Nat.le_refl _) w hi
  rw [floor_self (inside_len l (Nat.le_refl _))] at this
  exact this
/- The steps from the beginning, as a slice. -/
theorem gone_zero (M : Mem) (hG : Gl M) (r : Nat) (l : List UInt8) (hr : RopeAt M r l) (b1 b2 : Nat) (h1 : M b1 = some (.cells [.int .i64 0].toArray 3 (0, 0))) (h2 : M b2 = some (.cells [ptr r].toArray 27 (0, 0))) (w : World) (hi : Imm M w) :
    Calls Tryd.prog 26 #[.func (.func 64) #[] #[ptr b1, ptr b2]] w fun e w' => ∃ A c M', e = .returned (.slice A (steps l 0).length c) ∧ Grew M M' w w' ∧ SL M' 4 A (steps l 0).length c ((steps l 0).flatMap atC) := by
  have hseq := Steps1_seq M hG r l hr b1 b2 0 (Nat.zero_le _) h1 h2
  rw [stepsF_edge (inside_at_zero l), List.drop_zero] at hseq
  have := hr.small
  have := steps_len l
  exact gone_any M _ _ (steps l 0) hseq (enters_of Tryd.func64 (by kernel_rfl) rfl) (by omega) w hi
end Go.Proofs.YtbogoehjoglneaaDoor

/- WalkThere returns true. -/
namespace Go.Proofs.YtbogoehjoglneaaDoor
open Go.RowKit
set_option linter.unusedVariables false
set_option linter.unusedSimpArgs false
set_option maxRecDepth 100000
attribute [local go_sem] byt_drop byt_tail Int.toNat_natCast sOf_size

theorem fnNil (f : Fn) (a b : Array Value) (w : World) : (binOp BinOp.eql 54 (.func f a b) .nilFunc).run Tryd.prog w = .ok (.bool false) w := by kernel_rfl
attribute [local go_sem] fnNil
theorem stp_r (l : List UInt8) : (stp l).r ≤ 1114111 := by
  have h4 := enc_le l
  have hv := val_big l
  unfold stp
  split
  · decide
  · have hc : enc l = 1 ∨ enc l = 2 ∨ enc l = 3 ∨ enc l = 4 := by omega
    simp only
    rcases hc with e | e | e | e
    · have := hv.1 e; omega
    · have := hv.2.1 e; omega
    · have := hv.2.2.1 e; omega
    · have := hv.2.2.2 e; omega
theorem St.at3 {B : Nat → Prop} {M : Mem} {w0 w : World} {c : Nat} {o : Obj} {q q2 q3 : Nat × Obj} {L : List (Nat × Obj)} (h : St B w0 w M (q :: q2 :: q3 :: (c, o) :: L)) : w.heap[c]? = some o := h.loc (c, o) (.tail _ (.tail _ (.tail _ (.head _))))
theorem at_cells {M : Mem} {xs : List (Nat × Stp)} {j b o : Nat} {x : Nat × Stp} (h : ∀ t u, (xs.flatMap atC)[j * 4 + t]? = some u → cellM M b (o + t) = some u) (e : xs[j]? = some x) : ∀ t u, (atC x)[t]? = some u → cellM M b (o + t) = some u := fun t u hu => by
  have ht : t < 4 := by
    have := (List.getElem?_eq_some_iff.1 hu).1
    simpa [atC] using this
  exact h t u (by rw [flat_get atC 4 atC_len xs j t x e ht]; exact hu)
section
variable {P : Program} {ops : List Oper} {Q : Exit → Act → World → Prop} {S : World → Prop} {brk : Nat → Bool} {r : List (Bool × Nat)} {i : Nat} {a : Act} {w : World}
theorem dIdxL {d : Option Tmp} {T e ty : TypeId} {z : Value} {size bytes : Nat} [RI P T e z size bytes] {x ix : Operand} {ps : String} {af : Array Edge} {g : Option (Nat × Bool)} {M : Mem} {A : Option Addr} {n c : Nat} {xs : List Value} {j : Int}
    (hi : nth ops i = some { dst := d, op := .indexAddr T x ix, type := ty, pos := ps, after := af, guard := g }) (hw : Region.wanted { dst := d, op := .indexAddr T x ix, type := ty, pos := ps, after := af, guard := g } (yielded ops.toArray a.tmps) = true)
    (hx : a.eval x = .slice A n c) (hb : SL M size A n c xs) (hix : a.eval ix = .int .i64 j) (hj : 0 ≤ j ∧ j < n)
    (k : ∀ b o, (∀ t u, xs[j.toNat * size + t]? = some u → cellM M b (o + t) = some u) → lexD P ops.toArray Q S brk r (a.put d (.pointer (some ⟨b, o, Option.none⟩))) w) :
    lexD P ops.toArray Q S brk ((true, i) :: r) a w := by
  cases A with
  | none => have := hb.nil rfl; omega
  | some ad =>
    obtain ⟨h1, h2⟩ := hb.at_ ad rfl
    obtain ⟨b, off, sp⟩ := ad
    simp only at h1 h2
    subst h1
    exact dSoft (v := .pointer (some ⟨b, off + j.toNat * size, Option.none⟩)) hi hw (fun w _ => by simp [execOp, hx, hix, Instr.indexAt, asIntOf, run_underlying (RI.under (P := P) (T := T)), Result.andThen, hj, RI.sizeOf (P := P) (T := T) w, Addr.add_lit]) (k b (off + j.toNat * size) (fun t u h => by rw [Nat.add_assoc]; exact h2 _ _ h))
theorem dLoadAggM {d : Option Tmp} {T ty : TypeId} {x : Operand} {ps : String} {af : Array Edge} {g : Option (Nat × Bool)} {z : List Value} [TI P T true z] {B : Nat → Prop} {w0 : World} {M : Mem} {L : List (Nat × Obj)} {b off : Nat} {vs : List Value}
    (hi : nth ops i = some { dst := d, op := .load T x, type := ty, pos := ps, after := af, guard := g }) (hw : Region.wanted { dst := d, op := .load T x, type := ty, pos := ps, after := af, guard := g } (yielded ops.toArray a.tmps) = true)
    (HS : ∀ w, S w → St B w0 w M L) (hx : a.eval x = .pointer (some ⟨b, off, Option.none⟩)) (hc : ∀ t u, vs[t]? = some u → cellM M b (off + t) = some u) (hl : Nat.beq vs.length z.length = true)
    (k : lexD P ops.toArray Q S brk r (a.put d (.agg vs.toArray)) w) : lexD P ops.toArray Q S brk ((true, i) :: r) a w :=
  dSoft hi hw (fun w h => by
    have hl' := Nat.eq_of_beq_eq_true hl
    have h1 := run_loadCells_list (P := P) w ⟨b, off, none⟩ vs (fun j v hj => by
      rw [Addr.add_lit]; exact (HS w h).imm.cell (hc j v hj))
    rw [hl'] at h1
    have h2 : (loadVar T ⟨b, off, Option.none⟩).run P w = .ok (.agg vs.toArray) w := by
      unfold loadVar
      rw [Sem.run_bind, TI.isAgg w]
      simp only [Result.andThen, if_true, Sem.run_bind, TI.sizeOf w, h1, Sem.run_pure]
    simp only [execOp, hx, Instr.loadAt, Instr.sureAddr, Sem.run_bind, Sem.run_pure, Result.andThen, h2]) k
end
theorem actg {A : Act} {F : (Nat → Value) → Act} (h : A = F (fun i => A.tmps.getD i undef)) : ∃ g, A = F g := ⟨_, h⟩

set_option maxHeartbeats 8000000 in
theorem There_any (M : Mem) (hG : Gl M) (A0 : Option Addr) (n0 c0 : Nat) (vs : List Value) (tt : Bool) (hp : PsAt M A0 n0 c0 vs) (hn : (n0 : Int) ≤ 9223372036854775807) (w : World) (hi : Imm M w) :
    Calls Tryd.prog 4 #[.agg #[.slice A0 n0 c0, .bool tt]] w fun e w' => e = .returned (.bool true) ∧ Below w.heap.size w w' := by
  have HG := Lib.hid hG
  have HPS := Lib.hid hp
  have HFX := Lib.hid (fun w hi => fixed_any M hG w hi)
  clear hG hp
  (have HS := St.start hi; go_enter Tryd.func4, Tryd.ntmps4)
  go_wp2_with (first | ((with_reducible refine' st_alloc ?hw HS ?_); (case hw => rfl); intro b_ w_ HS_; clear HS; have HS := HS_; clear HS_) | ((with_reducible refine' st_box ?hw HS ?hx ?_); (case hw => rfl); (case hx => first | (go_simp; exact rfl) | rfl); intro b_ w_ HS_; clear HS; have HS := HS_; clear HS_) | ((with_reducible refine' st_load ?hw HS ?hx ?hb ?hv ?_); (case hw => first | rfl | (go_simp; done)); (case hx => rfl); (case hb => (first | (apply Blk.loc; (repeat (first | (with_reducible exact List.mem_cons_self) | apply List.mem_cons_of_mem)); done) | (apply Blk.imm; with_reducible assumption))); (case hv => (simp only [ldv, List.length_cons, List.length_nil, List.drop_succ_cons, List.drop_zero, List.take_succ_cons, List.take_zero, List.getElem?_cons_succ, List.getElem?_cons_zero, Nat.reduceAdd, Nat.reduceMul, Nat.reduceLeDiff, Int.toNat_natCast, Int.toNat_zero, Int.toNat_one, Int.reduceToNat, Bool.false_eq_true, if_true, if_false, Nat.zero_add, Nat.zero_mul, Nat.one_mul]; exact rfl))) | ((with_reducible refine' st_store ?hw HS ?hx ?hy ?hr ?hl ?ho ?hoff ?hc ?_); (case hw => rfl); (case hx => rfl); (case hy => rfl); (case hr => repeat (first | exact Rep1.head _ | apply Rep1.tail)); (case hl => rfl); (case ho => rfl); (case hoff => exact Nat.le_of_ble_eq_true rfl); (case hc => (simp only [ovw, List.length_cons, List.length_nil, List.drop_succ_cons, List.drop_zero, List.take_succ_cons, List.take_zero, List.drop_nil, List.append_nil, List.nil_append, List.cons_append, Nat.reduceAdd, Nat.zero_add]; exact rfl)); intro w_ HS_; clear HS; have HS := HS_; clear HS_) | (go_at_call 14; (with_reducible refine (HFX.out _ HS.imm).mono ?_); rintro e w_ ⟨rfl, hb_⟩; have HS_ := HS.call hb_; clear HS hb_; have HS := HS_; clear HS_) | (go_at_call 15; (with_reducible refine (made_any' M HG.out A0 n0 c0 vs tt HPS.out hn _ HS.imm).mono ?_); rintro e w_ ⟨r, A, c, M1, l, rfl, hg1, hr, hb, hl⟩; have HR := Lib.hid hr; have HGM := Lib.hid (HG.out.mono hg1.le); have hs_hg1 := HS.moved.size; have HS_ := HS.callM hg1.below hg1.fresh hg1.imm; clear HS; have HS := HS_; clear HS_) | (go_at_call 16; (with_reducible refine (new_zero M1 HGM.out r l HR.out _ HS.imm).mono ?_); rintro e w_ ⟨c1, rfl, hb1, hb2, hb3⟩; have HS_ := (HS.call hb1).newRow HS hb2 hb3; clear HS hb1 hb2 hb3; have HS := HS_; clear HS_) | (go_at_call 16; (with_reducible refine (new_end M1 HGM.out r l HR.out _ HS.imm).mono ?_); rintro e w_ ⟨d1, rfl, hb1, hb2, hb3⟩; have HS_ := (HS.call hb1).newRow HS hb2 hb3; clear HS hb1 hb2 hb3; have HS := HS_; clear HS_) | (go_at_call 25; (with_reducible refine (Steps_any M1 r 0 _ HS.imm).mono ?_); rintro e w_ ⟨b1, b2, M2, rfl, hg2, q1, q2⟩; have HGM2 := Lib.hid (HGM.out.mono hg2.le); have HR2 := Lib.hid (HR.out.mono hg2.le); have hs_hg2 := HS.moved.size; have HS_ := HS.callM hg2.below hg2.fresh hg2.imm; clear HS; have HS := HS_; clear HS_) | (go_at_call 26; (with_reducible refine (gone_zero M2 HGM2.out r l HR2.out b1 b2 q1 q2 _ HS.imm).mono ?_); rintro e w_ ⟨A3, c3, M3, rfl, hg3, hsl⟩; have HGM3 := Lib.hid (HGM2.out.mono hg3.le); have HR3 := Lib.hid (HR2.out.mono hg3.le); have hs_hg3 := HS.moved.size; have HS_ := HS.callM hg3.below hg3.fresh hg3.imm; clear HS; have HS := HS_; clear HS_))
  have hln := steps_len l
  generalize hne : (steps l 0).length = n at hsl hln ⊢
  have hsl25 : n ≤ 25000 := by omega
  refine wp_loop_st (σ := Nat) (fun i a w1 => i ≤ n ∧ ∃ p e u, AtStep l i p ∧ AtStep l (n - i) e ∧ u = unitsN (l.take p) ∧ (∃ g : Nat → Value, a = { tmps := #[g 0, g 1, g 2, g 3, .slice A (List.length (α := UInt8) l) c, ptr c1, g 6, ptr d1, g 8, g 9, .slice A3 n c3, .int .i64 (i : Nat), .int .i64 (u : Nat), g 13, g 14, g 15, g 16, g 17, g 18, g 19, g 20, g 21, g 22, g 23, g 24, g 25, g 26, g 27, g 28, g 29, g 30, g 31, g 32, g 33, g 34, g 35, g 36, g 37, g 38, g 39, g 40, g 41, g 42, g 43, g 44, g 45, g 46, g 47, g 48, g 49, g 50, g 51, g 52, g 53, g 54, g 55, g 56, g 57, g 58, g 59, g 60, g 61, g 62, g 63, g 64, g 65, g 66, g 67, g 68, g 69, g 70, g 71, g 72, g 73, .slice A3 n c3, .int .i64 (n : Nat), .int .i64 (i : Nat), g 77, g 78, g 79, g 80, g 81, g 82, g 83, g 84, g 85, g 86, g 87, g 88, g 89, g 90, g 91, g 92, g 93, g 94, g 95, g 96, g 97, g 98, g 99, g 100, g 101, g 102, g 103, g 104, g 105, g 106, g 107, g 108, g 109, g 110, g 111, g 112, g 113, g 114, g 115, g 116, g 117, g 118, g 119, g 120, g 121, g 122, g 123, g 124, g 125, g 126, g 127, g 128, g 129, g 130, g 131, g 132, g 133, g 134, g 135, g 136, g 137, g 138, g 139, g 140, g 141, g 142, g 143, g 144, g 145, g 146, g 147, g 148, g 149, g 150, g 151, g 152, g 153, g 154, g 155, g 156, g 157, g 158, g 159, g 160, g 161, g 162, g 163, g 164, g 165, g 166, g 167, g 168, g 169, g 170, g 171, g 172, g 173, g 174, g 175, g 176, g 177, g 178, g 179, g 180, g 181, g 182, g 183, g 184, g 185, g 186, g 187, g 188, g 189, g 190, g 191, g 192, g 193, g 194, g 195, g 196, g 197, g 198, g 199, g 200, g 201, g 202, g 203, g 204, g 205, g 206, g 207, g 208, g 209, g 210, g 211], defers := [] }) ∧
    St (fun k => w.heap.size ≤ k) w w1 M3 [(d1, curC (e : Nat) r), (c1, curC (p : Nat) r)]) (fun i => n - i) 0
    ⟨Nat.zero_le _, 0, l.length, 0, AtStep.zero l, by rw [Nat.sub_zero, ← hne]; exact AtStep.end l, by rw [List.take_zero, unitsN, S_nil], actg rfl, HS.init (K := [_, _])⟩ ?_
  clear HS
  rintro i a w1 ⟨hi2, p, e, u, hap, hae, hu, ⟨g, rfl⟩, HS⟩
  have hM1 := (HS.base _ (.tail _ (.head _))).2
  have hM2 := (HS.base _ (.head _)).2
  have hple := hap.le
  by_cases hlt : (i : Int) < n
  · have hpl : p < l.length := hap.lt.1 (by omega)
    have hnx := hap.next hpl
    have hun := hap.units hpl
    have hrn := hap.runes
    have hwl := stp_w (l.drop p)
    have hsr := stp_r (l.drop p)
    have hN := fun (w : World) (hi : Imm M3 w) (hc : w.heap[c1]? = some (curC (p : Nat) r)) => Next_in M3 HGM3.out r l HR3.out c1 p hpl hap.edge hM1 w hi hc
    have hP1 := fun (w : World) (hi : Imm M3 w) (hc : w.heap[c1]? = some (curC (p : Nat) r)) => Place_edge M3 HGM3.out r l HR3.out c1 p hple hap.edge 1 (by decide) (by decide) hM1 w hi hc
    have hP2 := fun (w : World) (hi : Imm M3 w) (hc : w.heap[c1]? = some (curC (p : Nat) r)) => Place_edge M3 HGM3.out r l HR3.out c1 p hple hap.edge 2 (by decide) (by decide) hM1 w hi hc
    have hP3 := fun (w : World) (hi : Imm M3 w) (hc : w.heap[c1]? = some (curC (p : Nat) r)) => Place_edge M3 HGM3.out r l HR3.out c1 p hple hap.edge 3 (by decide) (by decide) hM1 w hi hc
    rw [show zN 1 (l.take p) = p from (by show (l.take p).length = p; rw [List.length_take]; omega)] at hP1
    rw [show zN 2 (l.take p) = i from hrn] at hP2
    rw [show zN 3 (l.take p) = u from hu.symm] at hP3
    rw [← hu] at hun
    obtain ⟨s, hs⟩ : ∃ s, s = stp (l.drop p) := ⟨_, rfl⟩
    rw [← hs] at hnx hun hwl hsr hN
    obtain ⟨m, hm⟩ : ∃ m, m = n - (i + 1) := ⟨_, rfl⟩
    have hm1 : n - i = m + 1 := by omega
    rw [hm1] at hae
    obtain ⟨he0, haq, hqe, hql⟩ := hae.prev
    have hmx := (haq.next hql).2
    obtain ⟨q, hq⟩ : ∃ q, q = floorN l (e - 1) := ⟨_, rfl⟩
    rw [← hq] at haq hqe hql hmx
    obtain ⟨s2, hs2⟩ : ∃ s2, s2 = stp (l.drop q) := ⟨_, rfl⟩
    rw [← hs2] at hqe hmx
    have hV := fun (w : World) (hi : Imm M3 w) (hc : w.heap[d1]? = some (curC (e : Nat) r)) => Prev_in M3 HGM3.out r l HR3.out d1 e q s2 he0 hae.le hq hs2 hqe hM2 w hi hc
    have hU := fun w hi => UnitsOf_any M3 s hsr w hi
    have HN := Lib.hid hN; have HP1 := Lib.hid hP1; have HP2 := Lib.hid hP2; have HP3 := Lib.hid hP3; have HV := Lib.hid hV; have HU := Lib.hid hU
    have HX := Lib.hid hnx.2
    have HMX := Lib.hid hmx
    have HNX := Lib.hid hnx.1
    have HUN := Lib.hid hun
    have HAQ := Lib.hid haq
    have hul : u ≤ 25000 := by have := measure_ok (l.take p); rw [← hu, List.length_take] at this; omega
    have huo : uOf s.r ≤ 2 := by unfold uOf; split <;> omega
    have hjm : (n : Int) - 1 - i = m := by omega
    have hjm2 : (0 : Int) ≤ (n : Int) - 1 - i ∧ (n : Int) - 1 - i < n := by omega
    clear hN hP1 hP2 hP3 hV hU hnx hmx hun haq hap hae hs hs2 hq hqe hu hrn hm
    go_wp2_with (first | ((with_reducible refine' st_alloc ?hw HS ?_); (case hw => rfl); intro b_ w_ HS_; clear HS; have HS := HS_; clear HS_) | ((with_reducible refine' st_box ?hw HS ?hx ?_); (case hw => rfl); (case hx => first | (go_simp; exact rfl) | rfl); intro b_ w_ HS_; clear HS; have HS := HS_; clear HS_) | ((with_reducible refine' st_load ?hw HS ?hx ?hb ?hv ?_); (case hw => first | rfl | (go_simp; done)); (case hx => rfl); (case hb => (first | (apply Blk.loc; (repeat (first | (with_reducible exact List.mem_cons_self) | apply List.mem_cons_of_mem)); done) | (apply Blk.imm; with_reducible assumption))); (case hv => (simp only [ldv, List.length_cons, List.length_nil, List.drop_succ_cons, List.drop_zero, List.take_succ_cons, List.take_zero, List.getElem?_cons_succ, List.getElem?_cons_zero, Nat.reduceAdd, Nat.reduceMul, Nat.reduceLeDiff, Int.toNat_natCast, Int.toNat_zero, Int.toNat_one, Int.reduceToNat, Bool.false_eq_true, if_true, if_false, Nat.zero_add, Nat.zero_mul, Nat.one_mul]; exact rfl))) | ((with_reducible refine' st_store ?hw HS ?hx ?hy ?hr ?hl ?ho ?hoff ?hc ?_); (case hw => rfl); (case hx => rfl); (case hy => rfl); (case hr => repeat (first | exact Rep1.head _ | apply Rep1.tail)); (case hl => rfl); (case ho => rfl); (case hoff => exact Nat.le_of_ble_eq_true rfl); (case hc => (simp only [ovw, List.length_cons, List.length_nil, List.drop_succ_cons, List.drop_zero, List.take_succ_cons, List.take_zero, List.drop_nil, List.append_nil, List.nil_append, List.cons_append, Nat.reduceAdd, Nat.zero_add]; exact rfl)); intro w_ HS_; clear HS; have HS := HS_; clear HS_) | (((with_reducible refine' st_idx_sl ?hw ?hx ?hb ?hi ?hj ?_); (case hw => rfl); (case hx => rfl); (case hb => assumption); (case hi => rfl); (case hj => first | omega | (simp; omega)); intro b_ o_ hc_); have hcA := at_cells hc_ (x := (p, s)) (by simpa using HX.out); clear hc_) | ((with_reducible refine' st_load_aggM (vs := [.int .i64 (p : Nat), .int .i32 (s.r : Nat), .int .i64 (s.w : Nat), .bool s.ok]) ?hw HS ?hx ?hc ?hl ?_); (case hw => first | rfl | (go_simp; done)); (case hx => rfl); (case hc => exact hcA); (case hl => rfl)) | (go_at_call 23; first | ((with_reducible refine (HP1.out _ HS.imm HS.at2).mono ?_); rintro e w_ ⟨rfl, hb_⟩; (have HS_ := HS.call hb_; clear HS hb_; have HS := HS_; clear HS_)) | ((with_reducible refine (HP2.out _ HS.imm HS.at2).mono ?_); rintro e w_ ⟨rfl, hb_⟩; (have HS_ := HS.call hb_; clear HS hb_; have HS := HS_; clear HS_)) | ((with_reducible refine (HP3.out _ HS.imm HS.at2).mono ?_); rintro e w_ ⟨rfl, hb_⟩; (have HS_ := HS.call hb_; clear HS hb_; have HS := HS_; clear HS_))) | (go_at_call 19; (with_reducible refine (HN.out _ HS.imm HS.at2).mono ?_); rintro e w_ ⟨rfl, ht⟩; have HS_ := HS.turn (.tail _ (.tail _ (.head _))) ht; clear HS; have HS := HS_; clear HS_) | (go_at_call 20; (with_reducible refine (HV.out _ HS.imm HS.at2).mono ?_); rintro e w_ ⟨rfl, ht⟩; have HS_ := HS.turn (.tail _ (.tail _ (.head _))) ht; clear HS; have HS := HS_; clear HS_))
    refine wp_region_plan [] [(true, 0), (true, 1), (true, 2), (true, 3), (true, 4), (true, 5), (true, 6), (true, 7), (true, 8), (true, 9), (true, 10), (true, 11), (true, 12), (true, 13), (true, 14), (true, 15), (true, 16), (true, 17), (true, 18), (true, 19), (true, 20), (true, 21), (true, 22), (true, 23), (true, 24), (true, 25), (true, 26), (true, 27), (true, 28), (true, 29), (true, 30), (true, 31), (true, 32), (true, 33), (true, 34), (true, 35), (true, 36), (true, 37), (true, 38), (true, 39), (true, 40)] (fun W_ => St _ _ W_ _ _) (by kernel_rfl) (by kernel_rfl) rfl (by kernel_rfl) (HS).drew ?_
    have HS_ := HS.drew; clear HS; have HS := HS_; clear HS_
    (refine' dSoft rfl ?hw (fun w_ hw_ => ?hy) ?_; (case hw => first | rfl | go_simp); (case hy => first | (go_simp; done) | (go_simp; rfl)))
    (try simp only [Act.put, List.setIfInBounds_toArray, List.set_cons_zero, List.set_cons_succ])
    (refine' dSoft rfl ?hw (fun w_ hw_ => ?hy) ?_; (case hw => first | rfl | go_simp); (case hy => first | (go_simp; done) | (go_simp; rfl)))
    (try simp only [Act.put, List.setIfInBounds_toArray, List.set_cons_zero, List.set_cons_succ])
    (first | (refine' dLoad rfl ?hw (fun w_ hw_ => hw_) ?hx ?hb ?hv ?_; (case hw => first | rfl | go_simp); (case hx => rfl); (case hb => (first | (apply Blk.loc; (repeat (first | (with_reducible exact List.mem_cons_self) | apply List.mem_cons_of_mem)); done) | (apply Blk.imm; with_reducible assumption))); (case hv => (simp only [ldv, List.length_cons, List.length_nil, List.drop_succ_cons, List.drop_zero, List.take_succ_cons, List.take_zero, List.getElem?_cons_succ, List.getElem?_cons_zero, Nat.reduceAdd, Nat.reduceMul, Nat.reduceLeDiff, Int.toNat_natCast, Int.toNat_zero, Int.toNat_one, Int.reduceToNat, Bool.false_eq_true, if_true, if_false, Nat.zero_add, Nat.zero_mul, Nat.one_mul]; exact rfl))) | (refine' dLoadC rfl ?hw (fun w_ hw_ => hw_) ?hx ?hc ?_; (case hw => first | rfl | go_simp); (case hx => rfl); (case hc => assumption)))
    (try simp only [Act.put, List.setIfInBounds_toArray, List.set_cons_zero, List.set_cons_succ])
    (refine' dSoft rfl ?hw (fun w_ hw_ => ?hy) ?_; (case hw => first | rfl | go_simp); (case hy => first | (go_simp; done) | (go_simp; rfl)))
    (try simp only [Act.put, List.setIfInBounds_toArray, List.set_cons_zero, List.set_cons_succ])
    (refine' dSoft rfl ?hw (fun w_ hw_ => ?hy) ?_; (case hw => first | rfl | go_simp); (case hy => first | (go_simp; done) | (go_simp; rfl)))
    (try simp only [Act.put, List.setIfInBounds_toArray, List.set_cons_zero, List.set_cons_succ])
    (first | (refine' dSkip rfl rfl ?_) | (refine' dSoft rfl ?hw (fun w_ hw_ => ?hy) ?_; (case hw => first | rfl | go_simp); (case hy => first | (go_simp; done) | (go_simp; rfl))))
    (try simp only [Act.put, List.setIfInBounds_toArray, List.set_cons_zero, List.set_cons_succ])
    (first | (refine' dSkip rfl rfl ?_) | (refine' dSoft rfl ?hw (fun w_ hw_ => ?hy) ?_; (case hw => first | rfl | go_simp); (case hy => first | (go_simp; done) | (go_simp; rfl))))
    (try simp only [Act.put, List.setIfInBounds_toArray, List.set_cons_zero, List.set_cons_succ])
    (first | (refine' dSkip rfl rfl ?_) | (refine' dSoft rfl ?hw (fun w_ hw_ => ?hy) ?_; (case hw => first | rfl | go_simp); (case hy => first | (go_simp; done) | (go_simp; rfl))))
    (try simp only [Act.put, List.setIfInBounds_toArray, List.set_cons_zero, List.set_cons_succ])
    (refine' dSoft rfl ?hw (fun w_ hw_ => ?hy) ?_; (case hw => first | rfl | go_simp); (case hy => first | (go_simp; done) | (go_simp; rfl)))
    (try simp only [Act.put, List.setIfInBounds_toArray, List.set_cons_zero, List.set_cons_succ])
    (refine' dSoft rfl ?hw (fun w_ hw_ => ?hy) ?_; (case hw => first | rfl | go_simp); (case hy => first | (go_simp; done) | (go_simp; rfl)))
    (try simp only [Act.put, List.setIfInBounds_toArray, List.set_cons_zero, List.set_cons_succ])
    (first | (refine' dSkip rfl rfl ?_) | (refine' dSoft rfl ?hw (fun w_ hw_ => ?hy) ?_; (case hw => first | rfl | go_simp); (case hy => first | (go_simp; done) | (go_simp; rfl))))
    (try simp only [Act.put, List.setIfInBounds_toArray, List.set_cons_zero, List.set_cons_succ])
    (first | (refine' dSkip rfl rfl ?_) | (refine' dSoft rfl ?hw (fun w_ hw_ => ?hy) ?_; (case hw => first | rfl | go_simp); (case hy => first | (go_simp; done) | (go_simp; rfl))))
    (try simp only [Act.put, List.setIfInBounds_toArray, List.set_cons_zero, List.set_cons_succ])
    (first | (refine' dSkip rfl rfl ?_) | (refine' dSoft rfl ?hw (fun w_ hw_ => ?hy) ?_; (case hw => first | rfl | go_simp); (case hy => first | (go_simp; done) | (go_simp; rfl))))
    (try simp only [Act.put, List.setIfInBounds_toArray, List.set_cons_zero, List.set_cons_succ])
    (refine' dSoft rfl ?hw (fun w_ hw_ => ?hy) ?_; (case hw => first | rfl | go_simp); (case hy => first | (go_simp; done) | (go_simp; rfl)))
    (try simp only [Act.put, List.setIfInBounds_toArray, List.set_cons_zero, List.set_cons_succ])
    (refine' dSoft rfl ?hw (fun w_ hw_ => ?hy) ?_; (case hw => first | rfl | go_simp); (case hy => first | (go_simp; done) | (go_simp; rfl)))
    (try simp only [Act.put, List.setIfInBounds_toArray, List.set_cons_zero, List.set_cons_succ])
    (first | (refine' dSkip rfl rfl ?_) | (first | (refine' dLoad rfl ?hw (fun w_ hw_ => hw_) ?hx ?hb ?hv ?_; (case hw => first | rfl | go_simp); (case hx => rfl); (case hb => (first | (apply Blk.loc; (repeat (first | (with_reducible exact List.mem_cons_self) | apply List.mem_cons_of_mem)); done) | (apply Blk.imm; with_reducible assumption))); (case hv => (simp only [ldv, List.length_cons, List.length_nil, List.drop_succ_cons, List.drop_zero, List.take_succ_cons, List.take_zero, List.getElem?_cons_succ, List.getElem?_cons_zero, Nat.reduceAdd, Nat.reduceMul, Nat.reduceLeDiff, Int.toNat_natCast, Int.toNat_zero, Int.toNat_one, Int.reduceToNat, Bool.false_eq_true, if_true, if_false, Nat.zero_add, Nat.zero_mul, Nat.one_mul]; exact rfl))) | (refine' dLoadC rfl ?hw (fun w_ hw_ => hw_) ?hx ?hc ?_; (case hw => first | rfl | go_simp); (case hx => rfl); (case hc => assumption))))
    (try simp only [Act.put, List.setIfInBounds_toArray, List.set_cons_zero, List.set_cons_succ])
    (first | (refine' dSkip rfl rfl ?_) | (refine' dSoft rfl ?hw (fun w_ hw_ => ?hy) ?_; (case hw => first | rfl | go_simp); (case hy => first | (go_simp; done) | (go_simp; rfl))))
    (try simp only [Act.put, List.setIfInBounds_toArray, List.set_cons_zero, List.set_cons_succ])
    (first | (refine' dSkip rfl rfl ?_) | (first | (refine' dLoad rfl ?hw (fun w_ hw_ => hw_) ?hx ?hb ?hv ?_; (case hw => first | rfl | go_simp); (case hx => rfl); (case hb => (first | (apply Blk.loc; (repeat (first | (with_reducible exact List.mem_cons_self) | apply List.mem_cons_of_mem)); done) | (apply Blk.imm; with_reducible assumption))); (case hv => (simp only [ldv, List.length_cons, List.length_nil, List.drop_succ_cons, List.drop_zero, List.take_succ_cons, List.take_zero, List.getElem?_cons_succ, List.getElem?_cons_zero, Nat.reduceAdd, Nat.reduceMul, Nat.reduceLeDiff, Int.toNat_natCast, Int.toNat_zero, Int.toNat_one, Int.reduceToNat, Bool.false_eq_true, if_true, if_false, Nat.zero_add, Nat.zero_mul, Nat.one_mul]; exact rfl))) | (refine' dLoadC rfl ?hw (fun w_ hw_ => hw_) ?hx ?hc ?_; (case hw => first | rfl | go_simp); (case hx => rfl); (case hc => assumption))))
    (try simp only [Act.put, List.setIfInBounds_toArray, List.set_cons_zero, List.set_cons_succ])
    (first | (refine' dSkip rfl rfl ?_) | (refine' dSoft rfl ?hw (fun w_ hw_ => ?hy) ?_; (case hw => first | rfl | go_simp); (case hy => first | (go_simp; done) | (go_simp; rfl))))
    (try simp only [Act.put, List.setIfInBounds_toArray, List.set_cons_zero, List.set_cons_succ])
    (refine' dSoft rfl ?hw (fun w_ hw_ => ?hy) ?_; (case hw => first | rfl | go_simp); (case hy => first | (go_simp; done) | (go_simp; rfl)))
    (try simp only [Act.put, List.setIfInBounds_toArray, List.set_cons_zero, List.set_cons_succ])
    (refine' dSoft rfl ?hw (fun w_ hw_ => ?hy) ?_; (case hw => first | rfl | go_simp); (case hy => first | (go_simp; done) | (go_simp; rfl)))
    (try simp only [Act.put, List.setIfInBounds_toArray, List.set_cons_zero, List.set_cons_succ])
    (first | (refine' dSkip rfl rfl ?_) | (refine' dSoft rfl ?hw (fun w_ hw_ => ?hy) ?_; (case hw => first | rfl | go_simp); (case hy => first | (go_simp; done) | (go_simp; rfl))))
    (try simp only [Act.put, List.setIfInBounds_toArray, List.set_cons_zero, List.set_cons_succ])
    (first | (refine' dSkip rfl rfl ?_) | (refine' dSoft rfl ?hw (fun w_ hw_ => ?hy) ?_; (case hw => first | rfl | go_simp); (case hy => first | (go_simp; done) | (go_simp; rfl))))
    (try simp only [Act.put, List.setIfInBounds_toArray, List.set_cons_zero, List.set_cons_succ])
    (refine' dSoft rfl ?hw (fun w_ hw_ => ?hy) ?_; (case hw => first | rfl | go_simp); (case hy => first | (go_simp; done) | (go_simp; rfl)))
    (try simp only [Act.put, List.setIfInBounds_toArray, List.set_cons_zero, List.set_cons_succ])
    (refine' dSoft rfl ?hw (fun w_ hw_ => ?hy) ?_; (case hw => first | rfl | go_simp); (case hy => first | (go_simp; done) | (go_simp; rfl)))
    (try simp only [Act.put, List.setIfInBounds_toArray, List.set_cons_zero, List.set_cons_succ])
    (first | (refine' dSkip rfl rfl ?_) | (refine' dSoft rfl ?hw (fun w_ hw_ => ?hy) ?_; (case hw => first | rfl | go_simp); (case hy => first | (go_simp; done) | (go_simp; rfl))))
    (try simp only [Act.put, List.setIfInBounds_toArray, List.set_cons_zero, List.set_cons_succ])
    (first | (refine' dSkip rfl rfl ?_) | (refine' dSoft rfl ?hw (fun w_ hw_ => ?hy) ?_; (case hw => first | rfl | go_simp); (case hy => first | (go_simp; done) | (go_simp; rfl))))
    (try simp only [Act.put, List.setIfInBounds_toArray, List.set_cons_zero, List.set_cons_succ])
    (refine' dSoft rfl ?hw (fun w_ hw_ => ?hy) ?_; (case hw => first | rfl | go_simp); (case hy => first | (go_simp; done) | (go_simp; rfl)))
    (try simp only [Act.put, List.setIfInBounds_toArray, List.set_cons_zero, List.set_cons_succ])
    (refine' dSoft rfl ?hw (fun w_ hw_ => ?hy) ?_; (case hw => first | rfl | go_simp); (case hy => first | (go_simp; done) | (go_simp; rfl)))
    (try simp only [Act.put, List.setIfInBounds_toArray, List.set_cons_zero, List.set_cons_succ])
    (first | (refine' dSkip rfl rfl ?_) | (first | (refine' dLoad rfl ?hw (fun w_ hw_ => hw_) ?hx ?hb ?hv ?_; (case hw => first | rfl | go_simp); (case hx => rfl); (case hb => (first | (apply Blk.loc; (repeat (first | (with_reducible exact List.mem_cons_self) | apply List.mem_cons_of_mem)); done) | (apply Blk.imm; with_reducible assumption))); (case hv => (simp only [ldv, List.length_cons, List.length_nil, List.drop_succ_cons, List.drop_zero, List.take_succ_cons, List.take_zero, List.getElem?_cons_succ, List.getElem?_cons_zero, Nat.reduceAdd, Nat.reduceMul, Nat.reduceLeDiff, Int.toNat_natCast, Int.toNat_zero, Int.toNat_one, Int.reduceToNat, Bool.false_eq_true, if_true, if_false, Nat.zero_add, Nat.zero_mul, Nat.one_mul]; exact rfl))) | (refine' dLoadC rfl ?hw (fun w_ hw_ => hw_) ?hx ?hc ?_; (case hw => first | rfl | go_simp); (case hx => rfl); (case hc => assumption))))
    (try simp only [Act.put, List.setIfInBounds_toArray, List.set_cons_zero, List.set_cons_succ])
    (first | (refine' dSkip rfl rfl ?_) | (refine' dSoft rfl ?hw (fun w_ hw_ => ?hy) ?_; (case hw => first | rfl | go_simp); (case hy => first | (go_simp; done) | (go_simp; rfl))))
    (try simp only [Act.put, List.setIfInBounds_toArray, List.set_cons_zero, List.set_cons_succ])
    (first | (refine' dSkip rfl rfl ?_) | (refine' dSoft rfl ?hw (fun w_ hw_ => ?hy) ?_; (case hw => first | rfl | go_simp); (case hy => first | (go_simp; done) | (go_simp; rfl))))
    (try simp only [Act.put, List.setIfInBounds_toArray, List.set_cons_zero, List.set_cons_succ])
    (first | (refine' dSkip rfl rfl ?_) | (refine' dSoft rfl ?hw (fun w_ hw_ => ?hy) ?_; (case hw => first | rfl | go_simp); (case hy => first | (go_simp; done) | (go_simp; rfl))))
    (try simp only [Act.put, List.setIfInBounds_toArray, List.set_cons_zero, List.set_cons_succ])
    (first | (refine' dSkip rfl rfl ?_) | (refine' dSub Tryd.underlying3 rfl ?hw ?hx ?hy ?hb ?_; (case hw => first | rfl | go_simp); (case hx => rfl); (case hy => rfl); (case hb => first | omega | (simp; omega))))
    (try simp only [Act.put, List.setIfInBounds_toArray, List.set_cons_zero, List.set_cons_succ])
    (first | (refine' dSkip rfl rfl ?_) | (refine' dSoft rfl ?hw (fun w_ hw_ => ?hy) ?_; (case hw => first | rfl | go_simp); (case hy => first | (go_simp; done) | (go_simp; rfl))))
    (try simp only [Act.put, List.setIfInBounds_toArray, List.set_cons_zero, List.set_cons_succ])
    (first | (refine' dSkip rfl rfl ?_) | (refine' dSub Tryd.underlying3 rfl ?hw ?hx ?hy ?hb ?_; (case hw => first | rfl | go_simp); (case hx => rfl); (case hy => rfl); (case hb => first | omega | (simp; omega))))
    (try simp only [Act.put, List.setIfInBounds_toArray, List.set_cons_zero, List.set_cons_succ])
    (refine' dIdxL rfl ?hw ?hx ?hb ?hix ?hj ?_; (case hw => first | rfl | go_simp); (case hx => rfl); (case hb => assumption); (case hix => rfl); (case hj => omega); intro b2_ o2_ hc_)
    have hcB := at_cells hc_ (x := (q, s2)) (by rw [hjm, Int.toNat_natCast]; exact HMX.out)
    have hcC : ∀ t u, [Value.int .i32 (s2.r : Nat), .int .i64 (s2.w : Nat), .bool s2.ok][t]? = some u → cellM M3 b2_ (o2_ + 1 + t) = some u := fun t u h => by rw [Nat.add_assoc, Nat.add_comm 1 t]; exact hcB (t + 1) u h
    (first | (refine' dSkip rfl rfl ?_) | (refine' dSoft rfl ?hw (fun w_ hw_ => ?hy) ?_; (case hw => first | rfl | go_simp); (case hy => first | (go_simp; done) | (go_simp; rfl))))
    (try simp only [Act.put, List.setIfInBounds_toArray, List.set_cons_zero, List.set_cons_succ])
    (refine' dLoadAggM (vs := [Value.int .i32 (s2.r : Nat), .int .i64 (s2.w : Nat), .bool s2.ok]) rfl ?hw (fun w_ hw_ => hw_) ?hx ?hc ?hl ?_; (case hw => first | rfl | go_simp); (case hx => rfl); (case hc => exact hcC); (case hl => rfl))
    (first | (refine' dSkip rfl rfl ?_) | (refine' dSoft rfl ?hw (fun w_ hw_ => ?hy) ?_; (case hw => first | rfl | go_simp); (case hy => first | (go_simp; done) | (go_simp; rfl))))
    (try simp only [Act.put, List.setIfInBounds_toArray, List.set_cons_zero, List.set_cons_succ])
    (refine' dSoft rfl ?hw (fun w_ hw_ => ?hy) ?_; (case hw => first | rfl | go_simp); (case hy => first | (go_simp; done) | (go_simp; rfl)))
    (try simp only [Act.put, List.setIfInBounds_toArray, List.set_cons_zero, List.set_cons_succ])
    refine lexD_end ?_
    go_wp2_with (first | ((with_reducible refine' st_alloc ?hw HS ?_); (case hw => rfl); intro b_ w_ HS_; clear HS; have HS := HS_; clear HS_) | ((with_reducible refine' st_box ?hw HS ?hx ?_); (case hw => rfl); (case hx => rfl); intro b_ w_ HS_; clear HS; have HS := HS_; clear HS_) | ((with_reducible refine' st_load ?hw HS ?hx ?hb ?hv ?_); (case hw => first | rfl | (go_simp; done)); (case hx => rfl); (case hb => (first | (apply Blk.loc; (repeat (first | (with_reducible exact List.mem_cons_self) | apply List.mem_cons_of_mem)); done) | (apply Blk.imm; with_reducible assumption))); (case hv => (simp only [ldv, List.length_cons, List.length_nil, List.drop_succ_cons, List.drop_zero, List.take_succ_cons, List.take_zero, List.getElem?_cons_succ, List.getElem?_cons_zero, Nat.reduceAdd, Nat.reduceMul, Nat.reduceLeDiff, Int.toNat_natCast, Int.toNat_zero, Int.toNat_one, Int.reduceToNat, Bool.false_eq_true, if_true, if_false, Nat.zero_add, Nat.zero_mul, Nat.one_mul]; exact rfl))) | ((with_reducible refine' st_store ?hw HS ?hx ?hy ?hr ?hl ?ho ?hoff ?hc ?_); (case hw => rfl); (case hx => rfl); (case hy => rfl); (case hr => repeat (first | exact Rep1.head _ | apply Rep1.tail)); (case hl => rfl); (case ho => rfl); (case hoff => exact Nat.le_of_ble_eq_true rfl); (case hc => (simp only [ovw, List.length_cons, List.length_nil, List.drop_succ_cons, List.drop_zero, List.take_succ_cons, List.take_zero, List.drop_nil, List.append_nil, List.nil_append, List.cons_append, Nat.reduceAdd, Nat.zero_add]; exact rfl)); intro w_ HS_; clear HS; have HS := HS_; clear HS_) | (go_at_call 27; (with_reducible refine (HU.out _ HS.imm).mono ?_); rintro e w_ ⟨Au, cu, rfl, hb_⟩; (have HS_ := HS.call hb_; clear HS hb_; have HS := HS_; clear HS_)))
    refine ⟨i + 1, ⟨by omega, p + s.w, q, u + uOf s.r, HNX.out, by rw [show n - (i + 1) = m from by omega]; exact HAQ.out, HUN.out.symm, actg rfl, HS.drop.drop.drop⟩, by omega⟩
  · obtain rfl : i = n := by omega
    have hpe : p = l.length := by rw [← hne] at hap; exact hap.last
    have hee : e = 0 := by rw [Nat.sub_self] at hae; exact hae.first
    subst hpe
    subst hee
    have hsb := AtStep.skipB i l.length 3 hap (by omega)
    have hsf := AtStep.skipF i 0 0 3 (AtStep.zero l) (by omega) (by omega)
    have hN := fun (w : World) (hi : Imm M3 w) (hc : w.heap[c1]? = some (curC (l.length : Nat) r)) => Next_end M3 r l HR3.out c1 hM1 w hi hc
    have hV : ∀ (w : World) (hi : Imm M3 w) (hc : w.heap[d1]? = some (curC (0 : Nat) r)), _ := fun (w : World) (hi : Imm M3 w) (hc : w.heap[d1]? = some (curC (0 : Nat) r)) => Prev_end M3 r l HR3.out d1 hM2 w hi hc
    have hP1 := fun (w : World) (hi : Imm M3 w) (hc : w.heap[c1]? = some (curC (l.length : Nat) r)) => Place_edge M3 HGM3.out r l HR3.out c1 l.length hple (inside_len l (Nat.le_refl _)) 1 (by decide) (by decide) hM1 w hi hc
    have hP2 := fun (w : World) (hi : Imm M3 w) (hc : w.heap[d1]? = some (curC 0 r)) => Place_edge M3 HGM3.out r l HR3.out d1 0 (Nat.zero_le _) (inside_at_zero l) 1 (by decide) (by decide) hM2 w hi hc
    rw [show zN 1 (l.take l.length) = l.length from (by show (l.take l.length).length = _; rw [List.take_length])] at hP1
    rw [show zN 1 (l.take 0) = 0 from rfl] at hP2
    have hB := fun (w : World) (hi : Imm M3 w) (hc : w.heap[c1]? = some (curC (l.length : Nat) r)) => Skip_bwd M3 HGM3.out r l HR3.out c1 l.length (Nat.le_refl _) (inside_len l (Nat.le_refl _)) (-(i : Int) - 3) (i + 3) (by omega) (by omega) hM1 w hi hc
    rw [hsb] at hB
    have hF := fun (w : World) (hi : Imm M3 w) (hc : w.heap[d1]? = some (curC 0 r)) => Skip_fwd M3 HGM3.out r l HR3.out d1 0 (Nat.zero_le _) (inside_at_zero l) ((i : Int) + 3) (by omega) (by omega) hM2 w hi hc
    rw [show ((i : Int) + 3).toNat = i + 3 from by omega, hsf] at hF
    have HN := Lib.hid hN; have HP1 := Lib.hid hP1; have HP2 := Lib.hid hP2; have HV := Lib.hid hV; have HB := Lib.hid hB; have HF := Lib.hid hF
    clear hN hV hP1 hP2 hB hF hsb hsf hap hae hu
    go_wp2_with (first | ((with_reducible refine' st_alloc ?hw HS ?_); (case hw => rfl); intro b_ w_ HS_; clear HS; have HS := HS_; clear HS_) | ((with_reducible refine' st_box ?hw HS ?hx ?_); (case hw => rfl); (case hx => rfl); intro b_ w_ HS_; clear HS; have HS := HS_; clear HS_) | ((with_reducible refine' st_load ?hw HS ?hx ?hb ?hv ?_); (case hw => first | rfl | (go_simp; done)); (case hx => rfl); (case hb => (first | (apply Blk.loc; (repeat (first | (with_reducible exact List.mem_cons_self) | apply List.mem_cons_of_mem)); done) | (apply Blk.imm; with_reducible assumption))); (case hv => (simp only [ldv, List.length_cons, List.length_nil, List.drop_succ_cons, List.drop_zero, List.take_succ_cons, List.take_zero, List.getElem?_cons_succ, List.getElem?_cons_zero, Nat.reduceAdd, Nat.reduceMul, Nat.reduceLeDiff, Int.toNat_natCast, Int.toNat_zero, Int.toNat_one, Int.reduceToNat, Bool.false_eq_true, if_true, if_false, Nat.zero_add, Nat.zero_mul, Nat.one_mul]; exact rfl))) | ((with_reducible refine' st_store ?hw HS ?hx ?hy ?hr ?hl ?ho ?hoff ?hc ?_); (case hw => rfl); (case hx => rfl); (case hy => rfl); (case hr => repeat (first | exact Rep1.head _ | apply Rep1.tail)); (case hl => rfl); (case ho => rfl); (case hoff => exact Nat.le_of_ble_eq_true rfl); (case hc => (simp only [ovw, List.length_cons, List.length_nil, List.drop_succ_cons, List.drop_zero, List.take_succ_cons, List.take_zero, List.drop_nil, List.append_nil, List.nil_append, List.cons_append, Nat.reduceAdd, Nat.zero_add]; exact rfl)); intro w_ HS_; clear HS; have HS := HS_; clear HS_) | (go_at_call 19; (with_reducible refine (HN.out _ HS.imm HS.at1).mono ?_); rintro e w_ ⟨rfl, ht⟩; have HS_ := HS.turn (.tail _ (.head _)) ht; clear HS; have HS := HS_; clear HS_) | (go_at_call 20; (with_reducible refine (HV.out _ HS.imm HS.at1).mono ?_); rintro e w_ ⟨rfl, ht⟩; have HS_ := HS.turn (.tail _ (.head _)) ht; clear HS; have HS := HS_; clear HS_) | (go_at_call 23; first | ((with_reducible refine (HP1.out _ HS.imm HS.at3).mono ?_); rintro e w_ ⟨rfl, hb_⟩; (have HS_ := HS.call hb_; clear HS hb_; have HS := HS_; clear HS_)) | ((with_reducible refine (HP2.out _ HS.imm HS.at2).mono ?_); rintro e w_ ⟨rfl, hb_⟩; (have HS_ := HS.call hb_; clear HS hb_; have HS := HS_; clear HS_))) | (go_at_call 21; first | ((with_reducible refine (HB.out _ HS.imm HS.at3).mono ?_); rintro e w_ ⟨rfl, ht⟩; have HS_ := HS.turn (.tail _ (.tail _ (.tail _ (.head _)))) ht; clear HS; have HS := HS_; clear HS_) | ((with_reducible refine (HF.out _ HS.imm HS.at2).mono ?_); rintro e w_ ⟨rfl, ht⟩; have HS_ := HS.turn (.tail _ (.tail _ (.head _))) ht; clear HS; have HS := HS_; clear HS_)))
    go_ret
    exact ⟨rfl, HS.below⟩
end Go.Proofs.YtbogoehjoglneaaDoor
