/- The reference's UnitsOf: how many units a step has. -/
import Derived.Test.YtbogoehjoglneaaDoorM9
import Derived.Test.YtbogoehjoglneaaDoorM5
import Derived.Test.YtbogoehjoglneaaDoorM3
set_option linter.unusedVariables false
set_option linter.unusedSimpArgs false
set_option linter.unnecessarySimpa false
set_option linter.unusedSectionVars false
namespace Go.Proofs.YtbogoehjoglneaaDoor
open Go.RowKit
set_option linter.unusedVariables false
set_option linter.unusedSimpArgs false
set_option maxRecDepth 100000
attribute [local go_sem] byt_drop byt_tail Int.toNat_natCast sOf_size

theorem UnitsOf_any (M : Mem) (s : Stp) (hs : s.r ≤ 1114111) (w : World) (hi : Imm M w) :
    Calls Tryd.prog 27 #[stV s] w fun e w' => ∃ A c, e = .returned (.slice A (uOf s.r) c) ∧ Below w.heap.size w w' := by
  have hs' : (s.r : Int) ≤ 1114111 := by omega
  unfold uOf
  by_cases h : 65535 < s.r
  · rw [if_pos h]
    have h' : (65535 : Int) < s.r := by omega
    (have HS := St.start hi; go_enter Tryd.func27, Tryd.ntmps27)
    go_wp2_with (first | ((with_reducible refine' st_alloc ?hw HS ?_); (case hw => rfl); intro b_ w_ HS_; clear HS; have HS := HS_; clear HS_) | ((with_reducible refine' st_box ?hw HS ?hx ?_); (case hw => rfl); (case hx => first | (go_simp; exact rfl) | rfl); intro b_ w_ HS_; clear HS; have HS := HS_; clear HS_) | ((with_reducible refine' st_load ?hw HS ?hx ?hb ?hv ?_); (case hw => first | rfl | (go_simp; done)); (case hx => rfl); (case hb => (first | (apply Blk.loc; (repeat (first | (with_reducible exact List.mem_cons_self) | apply List.mem_cons_of_mem)); done) | (apply Blk.imm; with_reducible assumption))); (case hv => (simp only [ldv, List.length_cons, List.length_nil, List.drop_succ_cons, List.drop_zero, List.take_succ_cons, List.take_zero, List.getElem?_cons_succ, List.getElem?_cons_zero, Nat.reduceAdd, Nat.reduceMul, Nat.reduceLeDiff, Int.toNat_natCast, Int.toNat_zero, Int.toNat_one, Int.reduceToNat, Bool.false_eq_true, if_true, if_false, Nat.zero_add, Nat.zero_mul, Nat.one_mul]; exact rfl))) | ((with_reducible refine' st_store ?hw HS ?hx ?hy ?hr ?hl ?ho ?hoff ?hc ?_); (case hw => rfl); (case hx => rfl); (case hy => first | (go_simp; exact rfl) | rfl); (case hr => repeat (first | exact Rep1.head _ | apply Rep1.tail)); (case hl => rfl); (case ho => rfl); (case hoff => exact Nat.le_of_ble_eq_true rfl); (case hc => (simp only [ovw, List.length_cons, List.length_nil, List.drop_succ_cons, List.drop_zero, List.take_succ_cons, List.take_zero, List.drop_nil, List.append_nil, List.nil_append, List.cons_append, Nat.reduceAdd, Nat.zero_add]; exact rfl)); intro w_ HS_; clear HS; have HS := HS_; clear HS_))
    go_ret
    exact ⟨_, _, rfl, (HS.alloc _).below⟩
  · rw [if_neg h]
    have h' : ¬ (65535 : Int) < s.r := by omega
    (have HS := St.start hi; go_enter Tryd.func27, Tryd.ntmps27)
    go_wp2_with (first | ((with_reducible refine' st_alloc ?hw HS ?_); (case hw => rfl); intro b_ w_ HS_; clear HS; have HS := HS_; clear HS_) | ((with_reducible refine' st_box ?hw HS ?hx ?_); (case hw => rfl); (case hx => first | (go_simp; exact rfl) | rfl); intro b_ w_ HS_; clear HS; have HS := HS_; clear HS_) | ((with_reducible refine' st_load ?hw HS ?hx ?hb ?hv ?_); (case hw => first | rfl | (go_simp; done)); (case hx => rfl); (case hb => (first | (apply Blk.loc; (repeat (first | (with_reducible exact List.mem_cons_self) | apply List.mem_cons_of_mem)); done) | (apply Blk.imm; with_reducible assumption))); (case hv => (simp only [ldv, List.length_cons, List.length_nil, List.drop_succ_cons, List.drop_zero, List.take_succ_cons, List.take_zero, List.getElem?_cons_succ, List.getElem?_cons_zero, Nat.reduceAdd, Nat.reduceMul, Nat.reduceLeDiff, Int.toNat_natCast, Int.toNat_zero, Int.toNat_one, Int.reduceToNat, Bool.false_eq_true, if_true, if_false, Nat.zero_add, Nat.zero_mul, Nat.one_mul]; exact rfl))) | ((with_reducible refine' st_store ?hw HS ?hx ?hy ?hr ?hl ?ho ?hoff ?hc ?_); (case hw => rfl); (case hx => rfl); (case hy => first | (go_simp; exact rfl) | rfl); (case hr => repeat (first | exact Rep1.head _ | apply Rep1.tail)); (case hl => rfl); (case ho => rfl); (case hoff => exact Nat.le_of_ble_eq_true rfl); (case hc => (simp only [ovw, List.length_cons, List.length_nil, List.drop_succ_cons, List.drop_zero, List.take_succ_cons, List.take_zero, List.drop_nil, List.append_nil, List.nil_append, List.cons_append, Nat.reduceAdd, Nat.zero_add]; exact rfl)); intro w_ HS_; clear HS; have HS := HS_; clear HS_))
    go_ret
    exact ⟨⟨_, _, rfl⟩, (HS.alloc _).below⟩
end Go.Proofs.YtbogoehjoglneaaDoor

/- Plain laws: the i-th edge of a text, steps counted from both ends. No Go, no memory. -/
namespace Go.Proofs.YtbogoehjoglneaaDoor
set_option linter.unusedVariables false
set_option linter.unusedSimpArgs false

/- p is the i-th edge. -/
structure AtStep (l : List UInt8) (i p : Nat) : Prop where
  le : p ≤ l.length
  edge : inside l p = 0
  pre : ∃ pre, steps l 0 = pre ++ steps (l.drop p) p ∧ pre.length = i ∧ (∀ f, S f (l.take p) = sumS f pre)

theorem AtStep.sum {l : List UInt8} {p : Nat} {pre : List (Nat × Stp)} (h : inside l p = 0) (hp : p ≤ l.length) (e : steps l 0 = pre ++ steps (l.drop p) p) (f : Stp → Nat) : S f (l.take p) = sumS f pre := by
  have h1 := S_edge f l.length l p (Nat.le_refl _) hp h
  have h2 := sumS_steps f l.length l 0 (Nat.le_refl _)
  have h3 := sumS_steps f l.length (l.drop p) p (by rw [List.length_drop]; omega)
  rw [e, sumS_append, h3] at h2
  omega
theorem AtStep.zero (l : List UInt8) : AtStep l 0 0 := ⟨Nat.zero_le _, inside_at_zero l, [], by simp, rfl, fun f => by simp [S_nil, sumS]⟩
theorem AtStep.of_edge {l : List UInt8} {q : Nat} (hq : q ≤ l.length) (h : inside l q = 0) : ∃ i, AtStep l i q := by
  obtain ⟨pre, e, _⟩ := steps_from (l := l) q 0 q (by omega) (Nat.zero_le _) hq (inside_at_zero l) h
  rw [List.drop_zero] at e
  exact ⟨pre.length, hq, h, pre, e, rfl, AtStep.sum h hq e⟩
theorem AtStep.uniq {l : List UInt8} {i j p : Nat} (h : AtStep l i p) (k : AtStep l j p) : i = j := by
  obtain ⟨a, e1, e2, _⟩ := h.pre
  obtain ⟨b, f1, f2, _⟩ := k.pre
  have h1 := congrArg List.length e1
  have h2 := congrArg List.length f1
  rw [List.length_append] at h1 h2
  omega
theorem AtStep.rest {l : List UInt8} {p : Nat} (hp : p < l.length) : steps (l.drop p) p = (p, stp (l.drop p)) :: steps (l.drop (p + (stp (l.drop p)).w)) (p + (stp (l.drop p)).w) := by
  have hne : l.drop p ≠ [] := fun e => by
    have h1 := congrArg List.length e
    rw [List.length_drop, List.length_nil] at h1
    omega
  rw [steps_cons hne, List.drop_drop]
theorem AtStep.next {l : List UInt8} {i p : Nat} (h : AtStep l i p) (hp : p < l.length) : AtStep l (i + 1) (p + (stp (l.drop p)).w) ∧ (steps l 0)[i]? = some (p, stp (l.drop p)) := by
  obtain ⟨pre, e, hl, hs⟩ := h.pre
  have hne : l.drop p ≠ [] := fun e => by
    have h1 := congrArg List.length e
    rw [List.length_drop, List.length_nil] at h1
    omega
  have hw := stp_len hne
  rw [List.length_drop] at hw
  rw [AtStep.rest hp] at e
  have e' : steps l 0 = (pre ++ [(p, stp (l.drop p))]) ++ steps (l.drop (p + (stp (l.drop p)).w)) (p + (stp (l.drop p)).w) := by rw [e]; simp
  refine ⟨⟨by omega, edge_next h.edge, _, e', by simp [hl], AtStep.sum (edge_next h.edge) (by omega) e'⟩, ?_⟩
  rw [e, List.getElem?_append_right (by omega), hl, Nat.sub_self]
  rfl
theorem AtStep.lt {l : List UInt8} {i p : Nat} (h : AtStep l i p) : i < (steps l 0).length ↔ p < l.length := by
  obtain ⟨pre, e, hl, hs⟩ := h.pre
  have h1 := congrArg List.length e
  rw [List.length_append, hl] at h1
  constructor
  · intro hi
    rcases Nat.lt_or_ge p l.length with h2 | h2
    · exact h2
    · rw [show l.drop p = [] from by simp; omega, steps_nil] at h1
      simp at h1; omega
  · intro hp
    rw [AtStep.rest hp, List.length_cons] at h1
    omega
theorem AtStep.end (l : List UInt8) : AtStep l (steps l 0).length l.length := by
  obtain ⟨i, h⟩ := AtStep.of_edge (l := l) (q := l.length) (Nat.le_refl _) (inside_len l (Nat.le_refl _))
  have h1 := h.lt
  obtain ⟨pre, e, hl, hs⟩ := h.pre
  have h2 := congrArg List.length e
  rw [List.drop_length, steps_nil, List.append_nil] at h2
  rw [hl] at h2
  rw [h2]; exact h
theorem AtStep.place {l : List UInt8} {i p q : Nat} {s : Stp} (h : AtStep l i p) (e : (steps l 0)[i]? = some (q, s)) : q = p ∧ s = stp (l.drop p) ∧ p < l.length := by
  have hlt : i < (steps l 0).length := (List.getElem?_eq_some_iff.1 e).1
  have hp := h.lt.1 hlt
  have := (h.next hp).2
  rw [e] at this
  simp only [Option.some.injEq, Prod.mk.injEq] at this
  exact ⟨this.1, this.2, hp⟩
theorem AtStep.prev {l : List UInt8} {i p : Nat} (h : AtStep l (i + 1) p) : 0 < p ∧ AtStep l i (floorN l (p - 1)) ∧ floorN l (p - 1) + (stp (l.drop (floorN l (p - 1)))).w = p ∧ floorN l (p - 1) < l.length := by
  have h0 : 0 < p := by
    rcases Nat.eq_zero_or_pos p with e | e
    · subst e
      have := h.uniq (AtStep.zero l)
      omega
    · exact e
  have hle := h.le
  have hpe := prev_edge h.edge h0 hle
  have hfl := floor_le l (p - 1)
  obtain ⟨j, hj⟩ := AtStep.of_edge (l := l) (q := floorN l (p - 1)) (by omega) (floor_edge l (p - 1))
  have hn := (hj.next (by omega)).1
  rw [hpe] at hn
  have := hn.uniq h
  obtain rfl : j = i := by omega
  exact ⟨h0, hj, hpe, by omega⟩
theorem AtStep.runes {l : List UInt8} {i p : Nat} (h : AtStep l i p) : runesN (l.take p) = i := by
  obtain ⟨pre, e, hl, hs⟩ := h.pre
  unfold runesN
  rw [hs, sumS_len, hl]
theorem AtStep.units {l : List UInt8} {i p : Nat} (h : AtStep l i p) (hp : p < l.length) : unitsN (l.take (p + (stp (l.drop p)).w)) = unitsN (l.take p) + uOf (stp (l.drop p)).r := by
  obtain ⟨pre, e, hl, hs⟩ := h.pre
  rw [AtStep.rest hp] at e
  have e' : steps l 0 = (pre ++ [(p, stp (l.drop p))]) ++ steps (l.drop (p + (stp (l.drop p)).w)) (p + (stp (l.drop p)).w) := by rw [e]; simp
  unfold unitsN
  rw [AtStep.sum (edge_next h.edge) (h.next hp).1.le e', hs, sumS_append]
  simp [sumS]
end Go.Proofs.YtbogoehjoglneaaDoor

/- WalkThere: plain laws of skips over all steps; calls in the form that the law makes. -/
namespace Go.Proofs.YtbogoehjoglneaaDoor
open Go.RowKit
set_option linter.unusedVariables false
set_option linter.unusedSimpArgs false
set_option maxRecDepth 100000
attribute [local go_sem] byt_drop byt_tail Int.toNat_natCast sOf_size

theorem AtStep.first {l : List UInt8} {p : Nat} (h : AtStep l 0 p) : p = 0 := by
  rcases Nat.eq_zero_or_pos p with e | e
  · exact e
  · have hle := h.le
    have hpe := prev_edge h.edge e hle
    have hfl := floor_le l (p - 1)
    obtain ⟨j, hj⟩ := AtStep.of_edge (l := l) (q := floorN l (p - 1)) (by omega) (floor_edge l (p - 1))
    have hn := (hj.next (by omega)).1
    rw [hpe] at hn
    have := hn.uniq h
    omega
theorem AtStep.last {l : List UInt8} {p : Nat} (h : AtStep l (steps l 0).length p) : p = l.length := by
  have h1 := h.lt
  have h2 := h.le
  omega
theorem AtStep.skipB {l : List UInt8} : ∀ (i p k : Nat), AtStep l i p → 0 < k → skipB l p (i + k) = (0, i)
  | 0, p, k, h, hk => by
    rw [h.first]
    obtain ⟨k, rfl⟩ : ∃ m, k = m + 1 := ⟨k - 1, by omega⟩
    simp [Go.Proofs.YtbogoehjoglneaaDoor.skipB]
  | i + 1, p, k, h, hk => by
    obtain ⟨h0, hp, _, _⟩ := h.prev
    rw [show i + 1 + k = (i + k) + 1 from by omega]
    simp only [Go.Proofs.YtbogoehjoglneaaDoor.skipB, if_pos h0]
    rw [AtStep.skipB i _ k hp hk]
theorem AtStep.skipF {l : List UInt8} : ∀ (m i p k : Nat), AtStep l i p → i + m = (steps l 0).length → 0 < k → skipF l p (m + k) = (l.length, m)
  | 0, i, p, k, h, hm, hk => by
    have hp : p = l.length := by rw [Nat.add_zero] at hm; subst hm; exact h.last
    subst hp
    obtain ⟨k, rfl⟩ : ∃ m, k = m + 1 := ⟨k - 1, by omega⟩
    simp [Go.Proofs.YtbogoehjoglneaaDoor.skipF]
  | m + 1, i, p, k, h, hm, hk => by
    have hp : p < l.length := h.lt.1 (by omega)
    rw [show m + 1 + k = (m + k) + 1 from by omega]
    simp only [Go.Proofs.YtbogoehjoglneaaDoor.skipF, if_pos hp]
    rw [AtStep.skipF m (i + 1) _ k (h.next hp).1 (by omega) hk]

theorem new_zero (M : Mem) (hG : Gl M) (r : Nat) (l : List UInt8) (hr : RopeAt M r l) (w : World) (hi : Imm M w) :
    Calls Tryd.prog 16 #[ptr r, .int .i64 0] w fun e w' => ∃ c, e = .returned (.tuple #[ptr c, .int .i64 0]) ∧ Below w.heap.size w w' ∧ w.heap.size ≤ c ∧ w'.heap[c]? = some (curC (0 : Nat) r) := by
  have := WNew_in M hG r l hr 0 (Nat.zero_le _) w hi
  rw [floor_self (inside_at_zero l)] at this
  exact this
theorem new_end (M : Mem) (hG : Gl M) (r : Nat) (l : List UInt8) (hr : RopeAt M r l) (w : World) (hi : Imm M w) :
    Calls Tryd.prog 16 #[ptr r, .int .i64 l.length] w fun e w' => ∃ c, e = .returned (.tuple #[ptr c, .int .i64 0]) ∧ Below w.heap.size w w' ∧ w.heap.size ≤ c ∧ w'.heap[c]? = some (curC (l.length : Nat) r) := by
  have := WNew_in M hG r l hr l.length (Nat.le_refl _) w hi
  rw [floor_self (inside_len l (Nat.le_refl _))] at this
  exact this
/- The steps from the beginning, as a slice. -/
theorem gone_zero (M : Mem) (hG : Gl M) (r : Nat) (l : List UInt8) (hr : RopeAt M r l) (b1 b2 : Nat) (h1 : M b1 = some (.cells [.int .i64 0].toArray 3 (0, 0))) (h2 : M b2 = some (.cells [ptr r].toArray 27 (0, 0))) (w : World) (hi : Imm M w) :
    Calls Tryd.prog 26 #[.func (.func 64) #[] #[ptr b1, ptr b2]] w fun e w' => ∃ A c M', e = .returned (.slice A (steps l 0).length c) ∧ Grew M M' w w' ∧ SL M' 4 A (steps l 0).length c ((steps l 0).flatMap atC) := by
  have hseq := Steps1_seq M hG r l hr b1 b2 0 (Nat.zero_le _) h1 h2
  rw [stepsF_edge (inside_at_zero l), List.drop_zero] at hseq
  have := hr.small
  have := steps_len l
  exact gone_any M _ _ (steps l 0) hseq (enters_of Tryd.func64 (by kernel_rfl) rfl) (by omega) w hi
end Go.Proofs.YtbogoehjoglneaaDoor
