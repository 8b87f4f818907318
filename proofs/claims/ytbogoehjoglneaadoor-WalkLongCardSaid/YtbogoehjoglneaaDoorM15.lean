/- Plain laws: skips from any place; the step found at a place, and ahead of one. -/
import Derived.Test.YtbogoehjoglneaaDoorM12
import Derived.Test.YtbogoehjoglneaaDoorM5
import Derived.Test.YtbogoehjoglneaaDoorM10
set_option linter.unusedVariables false
set_option linter.unusedSimpArgs false
set_option linter.unnecessarySimpa false
set_option linter.unusedSectionVars false
namespace Go.Proofs.YtbogoehjoglneaaDoor
open Go.RowKit
set_option linter.unusedVariables false
set_option linter.unusedSimpArgs false

theorem AtStep.edge_at {l : List UInt8} {i p : Nat} (h : AtStep l i p) : (edgesN l 0 (l.length + 1))[i]? = some p := by
  have hle := h.le_len
  rw [edges_all]
  rcases Nat.lt_or_ge i (steps l 0).length with hi | hi
  · have := (h.next (h.lt.1 hi)).2
    rw [List.getElem?_append_left (by simpa using hi), List.getElem?_map, this]
    rfl
  · have hi' : i = (steps l 0).length := by omega
    subst hi'
    rw [h.last, List.getElem?_append_right (by simp)]
    simp
theorem AtStep.skipF' {l : List UInt8} : ∀ (n i p : Nat), AtStep l i p → ∃ q, Go.Proofs.YtbogoehjoglneaaDoor.skipF l p n = (q, min n ((steps l 0).length - i)) ∧ AtStep l (i + min n ((steps l 0).length - i)) q
  | 0, i, p, h => ⟨p, by simp [Go.Proofs.YtbogoehjoglneaaDoor.skipF], by simpa using h⟩
  | n + 1, i, p, h => by
    by_cases hp : p < l.length
    · obtain ⟨q, e, k⟩ := AtStep.skipF' n (i + 1) _ (h.next hp).1
      have hi := h.lt.2 hp
      refine ⟨q, ?_, ?_⟩
      · simp only [Go.Proofs.YtbogoehjoglneaaDoor.skipF, if_pos hp, e]; congr 1; omega
      · rw [show i + min (n + 1) ((steps l 0).length - i) = i + 1 + min n ((steps l 0).length - (i + 1)) from by omega]; exact k
    · have hi : ¬ i < (steps l 0).length := fun c => hp (h.lt.1 c)
      refine ⟨p, ?_, ?_⟩
      · simp only [Go.Proofs.YtbogoehjoglneaaDoor.skipF, if_neg hp]; congr 1; omega
      · rw [show i + min (n + 1) ((steps l 0).length - i) = i from by omega]; exact h
theorem AtStep.skipB' {l : List UInt8} : ∀ (n i p : Nat), AtStep l i p → ∃ q, Go.Proofs.YtbogoehjoglneaaDoor.skipB l p n = (q, min n i) ∧ AtStep l (i - min n i) q
  | 0, i, p, h => ⟨p, by simp [Go.Proofs.YtbogoehjoglneaaDoor.skipB], by simpa using h⟩
  | n + 1, 0, p, h => by
    refine ⟨p, ?_, by simpa using h⟩
    rw [h.first]
    simp [Go.Proofs.YtbogoehjoglneaaDoor.skipB]
  | n + 1, i + 1, p, h => by
    obtain ⟨h0, hp, _, _⟩ := h.prev
    obtain ⟨q, e, k⟩ := AtStep.skipB' n i _ hp
    refine ⟨q, ?_, ?_⟩
    · simp only [Go.Proofs.YtbogoehjoglneaaDoor.skipB, if_pos h0, e]; congr 1; omega
    · rw [show i + 1 - min (n + 1) (i + 1) = i - min n i from by omega]; exact k

/- The first step of a list that has a property, and is there one? -/
def fnd (q : Nat × Stp → Bool) (xs : List (Nat × Stp)) : Stp × Bool := match xs.find? q with | some x => (x.2, true) | none => (⟨0, 0, false⟩, false)
theorem fnd_succ (q : Nat × Stp → Bool) {xs : List (Nat × Stp)} {j : Nat} {x : Nat × Stp} (h : xs[j]? = some x) :
    fnd q (xs.take (j + 1)) = if (fnd q (xs.take j)).2 = true then fnd q (xs.take j) else if q x = true then (x.2, true) else (⟨0, 0, false⟩, false) := by
  unfold fnd
  rw [List.take_add_one, h, List.find?_append]
  cases e : (xs.take j).find? q with
  | some y => simp
  | none =>
    cases c : q x <;> simp [c]
theorem fnd_step (q : Nat × Stp → Bool) {xs : List (Nat × Stp)} {j : Nat} {x : Nat × Stp} (h : xs[j]? = some x) {y : Stp} {there : Bool} (hy : fnd q (xs.take j) = (y, there)) :
    fnd q (xs.take (j + 1)) = if there = true then (y, true) else if q x = true then (x.2, true) else (y, false) := by
  rw [fnd_succ q h, hy]
  cases there with
  | true => rfl
  | false =>
    have : y = ⟨0, 0, false⟩ := by
      unfold fnd at hy
      split at hy
      · simp at hy
      · simpa using (congrArg Prod.fst hy).symm
    rw [this]
    rfl
def nextS (l : List UInt8) (p : Nat) : Stp × Bool := if p < l.length then (stp (l.drop p), true) else (⟨0, 0, false⟩, false)
def prevS (l : List UInt8) (p : Nat) : Stp × Bool := if 0 < p then (stp (l.drop (floorN l (p - 1))), true) else (⟨0, 0, false⟩, false)
theorem steps_wide {l : List UInt8} {x : Nat × Stp} (h : x ∈ steps l 0) : 1 ≤ x.2.w := by
  obtain ⟨i, hi⟩ := List.mem_iff_getElem?.1 h
  rw [(step_at hi).2.2]
  exact (stp_w _).1
theorem fnd_next {l : List UInt8} {p : Nat} (hp : p ≤ l.length) (h : inside l p = 0) : fnd (fun x => x.1 == p) (steps l 0) = nextS l p := by
  obtain ⟨pre, e, hpre⟩ := steps_from (l := l) p 0 p (by omega) (Nat.zero_le _) hp (inside_at_zero l) h
  rw [List.drop_zero] at e
  have hn : pre.find? (fun x => x.1 == p) = none := by
    rw [List.find?_eq_none]
    intro x hx hc
    have h1 := (hpre x hx).2.1
    have h2 := steps_wide (l := l) (x := x) (by rw [e]; exact List.mem_append_left _ hx)
    simp only [beq_iff_eq] at hc
    omega
  unfold fnd nextS
  rw [e, List.find?_append, hn]
  by_cases hlt : p < l.length
  · rw [AtStep.rest hlt, if_pos hlt]
    simp
  · rw [if_neg hlt, List.drop_of_length_le (by omega), steps_nil]
    simp
theorem fnd_prev {l : List UInt8} {p : Nat} (hp : p ≤ l.length) (h : inside l p = 0) : fnd (fun x => x.1 + x.2.w == p) (steps l 0) = prevS l p := by
  by_cases h0 : 0 < p
  · have hpe := prev_edge h h0 hp
    have hfl := floor_le l (p - 1)
    have hq := floor_edge l (p - 1)
    unfold prevS
    rw [if_pos h0]
    generalize floorN l (p - 1) = q at *
    obtain ⟨pre, e, hpre⟩ := steps_from (l := l) q 0 q (by omega) (Nat.zero_le _) (by omega) (inside_at_zero l) hq
    rw [List.drop_zero] at e
    have hn : pre.find? (fun x => x.1 + x.2.w == p) = none := by
      rw [List.find?_eq_none]
      intro x hx hc
      have h1 := (hpre x hx).2.1
      simp only [beq_iff_eq] at hc
      omega
    unfold fnd
    rw [e, List.find?_append, hn, AtStep.rest (by omega)]
    simp [hpe]
  · obtain rfl : p = 0 := by omega
    unfold fnd prevS
    have hn : (steps l 0).find? (fun x => x.1 + x.2.w == 0) = none := by
      rw [List.find?_eq_none]
      intro x hx hc
      have h2 := steps_wide hx
      simp only [beq_iff_eq] at hc
      omega
    rw [hn]
    simp
theorem nextS_at {l : List UInt8} {i p : Nat} (h : AtStep l i p) : ∃ j, AtStep l j (p + (nextS l p).1.w) := by
  unfold nextS
  split
  · rename_i hp; exact ⟨_, (h.next hp).1⟩
  · exact ⟨i, h⟩
theorem prevS_at {l : List UInt8} {i p : Nat} (h : AtStep l i p) : (prevS l p).1.w ≤ p ∧ ∃ j, AtStep l j (p - (prevS l p).1.w) := by
  unfold prevS
  split
  · rename_i hp
    have hpe := prev_edge h.edge hp h.le
    have hq := floor_edge l (p - 1)
    have hle := h.le
    generalize floorN l (p - 1) = q at *
    refine ⟨by show (stp (l.drop q)).w ≤ p; omega, ?_⟩
    show ∃ j, AtStep l j (p - (stp (l.drop q)).w)
    rw [show p - (stp (l.drop q)).w = q from by omega]
    exact AtStep.of_edge (by omega) hq
  · exact ⟨Nat.zero_le _, i, h⟩
theorem nextS_zero {l : List UInt8} {p : Nat} (h : (nextS l p).2 = false) : (nextS l p).1 = ⟨0, 0, false⟩ := by
  unfold nextS at *
  split at h
  · cases h
  · rename_i hp; rw [if_neg hp]
theorem prevS_zero {l : List UInt8} {p : Nat} (h : (prevS l p).2 = false) : (prevS l p).1 = ⟨0, 0, false⟩ := by
  unfold prevS at *
  split at h
  · cases h
  · rename_i hp; rw [if_neg hp]
end Go.Proofs.YtbogoehjoglneaaDoor

/- A cursor's calls at any edge, and of a nil cursor; the walk laws' skipped. -/
namespace Go.Proofs.YtbogoehjoglneaaDoor
open Go.RowKit
set_option linter.unusedVariables false
set_option linter.unusedSimpArgs false
set_option maxRecDepth 100000
attribute [local go_sem] byt_drop byt_tail Int.toNat_natCast sOf_size

theorem Next_at (M : Mem) (hG : Gl M) (r : Nat) (l : List UInt8) (hr : RopeAt M r l) (c p : Nat) (hp : p ≤ l.length) (h0 : inside l p = 0) (hM : M c = none) (w : World) (hi : Imm M w) (hc : w.heap[c]? = some (curC p r)) :
    Calls Tryd.prog 19 #[ptr c] w fun e w' => e = .returned (.tuple #[stV (nextS l p).1, .bool (nextS l p).2]) ∧ Turned c (curC (p + (nextS l p).1.w : Nat) r) w w' := by
  unfold nextS
  split
  · exact Next_in M hG r l hr c p (by assumption) h0 hM w hi hc
  · obtain rfl : p = l.length := by omega
    exact Next_end M r l hr c hM w hi hc
theorem Prev_at (M : Mem) (hG : Gl M) (r : Nat) (l : List UInt8) (hr : RopeAt M r l) (c p : Nat) (hp : p ≤ l.length) (h0 : inside l p = 0) (hM : M c = none) (w : World) (hi : Imm M w) (hc : w.heap[c]? = some (curC p r)) :
    Calls Tryd.prog 20 #[ptr c] w fun e w' => e = .returned (.tuple #[stV (prevS l p).1, .bool (prevS l p).2]) ∧ Turned c (curC (p - (prevS l p).1.w : Nat) r) w w' := by
  unfold prevS
  split
  · have hpe := prev_edge h0 (by assumption) hp
    obtain ⟨q, hq⟩ : ∃ q, q = floorN l (p - 1) := ⟨_, rfl⟩
    rw [← hq] at hpe ⊢
    obtain ⟨s, hs⟩ : ∃ s, s = stp (l.drop q) := ⟨_, rfl⟩
    rw [← hs] at hpe ⊢
    have := Prev_in M hG r l hr c p q s (by assumption) hp hq hs hpe hM w hi hc
    have e : p - s.w = q := by omega
    simp only [e]
    exact this
  · obtain rfl : p = 0 := by omega
    exact Prev_end M r l hr c hM w hi hc
theorem Skip_at (M : Mem) (hG : Gl M) (r : Nat) (l : List UInt8) (hr : RopeAt M r l) (c i p : Nat) (ha : AtStep l i p) (n : Int) (hn1 : -9223372036854775808 ≤ n) (hn2 : n ≤ 9223372036854775807) (hM : M c = none) :
    ∃ (j q k : Nat), AtStep l j q ∧ ((0 ≤ n ∧ j = i + k ∧ k = min n.toNat ((steps l 0).length - i)) ∨ (n < 0 ∧ j + k = i ∧ k = min (-n).toNat i)) ∧ ∀ (w : World) (hi : Imm M w) (hc : w.heap[c]? = some (curC p r)),
      Calls Tryd.prog 21 #[ptr c, .int .i64 n] w fun e w' => e = .returned (.int .i64 (k : Nat)) ∧ Turned c (curC (q : Nat) r) w w' := by
  by_cases h : 0 ≤ n
  · obtain ⟨q, e, ha2⟩ := AtStep.skipF' n.toNat i p ha
    obtain ⟨k, hk⟩ : ∃ k, k = min n.toNat ((steps l 0).length - i) := ⟨_, rfl⟩
    rw [← hk] at e ha2
    refine ⟨i + k, q, k, ha2, .inl ⟨h, rfl, hk⟩, fun w hi hc => ?_⟩
    have := Skip_fwd M hG r l hr c p ha.le ha.edge n h hn2 hM w hi hc
    rwa [e] at this
  · obtain ⟨q, e, ha2⟩ := AtStep.skipB' (-n).toNat i p ha
    obtain ⟨k, hk⟩ : ∃ k, k = min (-n).toNat i := ⟨_, rfl⟩
    rw [← hk] at e ha2
    refine ⟨i - k, q, k, ha2, .inr ⟨by omega, by omega, hk⟩, fun w hi hc => ?_⟩
    have := Skip_bwd M hG r l hr c p ha.le ha.edge n (-n).toNat (by omega) hn1 hM w hi hc
    rwa [e] at this

theorem Skip_nil (M : Mem) (n : Int) (w : World) (hi : Imm M w) :
    Calls Tryd.prog 21 #[.pointer none, .int .i64 n] w fun e w' => e = .returned (.int .i64 0) ∧ Below w.heap.size w w' := by
  rcases Int.lt_trichotomy n 0 with h | h | h
  · have h2 : ¬ 0 < n := by omega
    (have HS := St.start hi; go_enter Tryd.func21, Tryd.ntmps21)
    go_wp2_with (first | ((with_reducible refine' q_alloc ?_); refine' a_alloc HS ?_; clear HS; intro b_ w_ HS) | ((with_reducible refine' q_box ?_); refine' a_box HS ?_; clear HS; intro b_ w_ HS) | ((with_reducible refine' q_load ?_); refine' a_load HS ?_) | ((with_reducible refine' q_store ?_); refine' a_store HS ?_; clear HS; intro w_ HS))
    refine wp_loop_st (σ := Unit) (fun _ a w2 => (∃ g2 g3 g4 g6 g7 g8 g9 g10 g11 g12 g13 g14 g15 g16 g17 g18 g19 g20 g21 g22 g23 g24 g25 g26 g27 g28 g29 g30 g31 g32 g33 g34 g35 g36 g37 g38 : Value, a = { tmps := #[.pointer none, .int .i64 n, g2, g3, g4, .int .i64 0, g6, g7, g8, g9, g10, g11, g12, g13, g14, g15, g16, g17, g18, g19, g20, g21, g22, g23, g24, g25, g26, g27, g28, g29, g30, g31, g32, g33, g34, g35, g36, g37, g38], defers := [] }) ∧ St (fun k => w.heap.size ≤ k) w w2 M []) (fun _ => 0) () ⟨⟨_, _, _, _, _, _, _, _, _, _, _, _, _, _, _, _, _, _, _, _, _, _, _, _, _, _, _, _, _, _, _, _, _, _, _, _, rfl⟩, HS⟩ ?_
    clear HS
    rintro _ a w2 ⟨⟨g2, g3, g4, g6, g7, g8, g9, g10, g11, g12, g13, g14, g15, g16, g17, g18, g19, g20, g21, g22, g23, g24, g25, g26, g27, g28, g29, g30, g31, g32, g33, g34, g35, g36, g37, g38, rfl⟩, HS⟩
    go_wp2_with (first | ((with_reducible refine' q_alloc ?_); refine' a_alloc HS ?_; clear HS; intro b_ w_ HS) | ((with_reducible refine' q_box ?_); refine' a_box HS ?_; clear HS; intro b_ w_ HS) | ((with_reducible refine' q_load ?_); refine' a_load HS ?_) | ((with_reducible refine' q_store ?_); refine' a_store HS ?_; clear HS; intro w_ HS))
    refine wp_loop_st (σ := Unit) (fun _ a w2 => (∃ g2 g3 g4 g6 g7 g8 g9 g10 g11 g12 g13 g14 g15 g16 g17 g18 g19 g20 g21 g22 g23 g24 g25 g26 g27 g28 g29 g30 g31 g32 g33 g34 g35 g36 g37 g38 : Value, a = { tmps := #[.pointer none, .int .i64 n, g2, g3, g4, .int .i64 0, g6, g7, g8, g9, g10, g11, g12, g13, g14, g15, g16, g17, g18, g19, g20, g21, g22, g23, g24, g25, g26, g27, g28, g29, g30, g31, g32, g33, g34, g35, g36, g37, g38], defers := [] }) ∧ St (fun k => w.heap.size ≤ k) w w2 M []) (fun _ => 0) () ⟨⟨_, _, _, _, _, _, _, _, _, _, _, _, _, _, _, _, _, _, _, _, _, _, _, _, _, _, _, _, _, _, _, _, _, _, _, _, rfl⟩, HS⟩ ?_
    clear HS
    rintro _ a w2 ⟨⟨g2, g3, g4, g6, g7, g8, g9, g10, g11, g12, g13, g14, g15, g16, g17, g18, g19, g20, g21, g22, g23, g24, g25, g26, g27, g28, g29, g30, g31, g32, g33, g34, g35, g36, g37, g38, rfl⟩, HS⟩
    go_wp2_with (first | ((with_reducible refine' q_alloc ?_); refine' a_alloc HS ?_; clear HS; intro b_ w_ HS) | ((with_reducible refine' q_box ?_); refine' a_box HS ?_; clear HS; intro b_ w_ HS) | ((with_reducible refine' q_load ?_); refine' a_load HS ?_) | ((with_reducible refine' q_store ?_); refine' a_store HS ?_; clear HS; intro w_ HS) | (go_at_call 20; (with_reducible refine (Prev_nil M _ HS.imm).mono ?_); rintro e w_ ⟨rfl, hb_⟩; have HS_ := HS.call hb_; clear HS hb_; have HS := HS_; clear HS_))
    go_ret
    exact ⟨rfl, HS.below⟩
  · subst h
    (have HS := St.start hi; go_enter Tryd.func21, Tryd.ntmps21)
    go_wp2_with (first | ((with_reducible refine' q_alloc ?_); refine' a_alloc HS ?_; clear HS; intro b_ w_ HS) | ((with_reducible refine' q_box ?_); refine' a_box HS ?_; clear HS; intro b_ w_ HS) | ((with_reducible refine' q_load ?_); refine' a_load HS ?_) | ((with_reducible refine' q_store ?_); refine' a_store HS ?_; clear HS; intro w_ HS))
    refine wp_loop_st (σ := Unit) (fun _ a w2 => (∃ g2 g3 g4 g6 g7 g8 g9 g10 g11 g12 g13 g14 g15 g16 g17 g18 g19 g20 g21 g22 g23 g24 g25 g26 g27 g28 g29 g30 g31 g32 g33 g34 g35 g36 g37 g38 : Value, a = { tmps := #[.pointer none, .int .i64 0, g2, g3, g4, .int .i64 0, g6, g7, g8, g9, g10, g11, g12, g13, g14, g15, g16, g17, g18, g19, g20, g21, g22, g23, g24, g25, g26, g27, g28, g29, g30, g31, g32, g33, g34, g35, g36, g37, g38], defers := [] }) ∧ St (fun k => w.heap.size ≤ k) w w2 M []) (fun _ => 0) () ⟨⟨_, _, _, _, _, _, _, _, _, _, _, _, _, _, _, _, _, _, _, _, _, _, _, _, _, _, _, _, _, _, _, _, _, _, _, _, rfl⟩, HS⟩ ?_
    clear HS
    rintro _ a w2 ⟨⟨g2, g3, g4, g6, g7, g8, g9, g10, g11, g12, g13, g14, g15, g16, g17, g18, g19, g20, g21, g22, g23, g24, g25, g26, g27, g28, g29, g30, g31, g32, g33, g34, g35, g36, g37, g38, rfl⟩, HS⟩
    go_wp2_with (first | ((with_reducible refine' q_alloc ?_); refine' a_alloc HS ?_; clear HS; intro b_ w_ HS) | ((with_reducible refine' q_box ?_); refine' a_box HS ?_; clear HS; intro b_ w_ HS) | ((with_reducible refine' q_load ?_); refine' a_load HS ?_) | ((with_reducible refine' q_store ?_); refine' a_store HS ?_; clear HS; intro w_ HS))
    refine wp_loop_st (σ := Unit) (fun _ a w2 => (∃ g2 g3 g4 g6 g7 g8 g9 g10 g11 g12 g13 g14 g15 g16 g17 g18 g19 g20 g21 g22 g23 g24 g25 g26 g27 g28 g29 g30 g31 g32 g33 g34 g35 g36 g37 g38 : Value, a = { tmps := #[.pointer none, .int .i64 0, g2, g3, g4, .int .i64 0, g6, g7, g8, g9, g10, g11, g12, g13, g14, g15, g16, g17, g18, g19, g20, g21, g22, g23, g24, g25, g26, g27, g28, g29, g30, g31, g32, g33, g34, g35, g36, g37, g38], defers := [] }) ∧ St (fun k => w.heap.size ≤ k) w w2 M []) (fun _ => 0) () ⟨⟨_, _, _, _, _, _, _, _, _, _, _, _, _, _, _, _, _, _, _, _, _, _, _, _, _, _, _, _, _, _, _, _, _, _, _, _, rfl⟩, HS⟩ ?_
    clear HS
    rintro _ a w2 ⟨⟨g2, g3, g4, g6, g7, g8, g9, g10, g11, g12, g13, g14, g15, g16, g17, g18, g19, g20, g21, g22, g23, g24, g25, g26, g27, g28, g29, g30, g31, g32, g33, g34, g35, g36, g37, g38, rfl⟩, HS⟩
    go_wp2_with (first | ((with_reducible refine' q_alloc ?_); refine' a_alloc HS ?_; clear HS; intro b_ w_ HS) | ((with_reducible refine' q_box ?_); refine' a_box HS ?_; clear HS; intro b_ w_ HS) | ((with_reducible refine' q_load ?_); refine' a_load HS ?_) | ((with_reducible refine' q_store ?_); refine' a_store HS ?_; clear HS; intro w_ HS))
    go_ret
    exact ⟨rfl, HS.below⟩
  · (have HS := St.start hi; go_enter Tryd.func21, Tryd.ntmps21)
    go_wp2_with (first | ((with_reducible refine' q_alloc ?_); refine' a_alloc HS ?_; clear HS; intro b_ w_ HS) | ((with_reducible refine' q_box ?_); refine' a_box HS ?_; clear HS; intro b_ w_ HS) | ((with_reducible refine' q_load ?_); refine' a_load HS ?_) | ((with_reducible refine' q_store ?_); refine' a_store HS ?_; clear HS; intro w_ HS))
    refine wp_loop_st (σ := Unit) (fun _ a w2 => (∃ g2 g3 g4 g6 g7 g8 g9 g10 g11 g12 g13 g14 g15 g16 g17 g18 g19 g20 g21 g22 g23 g24 g25 g26 g27 g28 g29 g30 g31 g32 g33 g34 g35 g36 g37 g38 : Value, a = { tmps := #[.pointer none, .int .i64 n, g2, g3, g4, .int .i64 0, g6, g7, g8, g9, g10, g11, g12, g13, g14, g15, g16, g17, g18, g19, g20, g21, g22, g23, g24, g25, g26, g27, g28, g29, g30, g31, g32, g33, g34, g35, g36, g37, g38], defers := [] }) ∧ St (fun k => w.heap.size ≤ k) w w2 M []) (fun _ => 0) () ⟨⟨_, _, _, _, _, _, _, _, _, _, _, _, _, _, _, _, _, _, _, _, _, _, _, _, _, _, _, _, _, _, _, _, _, _, _, _, rfl⟩, HS⟩ ?_
    clear HS
    rintro _ a w2 ⟨⟨g2, g3, g4, g6, g7, g8, g9, g10, g11, g12, g13, g14, g15, g16, g17, g18, g19, g20, g21, g22, g23, g24, g25, g26, g27, g28, g29, g30, g31, g32, g33, g34, g35, g36, g37, g38, rfl⟩, HS⟩
    go_wp2_with (first | ((with_reducible refine' q_alloc ?_); refine' a_alloc HS ?_; clear HS; intro b_ w_ HS) | ((with_reducible refine' q_box ?_); refine' a_box HS ?_; clear HS; intro b_ w_ HS) | ((with_reducible refine' q_load ?_); refine' a_load HS ?_) | ((with_reducible refine' q_store ?_); refine' a_store HS ?_; clear HS; intro w_ HS) | (go_at_call 19; (with_reducible refine (Next_nil M _ HS.imm).mono ?_); rintro e w_ ⟨rfl, hb_⟩; have HS_ := HS.call hb_; clear HS hb_; have HS := HS_; clear HS_))
    go_ret
    exact ⟨rfl, HS.below⟩

set_option maxHeartbeats 2000000 in
theorem skipped_any (M : Mem) (A : Option Addr) (c n : Nat) (l : List UInt8) (hb : BS M A c l) (hn : n = l.length) (hl : l.length ≤ 268435456) (i p : Nat) (ha : AtStep l i p) (z : Int) (hz1 : -9223372036854775808 ≤ z) (hz2 : z ≤ 9223372036854775807)
    (j q k : Nat) (haq : AtStep l j q) (hjk : (0 ≤ z ∧ j = i + k ∧ k = min z.toNat ((steps l 0).length - i)) ∨ (z < 0 ∧ j + k = i ∧ k = min (-z).toNat i)) (w : World) (hi : Imm M w) :
    Calls Tryd.prog 22 #[.slice A n c, .int .i64 p, .int .i64 z] w fun e w' => e = .returned (.tuple #[.int .i64 (q : Nat), .int .i64 (k : Nat)]) ∧ Below w.heap.size w w' := by
  subst hn
  have HB := Lib.hid hb; clear hb
  have hE0 := fun w hi => Edges_any M A c l.length l HB.out rfl hl w hi
  rw [edges_len] at hE0
  have HE := Lib.hid hE0; clear hE0
  have hiN := ha.le_len
  have hjN := haq.le_len
  have hNl := steps_len l
  have hes : ∀ j q, AtStep l j q → ((edgesN l 0 (l.length + 1)).map iv)[j]? = some (iv q) := fun j q h => by rw [List.getElem?_map, h.edge_at]; rfl
  have HQ := Lib.hid (hes j q haq)
  have HES := Lib.hid hes; clear hes
  have HAT := Lib.hid (fun j h => AtStep.at_ (l := l) j h)
  have HA := Lib.hid ha; clear ha
  clear haq
  generalize hN : (steps l 0).length = N at *
  clear hN
  (have HS := St.start hi; go_enter Tryd.func22, Tryd.ntmps22)
  go_wp2_with (first | (go_at_call 59; (with_reducible refine (HE.out _ HS.imm).mono ?_); rintro e w_ ⟨A1, c1, M1, rfl, hg1, hE⟩; have hs_hg1 := HS.moved.size; have HS_ := HS.callM hg1.below hg1.fresh hg1.imm; clear HS; have HS := HS_; clear HS_))
  refine wp_loop_st (σ := Nat) (fun t a w1 => t ≤ i ∧ (∃ g : Nat → Value, a = { tmps := #[g 0, .int .i64 p, .int .i64 z, g 3, g 4, g 5, g 6, g 7, .slice A1 (N + 1) c1, .int .i64 (t : Nat), g 10, g 11, g 12, g 13, g 14, g 15, g 16, g 17, g 18, g 19, g 20, g 21, g 22, g 23, g 24, g 25, g 26, g 27, g 28, g 29, g 30, g 31, g 32, g 33, g 34, g 35, g 36, g 37, g 38, g 39, g 40, g 41, g 42, g 43, g 44, g 45, g 46, g 47], defers := [] }) ∧ St (fun k => w.heap.size ≤ k) w w1 M1 []) (fun t => i - t) 0
    ⟨Nat.zero_le _, actg rfl, HS⟩ ?_
  clear HS hi
  rintro t a w1 ⟨ht, ⟨g, rfl⟩, HS⟩
  have htN : (t : Int) < (N : Int) + 1 := by omega
  have hTN := Lib.hid htN
  obtain ⟨x, hx⟩ := HAT.out t (by omega)
  have HX := Lib.hid (HES.out _ _ hx)
  by_cases hlt : t < i
  · have hne : ¬ ((x : Int) = p) := fun e => by
      obtain rfl : x = p := by omega
      have := hx.uniq HA.out
      omega
    clear hjk
    go_wp2_with (first | (((with_reducible refine' st_idx_sl ?hw ?hx ?hb ?hi ?hj ?_); (case hw => rfl); (case hx => first | exact eval_lit rfl | rfl); (case hb => assumption); (case hi => first | exact eval_lit rfl | rfl); (case hj => first | omega | (simp; omega)); intro b_ o_ hc_); have hcB : cellM M1 b_ o_ = some (.int .i64 (x : Nat)) := by have := hc_ 0 (iv x) (by simpa using HX.out); rwa [Nat.add_zero] at this) | (clear hc_; ((with_reducible refine' st_load_cellM ?hw HS ?hx ?hc ?_); (case hw => rfl); (case hx => first | exact eval_lit rfl | rfl); (case hc => assumption))))
    exact ⟨t + 1, ⟨by omega, actg rfl, HS⟩, by omega⟩
  · obtain rfl : t = i := by omega
    have hxp : x = p := by
      have h1 := hx.edge_at
      rw [HA.out.edge_at] at h1
      exact (Option.some.inj h1).symm
    subst hxp
    clear hx
    rcases hjk with ⟨h0, hj1, hk1⟩ | ⟨h0, hj1, hk1⟩
    · have HJ := Lib.hid hj1; clear hj1
      have h9 : ¬ z < -(t : Int) := by omega
      rcases Int.lt_trichotomy z ((N : Int) - t) with hc | hc | hc
      · have hk : z = (k : Nat) := by omega
        have hkN : (t : Int) + k < (N : Int) + 1 := by omega
        subst hk
        clear hk1 h0
        go_wp2_with (first | (((with_reducible refine' st_idx_sl ?hw ?hx ?hb ?hi ?hj ?_); (case hw => rfl); (case hx => first | exact eval_lit rfl | rfl); (case hb => assumption); (case hi => first | exact eval_lit rfl | rfl); (case hj => first | omega | (simp; omega)); intro b_ o_ hc_); have hcB : cellM M1 b_ o_ = some (.int .i64 (x : Nat)) := by have := hc_ 0 (iv x) (by simpa using HX.out); rwa [Nat.add_zero] at this) | (((with_reducible refine' st_idx_sl ?hw ?hx ?hb ?hi ?hj ?_); (case hw => rfl); (case hx => first | exact eval_lit rfl | rfl); (case hb => assumption); (case hi => first | exact eval_lit rfl | rfl); (case hj => first | omega | (simp; omega)); intro b_ o_ hc_); have hcB : cellM M1 b_ o_ = some (.int .i64 (q : Nat)) := by have := hc_ 0 (iv q) ((congrArg (fun m => (List.map iv (edgesN l 0 (l.length + 1)))[m]?) (by have := HJ.out; omega)).trans HQ.out); rwa [Nat.add_zero] at this) | (clear hc_; ((with_reducible refine' st_load_cellM ?hw HS ?hx ?hc ?_); (case hw => rfl); (case hx => first | exact eval_lit rfl | rfl); (case hc => assumption))))
        go_ret2
        exact ⟨by first | rfl | (simp; done) | (simp; omega), HS.below⟩
      · have hk : z = (k : Nat) := by omega
        have hkN : (t : Int) + k < (N : Int) + 1 := by omega
        subst hk
        clear hk1 h0
        have h8 : N = t + k := by omega
        subst h8
        clear hc
        go_wp2_with (first | (((with_reducible refine' st_idx_sl ?hw ?hx ?hb ?hi ?hj ?_); (case hw => rfl); (case hx => first | exact eval_lit rfl | rfl); (case hb => assumption); (case hi => first | exact eval_lit rfl | rfl); (case hj => first | omega | (simp; omega)); intro b_ o_ hc_); have hcB : cellM M1 b_ o_ = some (.int .i64 (x : Nat)) := by have := hc_ 0 (iv x) (by simpa using HX.out); rwa [Nat.add_zero] at this) | (((with_reducible refine' st_idx_sl ?hw ?hx ?hb ?hi ?hj ?_); (case hw => rfl); (case hx => first | exact eval_lit rfl | rfl); (case hb => assumption); (case hi => first | exact eval_lit rfl | rfl); (case hj => first | omega | (simp; omega)); intro b_ o_ hc_); have hcB : cellM M1 b_ o_ = some (.int .i64 (q : Nat)) := by have := hc_ 0 (iv q) ((congrArg (fun m => (List.map iv (edgesN l 0 (l.length + 1)))[m]?) (by have := HJ.out; omega)).trans HQ.out); rwa [Nat.add_zero] at this) | (clear hc_; ((with_reducible refine' st_load_cellM ?hw HS ?hx ?hc ?_); (case hw => rfl); (case hx => first | exact eval_lit rfl | rfl); (case hc => assumption))))
        go_ret2
        exact ⟨by first | rfl | (simp; done) | (simp; omega), HS.below⟩
      · have hk : N = t + k := by omega
        have hkN : (t : Int) + k < (N : Int) + 1 := by omega
        subst hk
        clear hk1 h0
        have hc2 : (k : Int) < z := by omega
        clear hc
        go_wp2_with (first | (((with_reducible refine' st_idx_sl ?hw ?hx ?hb ?hi ?hj ?_); (case hw => rfl); (case hx => first | exact eval_lit rfl | rfl); (case hb => assumption); (case hi => first | exact eval_lit rfl | rfl); (case hj => first | omega | (simp; omega)); intro b_ o_ hc_); have hcB : cellM M1 b_ o_ = some (.int .i64 (x : Nat)) := by have := hc_ 0 (iv x) (by simpa using HX.out); rwa [Nat.add_zero] at this) | (((with_reducible refine' st_idx_sl ?hw ?hx ?hb ?hi ?hj ?_); (case hw => rfl); (case hx => first | exact eval_lit rfl | rfl); (case hb => assumption); (case hi => first | exact eval_lit rfl | rfl); (case hj => first | omega | (simp; omega)); intro b_ o_ hc_); have hcB : cellM M1 b_ o_ = some (.int .i64 (q : Nat)) := by have := hc_ 0 (iv q) ((congrArg (fun m => (List.map iv (edgesN l 0 (l.length + 1)))[m]?) (by have := HJ.out; omega)).trans HQ.out); rwa [Nat.add_zero] at this) | (clear hc_; ((with_reducible refine' st_load_cellM ?hw HS ?hx ?hc ?_); (case hw => rfl); (case hx => first | exact eval_lit rfl | rfl); (case hc => assumption))))
        go_ret2
        exact ⟨by first | rfl | (simp; done) | (simp; omega), HS.below⟩
    · have HJ := Lib.hid hj1; clear hj1
      rcases Int.lt_trichotomy z (-(t : Int)) with hc | hc | hc
      · have hk : k = t := by omega
        subst hk
        clear hk1
        clear h0
        rcases Nat.eq_zero_or_pos k with h8 | h8
        · subst h8
          have hxq : x = q := by
            have e1 := HX.out
            have e2 := HQ.out
            rw [show j = 0 from by have := HJ.out; omega, e1] at e2
            simp [iv] at e2; omega
          subst hxq
          rcases Nat.eq_zero_or_pos N with h7 | h7
          · subst h7
            go_wp2_with (first | (((with_reducible refine' st_idx_sl ?hw ?hx ?hb ?hi ?hj ?_); (case hw => rfl); (case hx => first | exact eval_lit rfl | rfl); (case hb => assumption); (case hi => first | exact eval_lit rfl | rfl); (case hj => first | omega | (simp; omega)); intro b_ o_ hc_); have hcB : cellM M1 b_ o_ = some (.int .i64 (x : Nat)) := by have := hc_ 0 (iv x) (by simpa using HX.out); rwa [Nat.add_zero] at this) | (((with_reducible refine' st_idx_sl ?hw ?hx ?hb ?hi ?hj ?_); (case hw => rfl); (case hx => first | exact eval_lit rfl | rfl); (case hb => assumption); (case hi => first | exact eval_lit rfl | rfl); (case hj => first | omega | (simp; omega)); intro b_ o_ hc_); have hcB : cellM M1 b_ o_ = some (.int .i64 (q : Nat)) := by have := hc_ 0 (iv q) ((congrArg (fun m => (List.map iv (edgesN l 0 (l.length + 1)))[m]?) (by have := HJ.out; omega)).trans HQ.out); rwa [Nat.add_zero] at this) | (clear hc_; ((with_reducible refine' st_load_cellM ?hw HS ?hx ?hc ?_); (case hw => rfl); (case hx => first | exact eval_lit rfl | rfl); (case hc => assumption))))
            go_ret2
            exact ⟨by first | rfl | (simp; done) | (simp; omega), HS.below⟩
          · have h6 : 0 < (N : Int) := by omega
            go_wp2_with (first | (((with_reducible refine' st_idx_sl ?hw ?hx ?hb ?hi ?hj ?_); (case hw => rfl); (case hx => first | exact eval_lit rfl | rfl); (case hb => assumption); (case hi => first | exact eval_lit rfl | rfl); (case hj => first | omega | (simp; omega)); intro b_ o_ hc_); have hcB : cellM M1 b_ o_ = some (.int .i64 (x : Nat)) := by have := hc_ 0 (iv x) (by simpa using HX.out); rwa [Nat.add_zero] at this) | (((with_reducible refine' st_idx_sl ?hw ?hx ?hb ?hi ?hj ?_); (case hw => rfl); (case hx => first | exact eval_lit rfl | rfl); (case hb => assumption); (case hi => first | exact eval_lit rfl | rfl); (case hj => first | omega | (simp; omega)); intro b_ o_ hc_); have hcB : cellM M1 b_ o_ = some (.int .i64 (q : Nat)) := by have := hc_ 0 (iv q) ((congrArg (fun m => (List.map iv (edgesN l 0 (l.length + 1)))[m]?) (by have := HJ.out; omega)).trans HQ.out); rwa [Nat.add_zero] at this) | (clear hc_; ((with_reducible refine' st_load_cellM ?hw HS ?hx ?hc ?_); (case hw => rfl); (case hx => first | exact eval_lit rfl | rfl); (case hc => assumption))))
            go_ret2
            exact ⟨by first | rfl | (simp; done) | (simp; omega), HS.below⟩
        · have h6 : -(k : Int) < (N : Int) - k := by omega
          have h5 : -(k : Int) < 0 := by omega
          have h4 : 0 ≤ (k : Int) + -(k : Int) ∧ (k : Int) + -(k : Int) < (N : Int) + 1 := by omega
          go_wp2_with (first | (((with_reducible refine' st_idx_sl ?hw ?hx ?hb ?hi ?hj ?_); (case hw => rfl); (case hx => first | exact eval_lit rfl | rfl); (case hb => assumption); (case hi => first | exact eval_lit rfl | rfl); (case hj => first | omega | (simp; omega)); intro b_ o_ hc_); have hcB : cellM M1 b_ o_ = some (.int .i64 (x : Nat)) := by have := hc_ 0 (iv x) (by simpa using HX.out); rwa [Nat.add_zero] at this) | (((with_reducible refine' st_idx_sl ?hw ?hx ?hb ?hi ?hj ?_); (case hw => rfl); (case hx => first | exact eval_lit rfl | rfl); (case hb => assumption); (case hi => first | exact eval_lit rfl | rfl); (case hj => first | omega | (simp; omega)); intro b_ o_ hc_); have hcB : cellM M1 b_ o_ = some (.int .i64 (q : Nat)) := by have := hc_ 0 (iv q) ((congrArg (fun m => (List.map iv (edgesN l 0 (l.length + 1)))[m]?) (by have := HJ.out; omega)).trans HQ.out); rwa [Nat.add_zero] at this) | (clear hc_; ((with_reducible refine' st_load_cellM ?hw HS ?hx ?hc ?_); (case hw => rfl); (case hx => first | exact eval_lit rfl | rfl); (case hc => assumption))))
          go_ret2
          exact ⟨by first | rfl | (simp; done) | (simp; omega), HS.below⟩
      · have hk : k = t := by omega
        subst hk
        clear hk1
        subst hc
        clear h0
        rcases Nat.eq_zero_or_pos k with h8 | h8
        · subst h8
          have hxq : x = q := by
            have e1 := HX.out
            have e2 := HQ.out
            rw [show j = 0 from by have := HJ.out; omega, e1] at e2
            simp [iv] at e2; omega
          subst hxq
          rcases Nat.eq_zero_or_pos N with h7 | h7
          · subst h7
            go_wp2_with (first | (((with_reducible refine' st_idx_sl ?hw ?hx ?hb ?hi ?hj ?_); (case hw => rfl); (case hx => first | exact eval_lit rfl | rfl); (case hb => assumption); (case hi => first | exact eval_lit rfl | rfl); (case hj => first | omega | (simp; omega)); intro b_ o_ hc_); have hcB : cellM M1 b_ o_ = some (.int .i64 (x : Nat)) := by have := hc_ 0 (iv x) (by simpa using HX.out); rwa [Nat.add_zero] at this) | (((with_reducible refine' st_idx_sl ?hw ?hx ?hb ?hi ?hj ?_); (case hw => rfl); (case hx => first | exact eval_lit rfl | rfl); (case hb => assumption); (case hi => first | exact eval_lit rfl | rfl); (case hj => first | omega | (simp; omega)); intro b_ o_ hc_); have hcB : cellM M1 b_ o_ = some (.int .i64 (q : Nat)) := by have := hc_ 0 (iv q) ((congrArg (fun m => (List.map iv (edgesN l 0 (l.length + 1)))[m]?) (by have := HJ.out; omega)).trans HQ.out); rwa [Nat.add_zero] at this) | (clear hc_; ((with_reducible refine' st_load_cellM ?hw HS ?hx ?hc ?_); (case hw => rfl); (case hx => first | exact eval_lit rfl | rfl); (case hc => assumption))))
            go_ret2
            exact ⟨by first | rfl | (simp; done) | (simp; omega), HS.below⟩
          · have h6 : 0 < (N : Int) := by omega
            go_wp2_with (first | (((with_reducible refine' st_idx_sl ?hw ?hx ?hb ?hi ?hj ?_); (case hw => rfl); (case hx => first | exact eval_lit rfl | rfl); (case hb => assumption); (case hi => first | exact eval_lit rfl | rfl); (case hj => first | omega | (simp; omega)); intro b_ o_ hc_); have hcB : cellM M1 b_ o_ = some (.int .i64 (x : Nat)) := by have := hc_ 0 (iv x) (by simpa using HX.out); rwa [Nat.add_zero] at this) | (((with_reducible refine' st_idx_sl ?hw ?hx ?hb ?hi ?hj ?_); (case hw => rfl); (case hx => first | exact eval_lit rfl | rfl); (case hb => assumption); (case hi => first | exact eval_lit rfl | rfl); (case hj => first | omega | (simp; omega)); intro b_ o_ hc_); have hcB : cellM M1 b_ o_ = some (.int .i64 (q : Nat)) := by have := hc_ 0 (iv q) ((congrArg (fun m => (List.map iv (edgesN l 0 (l.length + 1)))[m]?) (by have := HJ.out; omega)).trans HQ.out); rwa [Nat.add_zero] at this) | (clear hc_; ((with_reducible refine' st_load_cellM ?hw HS ?hx ?hc ?_); (case hw => rfl); (case hx => first | exact eval_lit rfl | rfl); (case hc => assumption))))
            go_ret2
            exact ⟨by first | rfl | (simp; done) | (simp; omega), HS.below⟩
        · have h6 : -(k : Int) < (N : Int) - k := by omega
          have h5 : -(k : Int) < 0 := by omega
          have h4 : 0 ≤ (k : Int) + -(k : Int) ∧ (k : Int) + -(k : Int) < (N : Int) + 1 := by omega
          go_wp2_with (first | (((with_reducible refine' st_idx_sl ?hw ?hx ?hb ?hi ?hj ?_); (case hw => rfl); (case hx => first | exact eval_lit rfl | rfl); (case hb => assumption); (case hi => first | exact eval_lit rfl | rfl); (case hj => first | omega | (simp; omega)); intro b_ o_ hc_); have hcB : cellM M1 b_ o_ = some (.int .i64 (x : Nat)) := by have := hc_ 0 (iv x) (by simpa using HX.out); rwa [Nat.add_zero] at this) | (((with_reducible refine' st_idx_sl ?hw ?hx ?hb ?hi ?hj ?_); (case hw => rfl); (case hx => first | exact eval_lit rfl | rfl); (case hb => assumption); (case hi => first | exact eval_lit rfl | rfl); (case hj => first | omega | (simp; omega)); intro b_ o_ hc_); have hcB : cellM M1 b_ o_ = some (.int .i64 (q : Nat)) := by have := hc_ 0 (iv q) ((congrArg (fun m => (List.map iv (edgesN l 0 (l.length + 1)))[m]?) (by have := HJ.out; omega)).trans HQ.out); rwa [Nat.add_zero] at this) | (clear hc_; ((with_reducible refine' st_load_cellM ?hw HS ?hx ?hc ?_); (case hw => rfl); (case hx => first | exact eval_lit rfl | rfl); (case hc => assumption))))
          go_ret2
          exact ⟨by first | rfl | (simp; done) | (simp; omega), HS.below⟩
      · have hk : z = -(k : Int) := by omega
        subst hk
        clear hk1
        have h6 : -(k : Int) < (N : Int) - t := by omega
        have h4 : 0 ≤ (t : Int) + -(k : Int) ∧ (t : Int) + -(k : Int) < (N : Int) + 1 := by omega
        go_wp2_with (first | (((with_reducible refine' st_idx_sl ?hw ?hx ?hb ?hi ?hj ?_); (case hw => rfl); (case hx => first | exact eval_lit rfl | rfl); (case hb => assumption); (case hi => first | exact eval_lit rfl | rfl); (case hj => first | omega | (simp; omega)); intro b_ o_ hc_); have hcB : cellM M1 b_ o_ = some (.int .i64 (x : Nat)) := by have := hc_ 0 (iv x) (by simpa using HX.out); rwa [Nat.add_zero] at this) | (((with_reducible refine' st_idx_sl ?hw ?hx ?hb ?hi ?hj ?_); (case hw => rfl); (case hx => first | exact eval_lit rfl | rfl); (case hb => assumption); (case hi => first | exact eval_lit rfl | rfl); (case hj => first | omega | (simp; omega)); intro b_ o_ hc_); have hcB : cellM M1 b_ o_ = some (.int .i64 (q : Nat)) := by have := hc_ 0 (iv q) ((congrArg (fun m => (List.map iv (edgesN l 0 (l.length + 1)))[m]?) (by have := HJ.out; omega)).trans HQ.out); rwa [Nat.add_zero] at this) | (clear hc_; ((with_reducible refine' st_load_cellM ?hw HS ?hx ?hc ?_); (case hw => rfl); (case hx => first | exact eval_lit rfl | rfl); (case hc => assumption))))
        go_ret2
        exact ⟨by first | rfl | (simp; done) | (simp; omega), HS.below⟩
end Go.Proofs.YtbogoehjoglneaaDoor

/- More of what types' rows say. -/
namespace Go.Proofs.YtbogoehjoglneaaDoor
open Go.RowKit
instance riI25 : RI Tryd.prog 25 41 (.agg #[.int .i64 0, .int .i64 0, .int .i64 0]) 3 24 := ⟨by kernel_rfl, by kernel_rfl, rfl, by decide, by decide, by decide⟩
instance riI163 : RI Tryd.prog 163 167 (.agg #[.int .i64 0, .int .i64 0, .int .i64 0, .int .i64 0]) 4 32 := ⟨by kernel_rfl, by kernel_rfl, rfl, by decide, by decide, by decide⟩
instance tyI25 : TI Tryd.prog 25 false [.slice none 0 0] := ⟨by kernel_rfl, by kernel_rfl⟩
end Go.Proofs.YtbogoehjoglneaaDoor
