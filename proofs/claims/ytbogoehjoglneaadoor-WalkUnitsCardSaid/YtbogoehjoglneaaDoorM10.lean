/- The reference's UnitsOf: how many units a step has. -/
import Derived.Test.YtbogoehjoglneaaDoorM9
import Derived.Test.YtbogoehjoglneaaDoorM5
set_option linter.unusedVariables false
set_option linter.unusedSimpArgs false
set_option linter.unnecessarySimpa false
set_option linter.unusedSectionVars false
namespace Go.Proofs.YtbogoehjoglneaaDoor
open Go.RowKit
set_option linter.unusedVariables false
set_option linter.unusedSimpArgs false
set_option maxRecDepth 100000
attribute [local go_sem] byt_drop byt_tail Int.toNat_natCast sOf_size

theorem UnitsOf_any (M : Mem) (s : Stp) (hs : s.r ≤ 1114111) (w : World) (hi : Imm M w) :
    Calls Tryd.prog 27 #[stV s] w fun e w' => ∃ A c, e = .returned (.slice A (uOf s.r) c) ∧ Below w.heap.size w w' := by
  have hs' : (s.r : Int) ≤ 1114111 := by omega
  unfold uOf
  by_cases h : 65535 < s.r
  · rw [if_pos h]
    have h' : (65535 : Int) < s.r := by omega
    (have HS := St.start hi; go_enter Tryd.func27, Tryd.ntmps27)
    go_wp2_with (first | ((with_reducible refine' q_alloc ?_); refine' a_alloc HS ?_; clear HS; intro b_ w_ HS) | ((with_reducible refine' q_box ?_); refine' a_box2 HS ?_; clear HS; intro b_ w_ HS) | ((with_reducible refine' q_load ?_); refine' a_load HS ?_) | ((with_reducible refine' q_store ?_); refine' a_store2 HS ?_; clear HS; intro w_ HS))
    go_ret
    exact ⟨_, _, rfl, (HS.alloc _).below⟩
  · rw [if_neg h]
    have h' : ¬ (65535 : Int) < s.r := by omega
    (have HS := St.start hi; go_enter Tryd.func27, Tryd.ntmps27)
    go_wp2_with (first | ((with_reducible refine' q_alloc ?_); refine' a_alloc HS ?_; clear HS; intro b_ w_ HS) | ((with_reducible refine' q_box ?_); refine' a_box2 HS ?_; clear HS; intro b_ w_ HS) | ((with_reducible refine' q_load ?_); refine' a_load HS ?_) | ((with_reducible refine' q_store ?_); refine' a_store2 HS ?_; clear HS; intro w_ HS))
    go_ret
    exact ⟨⟨_, _, rfl⟩, (HS.alloc _).below⟩
end Go.Proofs.YtbogoehjoglneaaDoor

/- WalkThere: plain laws of skips over all steps; calls in the form that the law makes. -/
namespace Go.Proofs.YtbogoehjoglneaaDoor
open Go.RowKit
set_option linter.unusedVariables false
set_option linter.unusedSimpArgs false
set_option maxRecDepth 100000
attribute [local go_sem] byt_drop byt_tail Int.toNat_natCast sOf_size

theorem AtStep.first {l : List UInt8} {p : Nat} (h : AtStep l 0 p) : p = 0 := by
  rcases Nat.eq_zero_or_pos p with e | e
  · exact e
  · have hle := h.le
    have hpe := prev_edge h.edge e hle
    have hfl := floor_le l (p - 1)
    obtain ⟨j, hj⟩ := AtStep.of_edge (l := l) (q := floorN l (p - 1)) (by omega) (floor_edge l (p - 1))
    have hn := (hj.next (by omega)).1
    rw [hpe] at hn
    have := hn.uniq h
    omega
theorem AtStep.last {l : List UInt8} {p : Nat} (h : AtStep l (steps l 0).length p) : p = l.length := by
  have h1 := h.lt
  have h2 := h.le
  omega
theorem AtStep.skipB {l : List UInt8} : ∀ (i p k : Nat), AtStep l i p → 0 < k → skipB l p (i + k) = (0, i)
  | 0, p, k, h, hk => by
    rw [h.first]
    obtain ⟨k, rfl⟩ : ∃ m, k = m + 1 := ⟨k - 1, by omega⟩
    simp [Go.Proofs.YtbogoehjoglneaaDoor.skipB]
  | i + 1, p, k, h, hk => by
    obtain ⟨h0, hp, _, _⟩ := h.prev
    rw [show i + 1 + k = (i + k) + 1 from by omega]
    simp only [Go.Proofs.YtbogoehjoglneaaDoor.skipB, if_pos h0]
    rw [AtStep.skipB i _ k hp hk]
theorem AtStep.skipF {l : List UInt8} : ∀ (m i p k : Nat), AtStep l i p → i + m = (steps l 0).length → 0 < k → skipF l p (m + k) = (l.length, m)
  | 0, i, p, k, h, hm, hk => by
    have hp : p = l.length := by rw [Nat.add_zero] at hm; subst hm; exact h.last
    subst hp
    obtain ⟨k, rfl⟩ : ∃ m, k = m + 1 := ⟨k - 1, by omega⟩
    simp [Go.Proofs.YtbogoehjoglneaaDoor.skipF]
  | m + 1, i, p, k, h, hm, hk => by
    have hp : p < l.length := h.lt.1 (by omega)
    rw [show m + 1 + k = (m + k) + 1 from by omega]
    simp only [Go.Proofs.YtbogoehjoglneaaDoor.skipF, if_pos hp]
    rw [AtStep.skipF m (i + 1) _ k (h.next hp).1 (by omega) hk]

theorem new_zero (M : Mem) (hG : Gl M) (r : Nat) (l : List UInt8) (hr : RopeAt M r l) (w : World) (hi : Imm M w) :
    Calls Tryd.prog 16 #[ptr r, .int .i64 0] w fun e w' => ∃ c, e = .returned (.tuple #[ptr c, .int .i64 0]) ∧ Below w.heap.size w w' ∧ w.heap.size ≤ c ∧ w'.heap[c]? = some (curC (0 : Nat) r) := by
  have := WNew_in M hG r l hr 0 (Nat.zero_le _) w hi
  rw [floor_self (inside_at_zero l)] at this
  exact this
theorem new_end (M : Mem) (hG : Gl M) (r : Nat) (l : List UInt8) (hr : RopeAt M r l) (w : World) (hi : Imm M w) :
    Calls Tryd.prog 16 #[ptr r, .int .i64 l.length] w fun e w' => ∃ c, e = .returned (.tuple #[ptr c, .int .i64 0]) ∧ Below w.heap.size w w' ∧ w.heap.size ≤ c ∧ w'.heap[c]? = some (curC (l.length : Nat) r) := by
  have := WNew_in M hG r l hr l.length (Nat.le_refl _) w hi
  rw [floor_self (inside_len l (Nat.le_refl _))] at this
  exact this
/- The steps from the beginning, as a slice. -/
theorem gone_zero (M : Mem) (hG : Gl M) (r : Nat) (l : List UInt8) (hr : RopeAt M r l) (b1 b2 : Nat) (h1 : M b1 = some (.cells [.int .i64 0].toArray 3 (0, 0))) (h2 : M b2 = some (.cells [ptr r].toArray 27 (0, 0))) (w : World) (hi : Imm M w) :
    Calls Tryd.prog 26 #[.func (.func 64) #[] #[ptr b1, ptr b2]] w fun e w' => ∃ A c M', e = .returned (.slice A (steps l 0).length c) ∧ Grew M M' w w' ∧ SL M' 4 A (steps l 0).length c ((steps l 0).flatMap atC) := by
  have hseq := Steps1_seq M hG r l hr b1 b2 0 (Nat.zero_le _) h1 h2
  rw [stepsF_edge (inside_at_zero l), List.drop_zero] at hseq
  have := hr.small
  have := steps_len l
  exact gone_any M _ _ (steps l 0) hseq (enters_of Tryd.func64 (by kernel_rfl) rfl) (by omega) w hi
end Go.Proofs.YtbogoehjoglneaaDoor
