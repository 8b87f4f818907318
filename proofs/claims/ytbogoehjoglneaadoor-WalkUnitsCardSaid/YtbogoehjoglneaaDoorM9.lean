/- walk: a cursor's Prev, and both ends. -/
import Derived.Test.YtbogoehjoglneaaDoorM8
set_option linter.unusedVariables false
set_option linter.unusedSimpArgs false
set_option linter.unnecessarySimpa false
set_option linter.unusedSectionVars false
namespace Go.Proofs.YtbogoehjoglneaaDoor
open Go.RowKit
set_option linter.unusedVariables false
set_option linter.unusedSimpArgs false
set_option maxRecDepth 100000
attribute [local go_sem] byt_drop byt_tail Int.toNat_natCast sOf_size

set_option maxHeartbeats 2000000 in
theorem Prev_in (M : Mem) (hG : Gl M) (r : Nat) (l : List UInt8) (hr : RopeAt M r l) (c p : Nat) (q : Nat) (s : Stp) (h1 : 0 < p) (hp : p ≤ l.length) (hq : q = floorN l (p - 1)) (hs : s = stp (l.drop q)) (hqs : q + s.w = p) (hM : M c = none) (w : World) (hi : Imm M w) (hc : w.heap[c]? = some (curC p r)) :
    Calls Tryd.prog 20 #[ptr c] w fun e w' => e = .returned (.tuple #[stV s, .bool true]) ∧ Turned c (curC q r) w w' := by
  have HS := St.startC hi hc hM
  have hF := fun w hi => SStep_in M hG r l hr (p - 1) (by omega) w hi
  have e : ((p - 1 : Nat) : Int) = (p : Int) - 1 := by omega
  rw [e, ← hq, ← hs] at hF
  have hs4 := stp_w (l.drop q)
  rw [← hs] at hs4
  have h1' : (1 : Int) ≤ p := by omega
  have HF := Lib.hid hF
  have hm := hr.small
  have hT := fun (w : World) (hi : Imm M w) (hc : w.heap[c]? = some (curC p r)) => backwards_any M c r p q s hM (by omega) hs4.2 hqs w hi hc
  have HT := Lib.hid hT
  clear hi hc hF hs hT hG hr hs4 e hq
  go_enter Tryd.func20, Tryd.ntmps20
  go_wp2_with (first | ((with_reducible refine' q_alloc ?_); refine' a_alloc HS ?_; clear HS; intro b_ w_ HS) | ((with_reducible refine' q_box ?_); refine' a_box HS ?_; clear HS; intro b_ w_ HS) | ((with_reducible refine' q_load ?_); refine' a_load HS ?_) | ((with_reducible refine' q_store ?_); refine' a_store HS ?_; clear HS; intro w_ HS))
  refine' wp_region_tree1 [] (.soft 0 (.soft 1 (.soft 2 (.soft 3 (.soft 4 (.soft 5 (.soft 6 (.soft 7 (.soft 8 (.soft 9 (.two 10 (.soft 11 (.soft 12 (.soft 13 (.soft 14 (.one 15 (.soft 16 (.one 17 (.soft 18 .done)))))))) 15 (.one 10 (.soft 11 (.soft 12 (.soft 13 (.soft 14 (.soft 16 (.one 17 (.soft 18 .done))))))))))))))))))) (fun W_ => St _ _ W_ _ _) (by kernel_rfl) (by kernel_rfl) (by kernel_rfl) (by kernel_rfl) (HS).drew ?htree ?_
  case htree =>
    have HS_ := HS.drew; have HS := HS_; clear HS_
    refine lexT_soft ?_
    refine' a_dSoft rfl ?_
    refine ⟨rfl, ?_⟩
    (try simp only [Act.put, List.setIfInBounds_toArray, List.set_cons_zero, List.set_cons_succ])
    refine lexT_soft ?_
    refine' a_dSoft rfl ?_
    refine ⟨rfl, ?_⟩
    (try simp only [Act.put, List.setIfInBounds_toArray, List.set_cons_zero, List.set_cons_succ])
    refine lexT_soft ?_
    refine' a_dSoft rfl ?_
    refine ⟨rfl, ?_⟩
    (try simp only [Act.put, List.setIfInBounds_toArray, List.set_cons_zero, List.set_cons_succ])
    refine lexT_soft ?_
    (first | refine' a_dLoad rfl (fun w_ hw_ => hw_) ?_ | refine' a_dLoadC rfl (fun w_ hw_ => hw_) ?_)
    refine ⟨rfl, ?_⟩
    (try simp only [Act.put, List.setIfInBounds_toArray, List.set_cons_zero, List.set_cons_succ])
    refine lexT_soft ?_
    refine' a_dSoft rfl ?_
    refine ⟨rfl, ?_⟩
    (try simp only [Act.put, List.setIfInBounds_toArray, List.set_cons_zero, List.set_cons_succ])
    refine lexT_soft ?_
    refine' a_dSoft rfl ?_
    refine ⟨rfl, ?_⟩
    (try simp only [Act.put, List.setIfInBounds_toArray, List.set_cons_zero, List.set_cons_succ])
    refine lexT_soft ?_
    refine' a_dSoft rfl ?_
    refine ⟨rfl, ?_⟩
    (try simp only [Act.put, List.setIfInBounds_toArray, List.set_cons_zero, List.set_cons_succ])
    refine lexT_soft ?_
    refine' a_dSoft rfl ?_
    refine ⟨rfl, ?_⟩
    (try simp only [Act.put, List.setIfInBounds_toArray, List.set_cons_zero, List.set_cons_succ])
    refine lexT_soft ?_
    (first | refine' a_dLoad rfl (fun w_ hw_ => hw_) ?_ | refine' a_dLoadC rfl (fun w_ hw_ => hw_) ?_)
    refine ⟨rfl, ?_⟩
    (try simp only [Act.put, List.setIfInBounds_toArray, List.set_cons_zero, List.set_cons_succ])
    refine lexT_soft ?_
    (refine' dSub Tryd.underlying3 rfl ?hw ?hx ?hy ?hb ?_; (case hw => first | rfl | go_simp); (case hx => first | exact eval_lit rfl | rfl); (case hy => rfl); (case hb => first | omega | (simp; omega)))
    refine ⟨rfl, ?_⟩
    (try simp only [Act.put, List.setIfInBounds_toArray, List.set_cons_zero, List.set_cons_succ])
    refine ⟨?_, ?_⟩
    · refine lexT_hardL rfl ?_
      refine' st_call ?hw Tryd.func40 (by kernel_rfl) rfl ?hargs (HF.out _ HS.imm) ?_
      case hw => rfl
      case hargs => first | rfl | (go_simp; done)
      rintro e w_ ⟨rfl, hb_⟩
      (have HS_ := HS.call hb_; clear HS hb_; have HS := HS_; clear HS_)
      refine ⟨_, rfl, ?_⟩
      refine lexT_next (fun _ => HS) ?_
      (try simp only [Act.put, List.setIfInBounds_toArray, List.set_cons_zero, List.set_cons_succ])
      refine lexT_soft ?_
      refine' a_dSoft rfl ?_
      refine ⟨rfl, ?_⟩
      (try simp only [Act.put, List.setIfInBounds_toArray, List.set_cons_zero, List.set_cons_succ])
      refine lexT_soft ?_
      refine' a_dSoft rfl ?_
      refine ⟨rfl, ?_⟩
      (try simp only [Act.put, List.setIfInBounds_toArray, List.set_cons_zero, List.set_cons_succ])
      refine lexT_soft ?_
      refine' a_dSoft rfl ?_
      refine ⟨rfl, ?_⟩
      (try simp only [Act.put, List.setIfInBounds_toArray, List.set_cons_zero, List.set_cons_succ])
      refine lexT_soft ?_
      refine' a_dSoft rfl ?_
      refine ⟨rfl, ?_⟩
      (try simp only [Act.put, List.setIfInBounds_toArray, List.set_cons_zero, List.set_cons_succ])
      refine lexT_hardL rfl ?_
      ((with_reducible refine' q_alloc ?_); refine' a_alloc HS ?_; clear HS; intro b15_ w_ HS)
      refine lexT_next (fun _ => HS.drop) ?_
      (try simp only [Act.put, List.setIfInBounds_toArray, List.set_cons_zero, List.set_cons_succ])
      refine lexT_soft ?_
      refine' a_dSoft rfl ?_
      refine ⟨rfl, ?_⟩
      (try simp only [Act.put, List.setIfInBounds_toArray, List.set_cons_zero, List.set_cons_succ])
      refine lexT_hardL rfl ?_
      ((with_reducible refine' q_store ?_); refine' a_store HS ?_; clear HS; intro w_ HS)
      refine lexT_next (fun _ => HS.drop) ?_
      (try simp only [Act.put, List.setIfInBounds_toArray, List.set_cons_zero, List.set_cons_succ])
      refine lexT_soft ?_
      refine' a_dSoft rfl ?_
      refine ⟨rfl, ?_⟩
      (try simp only [Act.put, List.setIfInBounds_toArray, List.set_cons_zero, List.set_cons_succ])
      (first | exact lexT_end ⟨b15_, rfl, HS⟩ | exact lexT_end ⟨b15_, rfl, HS.perm (.swap _ _ _)⟩)
    · refine lexT_hardL rfl ?_
      ((with_reducible refine' q_alloc ?_); refine' a_alloc HS ?_; clear HS; intro b15_ w_ HS)
      refine lexT_next (fun _ => HS.drop) ?_
      (try simp only [Act.put, List.setIfInBounds_toArray, List.set_cons_zero, List.set_cons_succ])
      refine lexT_hardL rfl ?_
      refine' st_call ?hw Tryd.func40 (by kernel_rfl) rfl ?hargs (HF.out _ HS.imm) ?_
      case hw => rfl
      case hargs => first | rfl | (go_simp; done)
      rintro e w_ ⟨rfl, hb_⟩
      (have HS_ := HS.call hb_; clear HS hb_; have HS := HS_; clear HS_)
      refine ⟨_, rfl, ?_⟩
      refine lexT_next (fun _ => HS.drop) ?_
      (try simp only [Act.put, List.setIfInBounds_toArray, List.set_cons_zero, List.set_cons_succ])
      refine lexT_soft ?_
      refine' a_dSoft rfl ?_
      refine ⟨rfl, ?_⟩
      (try simp only [Act.put, List.setIfInBounds_toArray, List.set_cons_zero, List.set_cons_succ])
      refine lexT_soft ?_
      refine' a_dSoft rfl ?_
      refine ⟨rfl, ?_⟩
      (try simp only [Act.put, List.setIfInBounds_toArray, List.set_cons_zero, List.set_cons_succ])
      refine lexT_soft ?_
      refine' a_dSoft rfl ?_
      refine ⟨rfl, ?_⟩
      (try simp only [Act.put, List.setIfInBounds_toArray, List.set_cons_zero, List.set_cons_succ])
      refine lexT_soft ?_
      refine' a_dSoft rfl ?_
      refine ⟨rfl, ?_⟩
      (try simp only [Act.put, List.setIfInBounds_toArray, List.set_cons_zero, List.set_cons_succ])
      refine lexT_soft ?_
      refine' a_dSoft rfl ?_
      refine ⟨rfl, ?_⟩
      (try simp only [Act.put, List.setIfInBounds_toArray, List.set_cons_zero, List.set_cons_succ])
      refine lexT_hardL rfl ?_
      ((with_reducible refine' q_store ?_); refine' a_store HS ?_; clear HS; intro w_ HS)
      refine lexT_next (fun _ => HS.drop) ?_
      (try simp only [Act.put, List.setIfInBounds_toArray, List.set_cons_zero, List.set_cons_succ])
      refine lexT_soft ?_
      refine' a_dSoft rfl ?_
      refine ⟨rfl, ?_⟩
      (try simp only [Act.put, List.setIfInBounds_toArray, List.set_cons_zero, List.set_cons_succ])
      (first | exact lexT_end ⟨b15_, rfl, HS⟩ | exact lexT_end ⟨b15_, rfl, HS.perm (.swap _ _ _)⟩)
  clear HS
  intro b15_ w_ HS
  go_wp2_with (first | ((with_reducible refine' q_alloc ?_); refine' a_alloc HS ?_; clear HS; intro b_ w_ HS) | ((with_reducible refine' q_box ?_); refine' a_box HS ?_; clear HS; intro b_ w_ HS) | ((with_reducible refine' q_load ?_); refine' a_load HS ?_) | ((with_reducible refine' q_store ?_); refine' a_store HS ?_; clear HS; intro w_ HS))
  have HSd := HS.init (K := [_, _])
  refine wp_region_plan [] [(true, 0), (true, 1), (true, 2), (true, 3), (false, 4)] (fun W_ => St _ _ W_ _ _) (by kernel_rfl) (by kernel_rfl) rfl (by kernel_rfl) (HSd).drew ?_
  have HS_ := HS.drew; clear HS; have HS := HS_; clear HS_
  refine' a_dSoft rfl ?_
  (try simp only [Act.put, List.setIfInBounds_toArray, List.set_cons_zero, List.set_cons_succ])
  refine' a_dSoft rfl ?_
  (try simp only [Act.put, List.setIfInBounds_toArray, List.set_cons_zero, List.set_cons_succ])
  refine' a_dSoft rfl ?_
  (try simp only [Act.put, List.setIfInBounds_toArray, List.set_cons_zero, List.set_cons_succ])
  (first | refine' a_dLoad rfl (fun w_ hw_ => hw_) ?_ | refine' a_dLoadC rfl (fun w_ hw_ => hw_) ?_)
  (try simp only [Act.put, List.setIfInBounds_toArray, List.set_cons_zero, List.set_cons_succ])
  refine dHard rfl ?_
  refine' st_call ?hw Tryd.func62 (by kernel_rfl) rfl ?hargs (HT.out _ HS.imm (HS.loc _ (.tail _ (.tail _ (.head _))))) ?_
  case hw => rfl
  case hargs => first | rfl | (go_simp; done)
  rintro e w_ ⟨v, rfl, ht⟩
  have HS_ := HS.turn (.tail _ (.tail _ (.head _))) ht; clear HS; have HS := HS_; clear HS_
  refine ⟨_, rfl, ?_⟩
  refine lexD_done (fun _ => HS.init (K := [_, _])) ?_
  (try simp only [Act.put, List.setIfInBounds_toArray, List.set_cons_zero, List.set_cons_succ])
  refine lexD_end ?_
  go_wp2_with (first | ((with_reducible refine' q_alloc ?_); refine' a_alloc HS ?_; clear HS; intro b_ w_ HS) | ((with_reducible refine' q_box ?_); refine' a_box HS ?_; clear HS; intro b_ w_ HS) | ((with_reducible refine' q_load ?_); refine' a_load HS ?_) | ((with_reducible refine' q_store ?_); refine' a_store HS ?_; clear HS; intro w_ HS))
  (refine post_cell_tmp (p := 2) (T := 43) rfl HS rfl rfl (by (first | (apply Blk.loc; (repeat (first | (with_reducible exact List.mem_cons_self) | apply List.mem_cons_of_mem)); done) | (apply Blk.imm; with_reducible assumption))) (by exact Eq.refl true) ?_)
  exact ⟨rfl, HS.turnedC (.tail _ (.tail _ (.head _)))⟩

set_option maxHeartbeats 2000000 in
theorem Next_end (M : Mem) (r : Nat) (l : List UInt8) (hr : RopeAt M r l) (c : Nat) (hM : M c = none) (w : World) (hi : Imm M w) (hc : w.heap[c]? = some (curC l.length r)) :
    Calls Tryd.prog 19 #[ptr c] w fun e w' => e = .returned (.tuple #[st0, .bool false]) ∧ Turned c (curC l.length r) w w' := by
  have HS := St.startC hi hc hM
  have HF := Lib.hid (fun w hi => SStep_out M r l hr l.length (.inr (Int.le_refl _)) w hi)
  clear hi hc hr
  go_enter Tryd.func19, Tryd.ntmps19
  go_wp2_with (first | ((with_reducible refine' q_alloc ?_); refine' a_alloc HS ?_; clear HS; intro b_ w_ HS) | ((with_reducible refine' q_box ?_); refine' a_box HS ?_; clear HS; intro b_ w_ HS) | ((with_reducible refine' q_load ?_); refine' a_load HS ?_) | ((with_reducible refine' q_store ?_); refine' a_store HS ?_; clear HS; intro w_ HS))
  refine' wp_region_tree1 [] (.soft 0 (.soft 1 (.soft 2 (.soft 3 (.soft 4 (.soft 5 (.soft 6 (.soft 7 (.soft 8 (.two 9 (.soft 10 (.soft 11 (.soft 12 (.soft 13 (.one 14 (.soft 15 (.one 16 (.soft 17 .done)))))))) 14 (.one 9 (.soft 10 (.soft 11 (.soft 12 (.soft 13 (.soft 15 (.one 16 (.soft 17 .done)))))))))))))))))) (fun W_ => St _ _ W_ _ _) (by kernel_rfl) (by kernel_rfl) (by kernel_rfl) (by kernel_rfl) (HS).drew ?htree ?_
  case htree =>
    have HS_ := HS.drew; have HS := HS_; clear HS_
    refine lexT_soft ?_
    refine' a_dSoft rfl ?_
    refine ⟨rfl, ?_⟩
    (try simp only [Act.put, List.setIfInBounds_toArray, List.set_cons_zero, List.set_cons_succ])
    refine lexT_soft ?_
    refine' a_dSoft rfl ?_
    refine ⟨rfl, ?_⟩
    (try simp only [Act.put, List.setIfInBounds_toArray, List.set_cons_zero, List.set_cons_succ])
    refine lexT_soft ?_
    refine' a_dSoft rfl ?_
    refine ⟨rfl, ?_⟩
    (try simp only [Act.put, List.setIfInBounds_toArray, List.set_cons_zero, List.set_cons_succ])
    refine lexT_soft ?_
    (first | refine' a_dLoad rfl (fun w_ hw_ => hw_) ?_ | refine' a_dLoadC rfl (fun w_ hw_ => hw_) ?_)
    refine ⟨rfl, ?_⟩
    (try simp only [Act.put, List.setIfInBounds_toArray, List.set_cons_zero, List.set_cons_succ])
    refine lexT_soft ?_
    refine' a_dSoft rfl ?_
    refine ⟨rfl, ?_⟩
    (try simp only [Act.put, List.setIfInBounds_toArray, List.set_cons_zero, List.set_cons_succ])
    refine lexT_soft ?_
    refine' a_dSoft rfl ?_
    refine ⟨rfl, ?_⟩
    (try simp only [Act.put, List.setIfInBounds_toArray, List.set_cons_zero, List.set_cons_succ])
    refine lexT_soft ?_
    refine' a_dSoft rfl ?_
    refine ⟨rfl, ?_⟩
    (try simp only [Act.put, List.setIfInBounds_toArray, List.set_cons_zero, List.set_cons_succ])
    refine lexT_soft ?_
    refine' a_dSoft rfl ?_
    refine ⟨rfl, ?_⟩
    (try simp only [Act.put, List.setIfInBounds_toArray, List.set_cons_zero, List.set_cons_succ])
    refine lexT_soft ?_
    (first | refine' a_dLoad rfl (fun w_ hw_ => hw_) ?_ | refine' a_dLoadC rfl (fun w_ hw_ => hw_) ?_)
    refine ⟨rfl, ?_⟩
    (try simp only [Act.put, List.setIfInBounds_toArray, List.set_cons_zero, List.set_cons_succ])
    refine ⟨?_, ?_⟩
    · refine lexT_hardL rfl ?_
      refine' st_call ?hw Tryd.func40 (by kernel_rfl) rfl ?hargs (HF.out _ HS.imm) ?_
      case hw => rfl
      case hargs => first | rfl | (go_simp; done)
      rintro e w_ ⟨rfl, hb_⟩
      (have HS_ := HS.call hb_; clear HS hb_; have HS := HS_; clear HS_)
      refine ⟨_, rfl, ?_⟩
      refine lexT_next (fun _ => HS) ?_
      (try simp only [Act.put, List.setIfInBounds_toArray, List.set_cons_zero, List.set_cons_succ])
      refine lexT_soft ?_
      refine' a_dSoft rfl ?_
      refine ⟨rfl, ?_⟩
      (try simp only [Act.put, List.setIfInBounds_toArray, List.set_cons_zero, List.set_cons_succ])
      refine lexT_soft ?_
      refine' a_dSoft rfl ?_
      refine ⟨rfl, ?_⟩
      (try simp only [Act.put, List.setIfInBounds_toArray, List.set_cons_zero, List.set_cons_succ])
      refine lexT_soft ?_
      refine' a_dSoft rfl ?_
      refine ⟨rfl, ?_⟩
      (try simp only [Act.put, List.setIfInBounds_toArray, List.set_cons_zero, List.set_cons_succ])
      refine lexT_soft ?_
      refine' a_dSoft rfl ?_
      refine ⟨rfl, ?_⟩
      (try simp only [Act.put, List.setIfInBounds_toArray, List.set_cons_zero, List.set_cons_succ])
      refine lexT_hardL rfl ?_
      ((with_reducible refine' q_alloc ?_); refine' a_alloc HS ?_; clear HS; intro b14_ w_ HS)
      refine lexT_next (fun _ => HS.drop) ?_
      (try simp only [Act.put, List.setIfInBounds_toArray, List.set_cons_zero, List.set_cons_succ])
      refine lexT_soft ?_
      refine' a_dSoft rfl ?_
      refine ⟨rfl, ?_⟩
      (try simp only [Act.put, List.setIfInBounds_toArray, List.set_cons_zero, List.set_cons_succ])
      refine lexT_hardL rfl ?_
      ((with_reducible refine' q_store ?_); refine' a_store HS ?_; clear HS; intro w_ HS)
      refine lexT_next (fun _ => HS.drop) ?_
      (try simp only [Act.put, List.setIfInBounds_toArray, List.set_cons_zero, List.set_cons_succ])
      refine lexT_soft ?_
      refine' a_dSoft rfl ?_
      refine ⟨rfl, ?_⟩
      (try simp only [Act.put, List.setIfInBounds_toArray, List.set_cons_zero, List.set_cons_succ])
      (first | exact lexT_end ⟨b14_, rfl, HS⟩ | exact lexT_end ⟨b14_, rfl, HS.perm (.swap _ _ _)⟩)
    · refine lexT_hardL rfl ?_
      ((with_reducible refine' q_alloc ?_); refine' a_alloc HS ?_; clear HS; intro b14_ w_ HS)
      refine lexT_next (fun _ => HS.drop) ?_
      (try simp only [Act.put, List.setIfInBounds_toArray, List.set_cons_zero, List.set_cons_succ])
      refine lexT_hardL rfl ?_
      refine' st_call ?hw Tryd.func40 (by kernel_rfl) rfl ?hargs (HF.out _ HS.imm) ?_
      case hw => rfl
      case hargs => first | rfl | (go_simp; done)
      rintro e w_ ⟨rfl, hb_⟩
      (have HS_ := HS.call hb_; clear HS hb_; have HS := HS_; clear HS_)
      refine ⟨_, rfl, ?_⟩
      refine lexT_next (fun _ => HS.drop) ?_
      (try simp only [Act.put, List.setIfInBounds_toArray, List.set_cons_zero, List.set_cons_succ])
      refine lexT_soft ?_
      refine' a_dSoft rfl ?_
      refine ⟨rfl, ?_⟩
      (try simp only [Act.put, List.setIfInBounds_toArray, List.set_cons_zero, List.set_cons_succ])
      refine lexT_soft ?_
      refine' a_dSoft rfl ?_
      refine ⟨rfl, ?_⟩
      (try simp only [Act.put, List.setIfInBounds_toArray, List.set_cons_zero, List.set_cons_succ])
      refine lexT_soft ?_
      refine' a_dSoft rfl ?_
      refine ⟨rfl, ?_⟩
      (try simp only [Act.put, List.setIfInBounds_toArray, List.set_cons_zero, List.set_cons_succ])
      refine lexT_soft ?_
      refine' a_dSoft rfl ?_
      refine ⟨rfl, ?_⟩
      (try simp only [Act.put, List.setIfInBounds_toArray, List.set_cons_zero, List.set_cons_succ])
      refine lexT_soft ?_
      refine' a_dSoft rfl ?_
      refine ⟨rfl, ?_⟩
      (try simp only [Act.put, List.setIfInBounds_toArray, List.set_cons_zero, List.set_cons_succ])
      refine lexT_hardL rfl ?_
      ((with_reducible refine' q_store ?_); refine' a_store HS ?_; clear HS; intro w_ HS)
      refine lexT_next (fun _ => HS.drop) ?_
      (try simp only [Act.put, List.setIfInBounds_toArray, List.set_cons_zero, List.set_cons_succ])
      refine lexT_soft ?_
      refine' a_dSoft rfl ?_
      refine ⟨rfl, ?_⟩
      (try simp only [Act.put, List.setIfInBounds_toArray, List.set_cons_zero, List.set_cons_succ])
      (first | exact lexT_end ⟨b14_, rfl, HS⟩ | exact lexT_end ⟨b14_, rfl, HS.perm (.swap _ _ _)⟩)
  clear HS
  intro b14_ w_ HS
  go_wp2_with (first | ((with_reducible refine' q_alloc ?_); refine' a_alloc HS ?_; clear HS; intro b_ w_ HS) | ((with_reducible refine' q_box ?_); refine' a_box HS ?_; clear HS; intro b_ w_ HS) | ((with_reducible refine' q_load ?_); refine' a_load HS ?_) | ((with_reducible refine' q_store ?_); refine' a_store HS ?_; clear HS; intro w_ HS))
  (refine post_cell_tmp (p := 2) (T := 43) rfl HS rfl rfl (by (first | (apply Blk.loc; (repeat (first | (with_reducible exact List.mem_cons_self) | apply List.mem_cons_of_mem)); done) | (apply Blk.imm; with_reducible assumption))) (by exact Eq.refl true) ?_)
  exact ⟨rfl, HS.turnedC (.tail _ (.tail _ (.head _)))⟩

set_option maxHeartbeats 2000000 in
theorem Prev_end (M : Mem) (r : Nat) (l : List UInt8) (hr : RopeAt M r l) (c : Nat) (hM : M c = none) (w : World) (hi : Imm M w) (hc : w.heap[c]? = some (curC 0 r)) :
    Calls Tryd.prog 20 #[ptr c] w fun e w' => e = .returned (.tuple #[st0, .bool false]) ∧ Turned c (curC 0 r) w w' := by
  have HS := St.startC hi hc hM
  have HF := Lib.hid (fun w hi => SStep_out M r l hr (-1) (.inl (by omega)) w hi)
  clear hi hc hr
  go_enter Tryd.func20, Tryd.ntmps20
  go_wp2_with (first | ((with_reducible refine' q_alloc ?_); refine' a_alloc HS ?_; clear HS; intro b_ w_ HS) | ((with_reducible refine' q_box ?_); refine' a_box HS ?_; clear HS; intro b_ w_ HS) | ((with_reducible refine' q_load ?_); refine' a_load HS ?_) | ((with_reducible refine' q_store ?_); refine' a_store HS ?_; clear HS; intro w_ HS))
  refine' wp_region_tree1 [] (.soft 0 (.soft 1 (.soft 2 (.soft 3 (.soft 4 (.soft 5 (.soft 6 (.soft 7 (.soft 8 (.soft 9 (.two 10 (.soft 11 (.soft 12 (.soft 13 (.soft 14 (.one 15 (.soft 16 (.one 17 (.soft 18 .done)))))))) 15 (.one 10 (.soft 11 (.soft 12 (.soft 13 (.soft 14 (.soft 16 (.one 17 (.soft 18 .done))))))))))))))))))) (fun W_ => St _ _ W_ _ _) (by kernel_rfl) (by kernel_rfl) (by kernel_rfl) (by kernel_rfl) (HS).drew ?htree ?_
  case htree =>
    have HS_ := HS.drew; have HS := HS_; clear HS_
    refine lexT_soft ?_
    refine' a_dSoft rfl ?_
    refine ⟨rfl, ?_⟩
    (try simp only [Act.put, List.setIfInBounds_toArray, List.set_cons_zero, List.set_cons_succ])
    refine lexT_soft ?_
    refine' a_dSoft rfl ?_
    refine ⟨rfl, ?_⟩
    (try simp only [Act.put, List.setIfInBounds_toArray, List.set_cons_zero, List.set_cons_succ])
    refine lexT_soft ?_
    refine' a_dSoft rfl ?_
    refine ⟨rfl, ?_⟩
    (try simp only [Act.put, List.setIfInBounds_toArray, List.set_cons_zero, List.set_cons_succ])
    refine lexT_soft ?_
    (first | refine' a_dLoad rfl (fun w_ hw_ => hw_) ?_ | refine' a_dLoadC rfl (fun w_ hw_ => hw_) ?_)
    refine ⟨rfl, ?_⟩
    (try simp only [Act.put, List.setIfInBounds_toArray, List.set_cons_zero, List.set_cons_succ])
    refine lexT_soft ?_
    refine' a_dSoft rfl ?_
    refine ⟨rfl, ?_⟩
    (try simp only [Act.put, List.setIfInBounds_toArray, List.set_cons_zero, List.set_cons_succ])
    refine lexT_soft ?_
    refine' a_dSoft rfl ?_
    refine ⟨rfl, ?_⟩
    (try simp only [Act.put, List.setIfInBounds_toArray, List.set_cons_zero, List.set_cons_succ])
    refine lexT_soft ?_
    refine' a_dSoft rfl ?_
    refine ⟨rfl, ?_⟩
    (try simp only [Act.put, List.setIfInBounds_toArray, List.set_cons_zero, List.set_cons_succ])
    refine lexT_soft ?_
    refine' a_dSoft rfl ?_
    refine ⟨rfl, ?_⟩
    (try simp only [Act.put, List.setIfInBounds_toArray, List.set_cons_zero, List.set_cons_succ])
    refine lexT_soft ?_
    (first | refine' a_dLoad rfl (fun w_ hw_ => hw_) ?_ | refine' a_dLoadC rfl (fun w_ hw_ => hw_) ?_)
    refine ⟨rfl, ?_⟩
    (try simp only [Act.put, List.setIfInBounds_toArray, List.set_cons_zero, List.set_cons_succ])
    refine lexT_soft ?_
    (refine' dSub Tryd.underlying3 rfl ?hw ?hx ?hy ?hb ?_; (case hw => first | rfl | go_simp); (case hx => first | exact eval_lit rfl | rfl); (case hy => rfl); (case hb => first | omega | (simp; omega)))
    refine ⟨rfl, ?_⟩
    (try simp only [Act.put, List.setIfInBounds_toArray, List.set_cons_zero, List.set_cons_succ])
    refine ⟨?_, ?_⟩
    · refine lexT_hardL rfl ?_
      refine' st_call ?hw Tryd.func40 (by kernel_rfl) rfl ?hargs (HF.out _ HS.imm) ?_
      case hw => rfl
      case hargs => first | rfl | (go_simp; done)
      rintro e w_ ⟨rfl, hb_⟩
      (have HS_ := HS.call hb_; clear HS hb_; have HS := HS_; clear HS_)
      refine ⟨_, rfl, ?_⟩
      refine lexT_next (fun _ => HS) ?_
      (try simp only [Act.put, List.setIfInBounds_toArray, List.set_cons_zero, List.set_cons_succ])
      refine lexT_soft ?_
      refine' a_dSoft rfl ?_
      refine ⟨rfl, ?_⟩
      (try simp only [Act.put, List.setIfInBounds_toArray, List.set_cons_zero, List.set_cons_succ])
      refine lexT_soft ?_
      refine' a_dSoft rfl ?_
      refine ⟨rfl, ?_⟩
      (try simp only [Act.put, List.setIfInBounds_toArray, List.set_cons_zero, List.set_cons_succ])
      refine lexT_soft ?_
      refine' a_dSoft rfl ?_
      refine ⟨rfl, ?_⟩
      (try simp only [Act.put, List.setIfInBounds_toArray, List.set_cons_zero, List.set_cons_succ])
      refine lexT_soft ?_
      refine' a_dSoft rfl ?_
      refine ⟨rfl, ?_⟩
      (try simp only [Act.put, List.setIfInBounds_toArray, List.set_cons_zero, List.set_cons_succ])
      refine lexT_hardL rfl ?_
      ((with_reducible refine' q_alloc ?_); refine' a_alloc HS ?_; clear HS; intro b15_ w_ HS)
      refine lexT_next (fun _ => HS.drop) ?_
      (try simp only [Act.put, List.setIfInBounds_toArray, List.set_cons_zero, List.set_cons_succ])
      refine lexT_soft ?_
      refine' a_dSoft rfl ?_
      refine ⟨rfl, ?_⟩
      (try simp only [Act.put, List.setIfInBounds_toArray, List.set_cons_zero, List.set_cons_succ])
      refine lexT_hardL rfl ?_
      ((with_reducible refine' q_store ?_); refine' a_store HS ?_; clear HS; intro w_ HS)
      refine lexT_next (fun _ => HS.drop) ?_
      (try simp only [Act.put, List.setIfInBounds_toArray, List.set_cons_zero, List.set_cons_succ])
      refine lexT_soft ?_
      refine' a_dSoft rfl ?_
      refine ⟨rfl, ?_⟩
      (try simp only [Act.put, List.setIfInBounds_toArray, List.set_cons_zero, List.set_cons_succ])
      (first | exact lexT_end ⟨b15_, rfl, HS⟩ | exact lexT_end ⟨b15_, rfl, HS.perm (.swap _ _ _)⟩)
    · refine lexT_hardL rfl ?_
      ((with_reducible refine' q_alloc ?_); refine' a_alloc HS ?_; clear HS; intro b15_ w_ HS)
      refine lexT_next (fun _ => HS.drop) ?_
      (try simp only [Act.put, List.setIfInBounds_toArray, List.set_cons_zero, List.set_cons_succ])
      refine lexT_hardL rfl ?_
      refine' st_call ?hw Tryd.func40 (by kernel_rfl) rfl ?hargs (HF.out _ HS.imm) ?_
      case hw => rfl
      case hargs => first | rfl | (go_simp; done)
      rintro e w_ ⟨rfl, hb_⟩
      (have HS_ := HS.call hb_; clear HS hb_; have HS := HS_; clear HS_)
      refine ⟨_, rfl, ?_⟩
      refine lexT_next (fun _ => HS.drop) ?_
      (try simp only [Act.put, List.setIfInBounds_toArray, List.set_cons_zero, List.set_cons_succ])
      refine lexT_soft ?_
      refine' a_dSoft rfl ?_
      refine ⟨rfl, ?_⟩
      (try simp only [Act.put, List.setIfInBounds_toArray, List.set_cons_zero, List.set_cons_succ])
      refine lexT_soft ?_
      refine' a_dSoft rfl ?_
      refine ⟨rfl, ?_⟩
      (try simp only [Act.put, List.setIfInBounds_toArray, List.set_cons_zero, List.set_cons_succ])
      refine lexT_soft ?_
      refine' a_dSoft rfl ?_
      refine ⟨rfl, ?_⟩
      (try simp only [Act.put, List.setIfInBounds_toArray, List.set_cons_zero, List.set_cons_succ])
      refine lexT_soft ?_
      refine' a_dSoft rfl ?_
      refine ⟨rfl, ?_⟩
      (try simp only [Act.put, List.setIfInBounds_toArray, List.set_cons_zero, List.set_cons_succ])
      refine lexT_soft ?_
      refine' a_dSoft rfl ?_
      refine ⟨rfl, ?_⟩
      (try simp only [Act.put, List.setIfInBounds_toArray, List.set_cons_zero, List.set_cons_succ])
      refine lexT_hardL rfl ?_
      ((with_reducible refine' q_store ?_); refine' a_store HS ?_; clear HS; intro w_ HS)
      refine lexT_next (fun _ => HS.drop) ?_
      (try simp only [Act.put, List.setIfInBounds_toArray, List.set_cons_zero, List.set_cons_succ])
      refine lexT_soft ?_
      refine' a_dSoft rfl ?_
      refine ⟨rfl, ?_⟩
      (try simp only [Act.put, List.setIfInBounds_toArray, List.set_cons_zero, List.set_cons_succ])
      (first | exact lexT_end ⟨b15_, rfl, HS⟩ | exact lexT_end ⟨b15_, rfl, HS.perm (.swap _ _ _)⟩)
  clear HS
  intro b15_ w_ HS
  go_wp2_with (first | ((with_reducible refine' q_alloc ?_); refine' a_alloc HS ?_; clear HS; intro b_ w_ HS) | ((with_reducible refine' q_box ?_); refine' a_box HS ?_; clear HS; intro b_ w_ HS) | ((with_reducible refine' q_load ?_); refine' a_load HS ?_) | ((with_reducible refine' q_store ?_); refine' a_store HS ?_; clear HS; intro w_ HS))
  (refine post_cell_tmp (p := 2) (T := 43) rfl HS rfl rfl (by (first | (apply Blk.loc; (repeat (first | (with_reducible exact List.mem_cons_self) | apply List.mem_cons_of_mem)); done) | (apply Blk.imm; with_reducible assumption))) (by exact Eq.refl true) ?_)
  exact ⟨rfl, HS.turnedC (.tail _ (.tail _ (.head _)))⟩
end Go.Proofs.YtbogoehjoglneaaDoor

/- walk: a cursor's Skip. -/
namespace Go.Proofs.YtbogoehjoglneaaDoor
open Go.RowKit
set_option linter.unusedVariables false
set_option linter.unusedSimpArgs false
set_option maxRecDepth 100000
attribute [local go_sem] byt_drop byt_tail Int.toNat_natCast sOf_size

theorem St.at0 {B : Nat → Prop} {M : Mem} {w0 w : World} {c : Nat} {o : Obj} {L : List (Nat × Obj)} (h : St B w0 w M ((c, o) :: L)) : w.heap[c]? = some o := h.loc (c, o) (.head _)
theorem St.at1 {B : Nat → Prop} {M : Mem} {w0 w : World} {c : Nat} {o : Obj} {q : Nat × Obj} {L : List (Nat × Obj)} (h : St B w0 w M (q :: (c, o) :: L)) : w.heap[c]? = some o := h.loc (c, o) (.tail _ (.head _))
theorem St.at2 {B : Nat → Prop} {M : Mem} {w0 w : World} {c : Nat} {o : Obj} {q q2 : Nat × Obj} {L : List (Nat × Obj)} (h : St B w0 w M (q :: q2 :: (c, o) :: L)) : w.heap[c]? = some o := h.loc (c, o) (.tail _ (.tail _ (.head _)))

/- Where one comes to over n steps, and over how many: forwards, backwards. -/
def skipF (l : List UInt8) : Nat → Nat → Nat × Nat
  | p, 0 => (p, 0)
  | p, n + 1 => if p < l.length then ((skipF l (p + (stp (l.drop p)).w) n).1, (skipF l (p + (stp (l.drop p)).w) n).2 + 1) else (p, 0)
def skipB (l : List UInt8) : Nat → Nat → Nat × Nat
  | p, 0 => (p, 0)
  | p, n + 1 => if 0 < p then ((skipB l (floorN l (p - 1)) n).1, (skipB l (floorN l (p - 1)) n).2 + 1) else (p, 0)

set_option maxHeartbeats 4000000 in
theorem Skip_fwd (M : Mem) (hG : Gl M) (r : Nat) (l : List UInt8) (hr : RopeAt M r l) (c p0 : Nat) (hp0 : p0 ≤ l.length) (h00 : inside l p0 = 0) (n : Int) (hn : 0 ≤ n) (hn2 : n ≤ 9223372036854775807) (hM : M c = none) (w : World) (hi : Imm M w) (hc : w.heap[c]? = some (curC p0 r)) :
    Calls Tryd.prog 21 #[ptr c, .int .i64 n] w fun e w' => e = .returned (.int .i64 (skipF l p0 n.toNat).2) ∧ Turned c (curC (skipF l p0 n.toNat).1 r) w w' := by
  have HS := St.startC hi hc hM
  have HG := Lib.hid hG
  have HR := Lib.hid hr
  have hm := hr.small
  obtain ⟨pe, hpe⟩ : ∃ pe, pe = (skipF l p0 n.toNat).1 := ⟨_, rfl⟩
  obtain ⟨k, hk⟩ : ∃ k, k = (skipF l p0 n.toNat).2 := ⟨_, rfl⟩
  rw [← hpe, ← hk]
  obtain ⟨N, rfl⟩ := Int.eq_ofNat_of_zero_le hn
  rw [Int.toNat_natCast] at hpe hk
  clear hi hc hG hr
  go_enter Tryd.func21, Tryd.ntmps21
  go_wp2_with (first | ((with_reducible refine' q_alloc ?_); refine' a_alloc HS ?_; clear HS; intro b_ w_ HS) | ((with_reducible refine' q_box ?_); refine' a_box HS ?_; clear HS; intro b_ w_ HS) | ((with_reducible refine' q_load ?_); refine' a_load HS ?_) | ((with_reducible refine' q_store ?_); refine' a_store HS ?_; clear HS; intro w_ HS))
  refine wp_loop_st (σ := Nat) (fun p a w1 => ∃ n' t, p ≤ l.length ∧ inside l p = 0 ∧ n' ≤ 9223372036854775807 ∧ t ≤ p ∧ (∃ g2 g3 g4 g6 g7 g8 g9 g10 g11 g12 g13 g14 g15 g16 g17 g18 g19 g20 g21 g22 g23 g24 g25 g26 g27 g28 g29 g30 g31 g32 g33 g34 g35 g36 g37 g38 : Value, a = { tmps := #[ptr c, .int .i64 (n' : Nat), g2, g3, g4, .int .i64 (t : Nat), g6, g7, g8, g9, g10, g11, g12, g13, g14, g15, g16, g17, g18, g19, g20, g21, g22, g23, g24, g25, g26, g27, g28, g29, g30, g31, g32, g33, g34, g35, g36, g37, g38], defers := [] }) ∧ (skipF l p n').1 = pe ∧ t + (skipF l p n').2 = k ∧
    St (fun k => k = c ∨ w.heap.size ≤ k) w w1 M [(c, curC p r)]) (fun p => l.length - p) p0
    ⟨N, 0, hp0, h00, by omega, Nat.zero_le _, ⟨_, _, _, _, _, _, _, _, _, _, _, _, _, _, _, _, _, _, _, _, _, _, _, _, _, _, _, _, _, _, _, _, _, _, _, _, rfl⟩, hpe.symm, by rw [hk]; omega, HS⟩ ?_
  clear HS
  rintro p a w1 ⟨n', t, hp, h0, hn', htp, ⟨g2, g3, g4, g6, g7, g8, g9, g10, g11, g12, g13, g14, g15, g16, g17, g18, g19, g20, g21, g22, g23, g24, g25, g26, g27, g28, g29, g30, g31, g32, g33, g34, g35, g36, g37, g38, rfl⟩, e1, e2, HS⟩
  by_cases hz : 0 < (n' : Int)
  · obtain ⟨m, rfl⟩ : ∃ m, n' = m + 1 := ⟨n' - 1, by omega⟩
    by_cases hlt : p < l.length
    · simp only [skipF, if_pos hlt] at e1 e2
      have E1 := Lib.hid e1; clear e1
      have E2 := Lib.hid e2; clear e2
      have hN := fun (w : World) (hi : Imm M w) (hc : w.heap[c]? = some (curC p r)) => Next_in M HG.out r l HR.out c p hlt h0 hM w hi hc
      have hw4 := stp_w (l.drop p)
      have hwl := stp_len (l := l.drop p) (fun h => by have := congrArg List.length h; simp at this; omega)
      rw [List.length_drop] at hwl
      have hin := edge_next h0
      obtain ⟨s, hs⟩ : ∃ s, s = stp (l.drop p) := ⟨_, rfl⟩
      rw [← hs] at hN hw4 hwl hin
      have HN := Lib.hid hN; clear hN
      have HW := Lib.hid hw4; clear hw4
      have HWL := Lib.hid hwl; clear hwl
      have HIN := Lib.hid hin; clear hin
      have HSS := Lib.hid hs; clear hs
      go_wp2_with (first | ((with_reducible refine' q_alloc ?_); refine' a_alloc HS ?_; clear HS; intro b_ w_ HS) | ((with_reducible refine' q_box ?_); refine' a_box HS ?_; clear HS; intro b_ w_ HS) | ((with_reducible refine' q_load ?_); refine' a_load HS ?_) | ((with_reducible refine' q_store ?_); refine' a_store HS ?_; clear HS; intro w_ HS) | (go_at_call 19; (with_reducible refine (HN.out _ HS.imm HS.at0).mono ?_); rintro e w_ ⟨rfl, ht⟩; have HS_ := HS.turn (.head _) ht; clear HS; have HS := HS_; clear HS_))
      refine ⟨p + s.w, ⟨m, t + 1, ?_, HIN.out, by omega, ?_, ⟨_, _, _, _, _, _, _, _, _, _, _, _, _, _, _, _, _, _, _, _, _, _, _, _, _, _, _, _, _, _, _, _, _, _, _, _, rfl⟩, ?_, ?_, HS.drop⟩, ?_⟩
      · have := HWL.out; omega
      · have := HW.out; omega
      · have := E1.out; rw [← HSS.out] at this; exact this
      · have := E2.out; rw [← HSS.out] at this; omega
      · have := HW.out; have := HWL.out; omega
    · obtain rfl : p = l.length := by omega
      simp only [skipF, if_neg hlt] at e1 e2
      have E1 := Lib.hid e1; clear e1
      have E2 := Lib.hid e2; clear e2
      have HN := Lib.hid (fun (w : World) (hi : Imm M w) (hc : w.heap[c]? = some (curC l.length r)) => Next_end M r l HR.out c hM w hi hc)
      go_wp2_with (first | ((with_reducible refine' q_alloc ?_); refine' a_alloc HS ?_; clear HS; intro b_ w_ HS) | ((with_reducible refine' q_box ?_); refine' a_box HS ?_; clear HS; intro b_ w_ HS) | ((with_reducible refine' q_load ?_); refine' a_load HS ?_) | ((with_reducible refine' q_store ?_); refine' a_store HS ?_; clear HS; intro w_ HS) | (go_at_call 19; (with_reducible refine (HN.out _ HS.imm HS.at0).mono ?_); rintro e w_ ⟨rfl, ht⟩; have HS_ := HS.turn (.head _) ht; clear HS; have HS := HS_; clear HS_))
      go_ret
      refine ⟨?_, ?_⟩
      · have := E2.out; rw [← this]; rfl
      · rw [← E1.out]; exact HS.turnedC (.tail _ (.head _))
  · obtain rfl : n' = 0 := by omega
    simp only [skipF] at e1 e2
    have E1 := Lib.hid e1; clear e1
    have E2 := Lib.hid e2; clear e2
    go_wp2_with (first | ((with_reducible refine' q_alloc ?_); refine' a_alloc HS ?_; clear HS; intro b_ w_ HS) | ((with_reducible refine' q_box ?_); refine' a_box HS ?_; clear HS; intro b_ w_ HS) | ((with_reducible refine' q_load ?_); refine' a_load HS ?_) | ((with_reducible refine' q_store ?_); refine' a_store HS ?_; clear HS; intro w_ HS))
    refine wp_loop_st (σ := Unit) (fun _ a w2 => (∃ g2 g3 g4 g6 g7 g8 g9 g10 g11 g12 g13 g14 g15 g16 g17 g18 g19 g20 g21 g22 g23 g24 g25 g26 g27 g28 g29 g30 g31 g32 g33 g34 g35 g36 g37 g38 : Value, a = { tmps := #[ptr c, .int .i64 0, g2, g3, g4, .int .i64 (t : Nat), g6, g7, g8, g9, g10, g11, g12, g13, g14, g15, g16, g17, g18, g19, g20, g21, g22, g23, g24, g25, g26, g27, g28, g29, g30, g31, g32, g33, g34, g35, g36, g37, g38], defers := [] }) ∧ St (fun k => k = c ∨ w.heap.size ≤ k) w w2 M [(c, curC p r)]) (fun _ => 0) () ⟨⟨_, _, _, _, _, _, _, _, _, _, _, _, _, _, _, _, _, _, _, _, _, _, _, _, _, _, _, _, _, _, _, _, _, _, _, _, rfl⟩, HS⟩ ?_
    clear HS
    rintro _ a w2 ⟨⟨g2, g3, g4, g6, g7, g8, g9, g10, g11, g12, g13, g14, g15, g16, g17, g18, g19, g20, g21, g22, g23, g24, g25, g26, g27, g28, g29, g30, g31, g32, g33, g34, g35, g36, g37, g38, rfl⟩, HS⟩
    go_wp2_with (first | ((with_reducible refine' q_alloc ?_); refine' a_alloc HS ?_; clear HS; intro b_ w_ HS) | ((with_reducible refine' q_box ?_); refine' a_box HS ?_; clear HS; intro b_ w_ HS) | ((with_reducible refine' q_load ?_); refine' a_load HS ?_) | ((with_reducible refine' q_store ?_); refine' a_store HS ?_; clear HS; intro w_ HS))
    go_ret
    refine ⟨?_, ?_⟩
    · have := E2.out; rw [← this]; rfl
    · rw [← E1.out]; exact HS.turnedC (.head _)

set_option maxHeartbeats 4000000 in
theorem Skip_bwd (M : Mem) (hG : Gl M) (r : Nat) (l : List UInt8) (hr : RopeAt M r l) (c p0 : Nat) (hp0 : p0 ≤ l.length) (h00 : inside l p0 = 0) (n : Int) (N : Nat) (hn : n = -(N : Int)) (hn2 : -9223372036854775808 ≤ n) (hM : M c = none) (w : World) (hi : Imm M w) (hc : w.heap[c]? = some (curC p0 r)) :
    Calls Tryd.prog 21 #[ptr c, .int .i64 n] w fun e w' => e = .returned (.int .i64 (skipB l p0 N).2) ∧ Turned c (curC (skipB l p0 N).1 r) w w' := by
  have HS := St.startC hi hc hM
  have HG := Lib.hid hG
  have HR := Lib.hid hr
  have hm := hr.small
  obtain ⟨pe, hpe⟩ : ∃ pe, pe = (skipB l p0 N).1 := ⟨_, rfl⟩
  obtain ⟨k, hk⟩ : ∃ k, k = (skipB l p0 N).2 := ⟨_, rfl⟩
  rw [← hpe, ← hk]
  have hn0 : ¬ 0 < n := by omega
  have HNN := Lib.hid hn
  clear hi hc hG hr hn
  go_enter Tryd.func21, Tryd.ntmps21
  go_wp2_with (first | ((with_reducible refine' q_alloc ?_); refine' a_alloc HS ?_; clear HS; intro b_ w_ HS) | ((with_reducible refine' q_box ?_); refine' a_box HS ?_; clear HS; intro b_ w_ HS) | ((with_reducible refine' q_load ?_); refine' a_load HS ?_) | ((with_reducible refine' q_store ?_); refine' a_store HS ?_; clear HS; intro w_ HS))
  refine wp_loop_st (σ := Unit) (fun _ a w2 => (∃ g2 g3 g4 g6 g7 g8 g9 g10 g11 g12 g13 g14 g15 g16 g17 g18 g19 g20 g21 g22 g23 g24 g25 g26 g27 g28 g29 g30 g31 g32 g33 g34 g35 g36 g37 g38 : Value, a = { tmps := #[ptr c, .int .i64 n, g2, g3, g4, .int .i64 0, g6, g7, g8, g9, g10, g11, g12, g13, g14, g15, g16, g17, g18, g19, g20, g21, g22, g23, g24, g25, g26, g27, g28, g29, g30, g31, g32, g33, g34, g35, g36, g37, g38], defers := [] }) ∧ St (fun k => k = c ∨ w.heap.size ≤ k) w w2 M [(c, curC p0 r)]) (fun _ => 0) () ⟨⟨_, _, _, _, _, _, _, _, _, _, _, _, _, _, _, _, _, _, _, _, _, _, _, _, _, _, _, _, _, _, _, _, _, _, _, _, rfl⟩, HS⟩ ?_
  clear HS
  rintro _ a w2 ⟨⟨g2, g3, g4, g6, g7, g8, g9, g10, g11, g12, g13, g14, g15, g16, g17, g18, g19, g20, g21, g22, g23, g24, g25, g26, g27, g28, g29, g30, g31, g32, g33, g34, g35, g36, g37, g38, rfl⟩, HS⟩
  go_wp2_with (first | ((with_reducible refine' q_alloc ?_); refine' a_alloc HS ?_; clear HS; intro b_ w_ HS) | ((with_reducible refine' q_box ?_); refine' a_box HS ?_; clear HS; intro b_ w_ HS) | ((with_reducible refine' q_load ?_); refine' a_load HS ?_) | ((with_reducible refine' q_store ?_); refine' a_store HS ?_; clear HS; intro w_ HS))
  refine wp_loop_st (σ := Nat) (fun p a w1 => ∃ (n' t : Nat) (z : Int), z = -(n' : Int) ∧ -9223372036854775808 ≤ z ∧ p ≤ l.length ∧ inside l p = 0 ∧ t + p ≤ l.length ∧ (∃ g2 g3 g4 g6 g7 g8 g9 g10 g11 g12 g13 g14 g15 g16 g17 g18 g19 g20 g21 g22 g23 g24 g25 g26 g27 g28 g29 g30 g31 g32 g33 g34 g35 g36 g37 g38 : Value, a = { tmps := #[ptr c, .int .i64 z, g2, g3, g4, .int .i64 (t : Nat), g6, g7, g8, g9, g10, g11, g12, g13, g14, g15, g16, g17, g18, g19, g20, g21, g22, g23, g24, g25, g26, g27, g28, g29, g30, g31, g32, g33, g34, g35, g36, g37, g38], defers := [] }) ∧ (skipB l p n').1 = pe ∧ t + (skipB l p n').2 = k ∧
    St (fun k => k = c ∨ w.heap.size ≤ k) w w1 M [(c, curC p r)]) (fun p => p) p0
    ⟨N, 0, n, HNN.out, hn2, hp0, h00, by omega, ⟨_, _, _, _, _, _, _, _, _, _, _, _, _, _, _, _, _, _, _, _, _, _, _, _, _, _, _, _, _, _, _, _, _, _, _, _, rfl⟩, hpe.symm, by rw [hk]; omega, HS⟩ ?_
  clear HS
  rintro p a w1 ⟨n', t, z, hz, hz2, hp, h0, htp, ⟨g2, g3, g4, g6, g7, g8, g9, g10, g11, g12, g13, g14, g15, g16, g17, g18, g19, g20, g21, g22, g23, g24, g25, g26, g27, g28, g29, g30, g31, g32, g33, g34, g35, g36, g37, g38, rfl⟩, e1, e2, HS⟩
  clear hpe hk
  by_cases hzn : z < 0
  · obtain ⟨m, rfl⟩ : ∃ m, n' = m + 1 := ⟨n' - 1, by omega⟩
    have HZ := Lib.hid hz; clear hz
    by_cases hlt : 0 < p
    · simp only [skipB, if_pos hlt] at e1 e2
      have E1 := Lib.hid e1; clear e1
      have E2 := Lib.hid e2; clear e2
      have hpe1 := prev_edge h0 hlt hp
      have hw4 := stp_w (l.drop (floorN l (p - 1)))
      have hin := floor_edge l (p - 1)
      obtain ⟨q, hq⟩ : ∃ q, q = floorN l (p - 1) := ⟨_, rfl⟩
      rw [← hq] at hpe1 hw4 hin
      obtain ⟨s, hs⟩ : ∃ s, s = stp (l.drop q) := ⟨_, rfl⟩
      rw [← hs] at hpe1 hw4
      have HN := Lib.hid (fun (w : World) (hi : Imm M w) (hc : w.heap[c]? = some (curC p r)) => Prev_in M HG.out r l HR.out c p q s hlt hp hq hs hpe1 hM w hi hc)
      have HW := Lib.hid hw4; clear hw4
      have HP := Lib.hid hpe1; clear hpe1
      have HIN := Lib.hid hin; clear hin
      have HQ := Lib.hid hq; clear hq
      clear hs
      go_wp2_with (first | ((with_reducible refine' q_alloc ?_); refine' a_alloc HS ?_; clear HS; intro b_ w_ HS) | ((with_reducible refine' q_box ?_); refine' a_box HS ?_; clear HS; intro b_ w_ HS) | ((with_reducible refine' q_load ?_); refine' a_load HS ?_) | ((with_reducible refine' q_store ?_); refine' a_store HS ?_; clear HS; intro w_ HS) | (go_at_call 20; (with_reducible refine (HN.out _ HS.imm HS.at0).mono ?_); rintro e w_ ⟨rfl, ht⟩; have HS_ := HS.turn (.head _) ht; clear HS; have HS := HS_; clear HS_))
      refine ⟨q, ⟨m, t + 1, z + 1, ?_, by omega, ?_, HIN.out, ?_, ⟨_, _, _, _, _, _, _, _, _, _, _, _, _, _, _, _, _, _, _, _, _, _, _, _, _, _, _, _, _, _, _, _, _, _, _, _, rfl⟩, ?_, ?_, HS.drop⟩, ?_⟩
      · have := HZ.out; omega
      · have := HP.out; omega
      · have := HW.out; have := HP.out; omega
      · have := E1.out; rw [← HQ.out] at this; exact this
      · have := E2.out; rw [← HQ.out] at this; omega
      · have := HW.out; have := HP.out; omega
    · obtain rfl : p = 0 := by omega
      simp only [skipB, if_neg hlt] at e1 e2
      have E1 := Lib.hid e1; clear e1
      have E2 := Lib.hid e2; clear e2
      have HN := Lib.hid (fun (w : World) (hi : Imm M w) (hc : w.heap[c]? = some (curC (0 : Nat) r)) => Prev_end M r l HR.out c hM w hi hc)
      go_wp2_with (first | ((with_reducible refine' q_alloc ?_); refine' a_alloc HS ?_; clear HS; intro b_ w_ HS) | ((with_reducible refine' q_box ?_); refine' a_box HS ?_; clear HS; intro b_ w_ HS) | ((with_reducible refine' q_load ?_); refine' a_load HS ?_) | ((with_reducible refine' q_store ?_); refine' a_store HS ?_; clear HS; intro w_ HS) | (go_at_call 20; (with_reducible refine (HN.out _ HS.imm HS.at0).mono ?_); rintro e w_ ⟨rfl, ht⟩; have HS_ := HS.turn (.head _) ht; clear HS; have HS := HS_; clear HS_))
      go_ret
      refine ⟨?_, ?_⟩
      · have := E2.out; rw [← this]; rfl
      · rw [← E1.out]; exact HS.turnedC (.tail _ (.head _))
  · obtain rfl : n' = 0 := by omega
    simp only [skipB] at e1 e2
    have E1 := Lib.hid e1; clear e1
    have E2 := Lib.hid e2; clear e2
    go_wp2_with (first | ((with_reducible refine' q_alloc ?_); refine' a_alloc HS ?_; clear HS; intro b_ w_ HS) | ((with_reducible refine' q_box ?_); refine' a_box HS ?_; clear HS; intro b_ w_ HS) | ((with_reducible refine' q_load ?_); refine' a_load HS ?_) | ((with_reducible refine' q_store ?_); refine' a_store HS ?_; clear HS; intro w_ HS))
    go_ret
    refine ⟨?_, ?_⟩
    · have := E2.out; rw [← this]; rfl
    · rw [← E1.out]; exact HS.turnedC (.head _)
end Go.Proofs.YtbogoehjoglneaaDoor

/- The walk laws' fixed fact: the beginning of the document's examples. -/
namespace Go.Proofs.YtbogoehjoglneaaDoor
open Go.RowKit
set_option linter.unusedVariables false
set_option linter.unusedSimpArgs false
set_option maxRecDepth 100000
attribute [local go_sem] byt_drop byt_tail Int.toNat_natCast sOf_size

theorem freeze_putB {w : World} {b k : Nat} {c : Array Value} {t : TypeId} (h : w.heap[b]? = some (.cells c t (0, 0))) : w.freeze ⟨b, k, none⟩ 1 = putB w b (.cells c t (k, k + 1)) := by
  unfold World.freeze putB
  rw [if_neg (by decide)]
  congr 1
  apply Array.ext_getElem?
  intro i
  simp only [Array.getElem?_modify, Array.getElem?_setIfInBounds]
  by_cases hk : b = i
  · subst hk
    rw [if_pos rfl, if_pos rfl, h, if_pos (Array.getElem?_eq_some_iff.1 h).1]
    rfl
  · rw [if_neg hk, if_neg hk]
/- []byte("..") of a constant: the row gets the run-time's mark. -/
theorem st_conv_same {P : Program} {ops : Array Oper} {rest : List Oper} {a : Act} {Q : Exit → Act → World → Prop} {w w0 : World} {B : Nat → Prop} {M : Mem} {L L' : List (Nat × Obj)} {d : Option Tmp} {S e ty : TypeId} {x : Operand} {ps : String} {af : Array Edge} {g : Option (Nat × Bool)} {b n c : Nat} {cl : Array Value}
    (hw : Region.wanted { dst := d, op := .convert S S x, type := ty, pos := ps, after := af, guard := g } (yielded ops a.tmps) = true)
    (hs : P.underlying S = some (.slice e)) (he : P.underlying e = some (.int .u8)) (HS : St B w0 w M L) (hx : a.eval x = .slice (some ⟨b, 0, Option.none⟩) n c)
    (hr : Rep1 b (.cells cl e (0, 0)) (.cells cl e (cl.size, cl.size + 1)) L L')
    (k : ∀ w', St B w0 w' M L' → wpList P ops Q rest (a.put d (.slice (some ⟨b, 0, Option.none⟩) n c)) w') :
    wpList P ops Q ({ dst := d, op := .convert S S x, type := ty, pos := ps, after := af, guard := g } :: rest) a w := by
  have hb := HS.loc _ hr.mem
  have hsh : w.shape? b = some (e, cl.size) := by unfold World.shape?; rw [hb]
  refine wpList_ok (v := .slice (some ⟨b, 0, Option.none⟩) n c) (w' := Go.Proofs.YtbogoehjoglneaaDoor.putB w b (.cells cl e (cl.size, cl.size + 1))) hw ?_ (k _ (HS.putB hr))
  have hrun : (convert S S (.slice (some ⟨b, 0, Option.none⟩) n c)).run P w = .ok (.slice (some ⟨b, 0, Option.none⟩) n c) (Go.Proofs.YtbogoehjoglneaaDoor.putB w b (.cells cl e (cl.size, cl.size + 1))) := by
    rw [← freeze_putB hb]
    simp [convert, run_underlying hs, run_underlying he, markStringish, hsh]
  simp only [execOp, hx, Sem.run_bind, hrun, Result.andThen, Sem.run_pure]
theorem BS.lit {M : Mem} {b : Nat} {l : List UInt8} {t : TypeId} {fr : Nat × Nat} (h : M b = some (.cells (l.map ub).toArray t fr)) : BS M (some ⟨b, 0, Option.none⟩) l.length l :=
  ⟨Nat.le_refl _, fun h => (by cases h), fun ad e => by
    cases e
    refine ⟨rfl, fun i hi => ?_⟩
    unfold cellM
    rw [h]
    simp [hi]⟩

abbrev B0 : List UInt8 := [97, 240, 159, 152, 128, 13, 10, 130]
theorem B0_floor : floorN B0 4 = 1 := by decide
theorem B0_edge : inside B0 1 = 0 := by decide
theorem B0_step : stp (B0.drop 1) = ⟨128512, 4, true⟩ := by decide
theorem B0_units : zN 3 (B0.take 1) = 1 := by
  unfold zN unitsN
  rw [if_neg (by decide), if_neg (by decide), show B0.take 1 = [97] from rfl, S_cons (by simp), show stp [97] = ⟨97, 1, true⟩ from by decide]
  simp [S_nil, uOf]
theorem B0_edge5 : inside B0 5 = 0 := by decide
theorem B0_skip : skipF B0 5 9 = (8, 3) := by decide
theorem B0_edge8 : inside B0 8 = 0 := by decide
theorem B0_back : skipB B0 8 2 = (6, 2) := by decide


theorem fx_new (M : Mem) (hG : Gl M) (r : Nat) (hr : RopeAt M r B0) (w : World) (hi : Imm M w) :
    Calls Tryd.prog 16 #[ptr r, .int .i64 4] w fun e w' => ∃ c, e = .returned (.tuple #[ptr c, .int .i64 0]) ∧ Below w.heap.size w w' ∧ w.heap.size ≤ c ∧ w'.heap[c]? = some (curC 1 r) := by
  have := WNew_in M hG r B0 hr 4 (by decide) w hi
  rw [B0_floor] at this
  exact this
theorem fx_place (M : Mem) (hG : Gl M) (r c : Nat) (hr : RopeAt M r B0) (hM : M c = none) (w : World) (hi : Imm M w) (hc : w.heap[c]? = some (curC 1 r)) :
    Calls Tryd.prog 23 #[ptr c, .int .i64 3] w fun e w' => e = .returned (.tuple #[.int .i64 1, .int .i64 0]) ∧ Below w.heap.size w w' := by
  have := Place_edge M hG r B0 hr c 1 (by decide) B0_edge 3 (by decide) (by decide) hM w hi hc
  rw [B0_units] at this
  exact this
theorem fx_next (M : Mem) (hG : Gl M) (r c : Nat) (hr : RopeAt M r B0) (hM : M c = none) (w : World) (hi : Imm M w) (hc : w.heap[c]? = some (curC 1 r)) :
    Calls Tryd.prog 19 #[ptr c] w fun e w' => e = .returned (.tuple #[.agg #[.int .i32 128512, .int .i64 4, .bool true], .bool true]) ∧ Turned c (curC 5 r) w w' := by
  have := Next_in M hG r B0 hr c 1 (by decide) B0_edge hM w hi hc
  rw [B0_step] at this
  exact this
theorem fx_skip (M : Mem) (hG : Gl M) (r c : Nat) (hr : RopeAt M r B0) (hM : M c = none) (w : World) (hi : Imm M w) (hc : w.heap[c]? = some (curC 5 r)) :
    Calls Tryd.prog 21 #[ptr c, .int .i64 9] w fun e w' => e = .returned (.int .i64 3) ∧ Turned c (curC 8 r) w w' := by
  have := Skip_fwd M hG r B0 hr c 5 (by decide) B0_edge5 9 (by decide) (by decide) hM w hi hc
  rw [show (skipF B0 5 (9 : Int).toNat) = (8, 3) from B0_skip] at this
  exact this
theorem fx_back (M : Mem) (hG : Gl M) (r c : Nat) (hr : RopeAt M r B0) (hM : M c = none) (w : World) (hi : Imm M w) (hc : w.heap[c]? = some (curC 8 r)) :
    Calls Tryd.prog 21 #[ptr c, .int .i64 (-2)] w fun e w' => e = .returned (.int .i64 2) ∧ Turned c (curC 6 r) w w' := by
  have := Skip_bwd M hG r B0 hr c 8 (by decide) B0_edge8 (-2) 2 (by decide) (by decide) hM w hi hc
  rw [B0_back] at this
  exact this

set_option maxHeartbeats 4000000 in
theorem fixed_any (M : Mem) (hG : Gl M) (w : World) (hi : Imm M w) :
    Calls Tryd.prog 14 #[] w fun e w' => e = .returned (.bool true) ∧ Below w.heap.size w w' := by
  have HG := Lib.hid hG; clear hG
  (have HS := St.start hi; go_enter Tryd.func14, Tryd.ntmps14)
  go_wp2_with (first | ((with_reducible refine' q_alloc ?_); refine' a_alloc HS ?_; clear HS; intro b_ w_ HS) | ((with_reducible refine' q_box ?_); refine' a_box HS ?_; clear HS; intro b_ w_ HS) | ((with_reducible refine' q_load ?_); refine' a_load HS ?_) | ((with_reducible refine' q_store ?_); refine' a_store HS ?_; clear HS; intro w_ HS) | ((with_reducible refine' st_conv_same (e := 5) ?hw Tryd.underlying28 Tryd.underlying5 HS ?hx ?hr ?_); (case hw => rfl); (case hx => rfl); (case hr => exact Rep1.head _); intro w_ HS_; clear HS; have HS := HS_; clear HS_) | ((with_reducible refine' st_build (cl := [.int .u8 97, .int .u8 240, .int .u8 159, .int .u8 152, .int .u8 128, .int .u8 13, .int .u8 10, .int .u8 130]) ?hw HS ?hl ?h0 ?hf ?_); (case hw => rfl); (case hl => rfl); (case h0 => rfl); (case hf => first | (go_simp; done) | rfl | (simp [Instr.fill]; done)); intro b_ w_ HS_; clear HS; have HS := HS_; clear HS_))
  have kb := (HS.base _ (.head _)).2
  obtain ⟨M9, hM9, HS1, h9⟩ : ∃ M9, M.le M9 ∧ St (fun k => w.heap.size ≤ k) w _ M9 [] ∧ M9 b_ = some (.cells (B0.map ub).toArray 5 (8, 9)) := ⟨_, Mem.le_add kb, HS.keep, Mem.add_same _ _ _⟩
  have hbs := BS.lit h9
  refine (New_any M9 (HG.out.mono hM9) _ _ _ B0 hbs rfl (by decide) _ HS1.imm).mono ?_
  rintro e w_ ⟨r, M1, rfl, hg1, hr⟩
  have HR := Lib.hid hr
  have HLE := Lib.hid (Mem.le_trans hM9 hg1.le)
  have HS_ := HS1.callM hg1.below hg1.fresh hg1.imm
  clear HS HS1 kb hbs hr hg1 h9 hM9
  have HS := HS_
  clear HS_
  have HGM := Lib.hid (HG.out.mono HLE.out)
  go_wp2_with (first | ((with_reducible refine' q_alloc ?_); refine' a_alloc HS ?_; clear HS; intro b_ w_ HS) | ((with_reducible refine' q_box ?_); refine' a_box HS ?_; clear HS; intro b_ w_ HS) | ((with_reducible refine' q_load ?_); refine' a_load HS ?_) | ((with_reducible refine' q_store ?_); refine' a_store HS ?_; clear HS; intro w_ HS) | (go_at_call 16; (with_reducible refine (fx_new M1 HGM.out r HR.out _ HS.imm).mono ?_); rintro e w_ ⟨c, rfl, hb1, hb2, hb3⟩; have HS_ := (HS.call hb1).newRow HS hb2 hb3; clear HS; have HS := HS_; clear HS_; have HC := Lib.hid (HS.base _ (.head _)).2) | (go_at_call 23; (with_reducible refine (fx_place M1 HGM.out r c HR.out HC.out _ HS.imm HS.at0).mono ?_); rintro e w_ ⟨rfl, hb_⟩; (have HS_ := HS.call hb_; clear HS hb_; have HS := HS_; clear HS_)) | (go_at_call 19; (with_reducible refine (fx_next M1 HGM.out r c HR.out HC.out _ HS.imm HS.at0).mono ?_); rintro e w_ ⟨rfl, ht⟩; have HS_ := HS.turn (.head _) ht; clear HS; have HS := HS_; clear HS_) | (go_at_call 21; (with_reducible refine (fx_skip M1 HGM.out r c HR.out HC.out _ HS.imm HS.at1).mono ?_); rintro e w_ ⟨rfl, ht⟩; have HS_ := HS.turn (.tail _ (.head _)) ht; clear HS; have HS := HS_; clear HS_) | (go_at_call 21; (with_reducible refine (fx_back M1 HGM.out r c HR.out HC.out _ HS.imm HS.at1).mono ?_); rintro e w_ ⟨rfl, ht⟩; have HS_ := HS.turn (.tail _ (.head _)) ht; clear HS; have HS := HS_; clear HS_))
  go_ret
  exact ⟨rfl, HS.below⟩
end Go.Proofs.YtbogoehjoglneaaDoor

/- The walk laws' made: a rope of pieces, and its bytes. -/
namespace Go.Proofs.YtbogoehjoglneaaDoor
open Go.RowKit
set_option linter.unusedVariables false
set_option linter.unusedSimpArgs false
set_option maxRecDepth 100000
attribute [local go_sem] byt_drop byt_tail Int.toNat_natCast sOf_size

/- One piece: a slice of bytes; of an empty one nothing is asked of its address. -/
def PB (M : Mem) (A : Option Addr) (c : Nat) (l : List UInt8) : Prop := l = [] ∨ BS M A c l
theorem PB.mono {M M' : Mem} {A : Option Addr} {c : Nat} {l : List UInt8} (h : PB M A c l) (hm : M.le M') : PB M' A c l := h.elim .inl fun h => .inr (h.mono hm)
theorem Src.pb {M : Mem} {L : List (Nat × Obj)} {A : Option Addr} {c m : Nat} {l : List UInt8} (h : PB M A c l) (hm : m = l.length) : Src M L A m 1 (l.map ub) := by
  rcases h with rfl | h
  · subst hm
    exact ⟨rfl, fun _ h => (by cases h), fun _ => rfl, fun _ _ _ _ _ _ _ h => by cases h⟩
  · exact Src.bs' h hm

/- Pieces: a slice of slices of bytes. -/
structure PsAt (M : Mem) (A : Option Addr) (n c : Nat) (vs : List Value) : Prop where
  sl : SL M 1 A n c vs
  each : ∀ (i : Nat) (v : Value), vs[i]? = some v → ∃ (B : Option Addr) (m d : Nat) (l : List UInt8), v = Value.slice B m d ∧ m = l.length ∧ PB M B d l
theorem PsAt.mono {M M' : Mem} {A : Option Addr} {n c : Nat} {vs : List Value} (h : PsAt M A n c vs) (hm : M.le M') : PsAt M' A n c vs :=
  ⟨h.sl.mono hm, fun i v e => by obtain ⟨B, m, d, l, h1, h2, h3⟩ := h.each i v e; exact ⟨B, m, d, l, h1, h2, h3.mono hm⟩⟩

set_option maxHeartbeats 4000000 in
theorem made_any' (M : Mem) (hG : Gl M) (A0 : Option Addr) (n0 c0 : Nat) (vs : List Value) (tt : Bool) (hp : PsAt M A0 n0 c0 vs) (hn : (n0 : Int) ≤ 9223372036854775807) (w : World) (hi : Imm M w) :
    Calls Tryd.prog 15 #[.agg #[.slice A0 n0 c0, .bool tt]] w fun e w' => ∃ r A c M' l, e = .returned (.tuple #[ptr r, .slice A (l.length : Nat) c]) ∧ Grew M M' w w' ∧ RopeAt M' r l ∧ BS M' A c l ∧ l.length ≤ 25000 := by
  have HG := Lib.hid hG
  have HPS := Lib.hid hp
  have hO := fun w hi => New_any M hG none 0 0 [] (BS.none _ _) rfl (by simp) w hi
  have HO := Lib.hid hO
  clear hG hp hO
  (have HS := St.start hi; go_enter Tryd.func15, Tryd.ntmps15)
  go_wp2_with (first | ((with_reducible refine' q_alloc ?_); refine' a_alloc HS ?_; clear HS; intro b_ w_ HS) | ((with_reducible refine' q_box ?_); refine' a_box2 HS ?_; clear HS; intro b_ w_ HS) | ((with_reducible refine' q_load ?_); refine' a_load HS ?_) | ((with_reducible refine' q_store ?_); refine' a_store HS ?_; clear HS; intro w_ HS) | (go_at_call 56; (with_reducible refine (HO.out _ HS.imm).mono ?_); rintro e w_ ⟨r, M1, rfl, hg1, hr⟩; have HR := Lib.hid hr; have hs_hg1 := HS.moved.size; have HS_ := HS.callM hg1.below hg1.fresh hg1.imm; clear HS; have HS := HS_; clear HS_))
  refine wp_loop_st (σ := Nat) (fun i a w1 => i ≤ n0 ∧ ∃ rr l A c M2, (∃ g0 g2 g3 g7 g8 g9 g10 g11 g12 g13 g14 g15 g19 g20 g21 g22 g23 g24 g25 g26 g27 g28 g29 g30 g31 g32 g33 g34 g35 g36 g37 g38 g39 g40 g41 g42 g43 g44 g45 g46 g47 g48 g49 g50 g51 g52 g53 g54 g55 g56 g57 g58 g59 g60 g61 g62 g63 g64 g65 g66 g67 g68 g69 : Value, a = { tmps := #[g0, ptr b_, g2, g3, ptr rr, .int .i64 0, .slice A (List.length (α := UInt8) l) c, g7, g8, g9, g10, g11, g12, g13, g14, g15, .slice A0 n0 c0, .int .i64 (n0 : Nat), .int .i64 (i : Nat), g19, g20, g21, g22, g23, g24, g25, g26, g27, g28, g29, g30, g31, g32, g33, g34, g35, g36, g37, g38, g39, g40, g41, g42, g43, g44, g45, g46, g47, g48, g49, g50, g51, g52, g53, g54, g55, g56, g57, g58, g59, g60, g61, g62, g63, g64, g65, g66, g67, g68, g69], defers := [] }) ∧ M.le M2 ∧ M.fresh M2 w.heap.size ∧ RopeAt M2 rr l ∧ BS M2 A c l ∧ l.length ≤ 25000 ∧
    St (fun k => w.heap.size ≤ k) w w1 M2 [(b_, .cells [.slice A0 n0 c0, .bool tt].toArray 24 (0, 0))]) (fun i => n0 - i) 0
    ⟨Nat.zero_le _, r, [], none, 0, M1, ⟨_, _, _, _, _, _, _, _, _, _, _, _, _, _, _, _, _, _, _, _, _, _, _, _, _, _, _, _, _, _, _, _, _, _, _, _, _, _, _, _, _, _, _, _, _, _, _, _, _, _, _, _, _, _, _, _, _, _, _, _, _, _, _, rfl⟩, hg1.le, hg1.fresh.less hs_hg1, hr, BS.none _ _, by simp, HS⟩ ?_
  clear HS hr HR hg1 hs_hg1
  rintro i a w1 ⟨hi2, rr, l, A, c, M2, ⟨g0, g2, g3, g7, g8, g9, g10, g11, g12, g13, g14, g15, g19, g20, g21, g22, g23, g24, g25, g26, g27, g28, g29, g30, g31, g32, g33, g34, g35, g36, g37, g38, g39, g40, g41, g42, g43, g44, g45, g46, g47, g48, g49, g50, g51, g52, g53, g54, g55, g56, g57, g58, g59, g60, g61, g62, g63, g64, g65, g66, g67, g68, g69, rfl⟩, hle, hfr, hr, hb, hl, HS⟩
  by_cases hlt : (i : Int) < n0
  · obtain ⟨v, hv⟩ : ∃ v, vs[i]? = some v := ⟨vs[i]'(by have := HPS.out.sl.len; omega), by simp⟩
    obtain ⟨B, m, d, p, rfl, rfl, hbp⟩ := HPS.out.each i v hv
    have hsl : SL M2 1 A0 n0 c0 vs := HPS.out.sl.mono hle
    have HBP := Lib.hid hbp; clear hbp
    have HB := Lib.hid hb
    have HLP := Lib.hid hle
    have HLB := Lib.hid (Mem.le_refl M2)
    have HFR := Lib.hid hfr
    have HR := Lib.hid hr
    by_cases h5 : (5000 : Int) < p.length
    · go_wp2_with (first | ((with_reducible refine' q_alloc ?_); refine' a_alloc HS ?_; clear HS; intro b_ w_ HS) | ((with_reducible refine' q_box ?_); refine' a_box HS ?_; clear HS; intro b_ w_ HS) | ((with_reducible refine' q_load ?_); refine' a_load HS ?_) | ((with_reducible refine' q_store ?_); refine' a_store HS ?_; clear HS; intro w_ HS) | (((with_reducible refine' st_idx_sl ?hw ?hx ?hb ?hi ?hj ?_); (case hw => rfl); (case hx => first | exact eval_lit rfl | rfl); (case hb => assumption); (case hi => first | exact eval_lit rfl | rfl); (case hj => first | omega | (simp; omega)); intro b_ o_ hc_); have hc1_ := hc_ 0 (.slice B p.length d) (by simpa using hv); rw [Nat.add_zero] at hc1_) | ((with_reducible refine' st_load_cellM ?hw HS ?hx ?hc ?_); (case hw => rfl); (case hx => first | exact eval_lit rfl | rfl); (case hc => assumption)))
      first
        | refine ⟨i + 1, ⟨by omega, rr, l, A, c, M2, ⟨_, _, _, _, _, _, _, _, _, _, _, _, _, _, _, _, _, _, _, _, _, _, _, _, _, _, _, _, _, _, _, _, _, _, _, _, _, _, _, _, _, _, _, _, _, _, _, _, _, _, _, _, _, _, _, _, _, _, _, _, _, _, _, rfl⟩, hle, hfr, hr, hb, hl, HS⟩, by omega⟩
        | refine ⟨i + 1, ⟨by omega, rr, l, A, c, ⟨rfl, ⟨rfl, rfl, rfl⟩, rfl⟩, M2, hle, hfr, hr, hb, hl, HS⟩, by omega⟩
    by_cases h20 : (20000 : Int) < l.length
    · go_wp2_with (first | ((with_reducible refine' q_alloc ?_); refine' a_alloc HS ?_; clear HS; intro b_ w_ HS) | ((with_reducible refine' q_box ?_); refine' a_box HS ?_; clear HS; intro b_ w_ HS) | ((with_reducible refine' q_load ?_); refine' a_load HS ?_) | ((with_reducible refine' q_store ?_); refine' a_store HS ?_; clear HS; intro w_ HS) | (((with_reducible refine' st_idx_sl ?hw ?hx ?hb ?hi ?hj ?_); (case hw => rfl); (case hx => first | exact eval_lit rfl | rfl); (case hb => assumption); (case hi => first | exact eval_lit rfl | rfl); (case hj => first | omega | (simp; omega)); intro b_ o_ hc_); have hc1_ := hc_ 0 (.slice B p.length d) (by simpa using hv); rw [Nat.add_zero] at hc1_) | ((with_reducible refine' st_load_cellM ?hw HS ?hx ?hc ?_); (case hw => rfl); (case hx => first | exact eval_lit rfl | rfl); (case hc => assumption)))
      first
        | refine ⟨i + 1, ⟨by omega, rr, l, A, c, M2, ⟨_, _, _, _, _, _, _, _, _, _, _, _, _, _, _, _, _, _, _, _, _, _, _, _, _, _, _, _, _, _, _, _, _, _, _, _, _, _, _, _, _, _, _, _, _, _, _, _, _, _, _, _, _, _, _, _, _, _, _, _, _, _, _, rfl⟩, hle, hfr, hr, hb, hl, HS⟩, by omega⟩
        | refine ⟨i + 1, ⟨by omega, rr, l, A, c, ⟨rfl, ⟨rfl, rfl, rfl⟩, rfl⟩, M2, hle, hfr, hr, hb, hl, HS⟩, by omega⟩
    clear hr hb hle hfr
    cases tt with
    | true =>
      go_wp2_with (first | ((with_reducible refine' q_alloc ?_); refine' a_alloc HS ?_; clear HS; intro b_ w_ HS) | ((with_reducible refine' q_box ?_); refine' a_box HS ?_; clear HS; intro b_ w_ HS) | ((with_reducible refine' q_load ?_); refine' a_load HS ?_) | ((with_reducible refine' q_store ?_); refine' a_store HS ?_; clear HS; intro w_ HS) | (((with_reducible refine' st_idx_sl ?hw ?hx ?hb ?hi ?hj ?_); (case hw => rfl); (case hx => first | exact eval_lit rfl | rfl); (case hb => assumption); (case hi => first | exact eval_lit rfl | rfl); (case hj => first | omega | (simp; omega)); intro b_ o_ hc_); have hc1_ := hc_ 0 (.slice B p.length d) (by simpa using hv); rw [Nat.add_zero] at hc1_) | ((with_reducible refine' st_load_cellM ?hw HS ?hx ?hc ?_); (case hw => rfl); (case hx => first | exact eval_lit rfl | rfl); (case hc => assumption)) | ((with_reducible refine' st_build0F (F := fun y => _ :: y) ?hF ?hw HS ?_); (case hF => repeat (first | exact Pre.nil | apply Pre.cons)); (case hw => rfl); intro v_ Lx_ w_ HRow HS_; clear HS; have HS := HS_; clear HS_) | ((with_reducible refine' st_append (F := fun y => _ :: y) HRow HS ?hF ?hw ?h1 ?h2 ?hs ?hm ?_); (case hF => repeat (first | exact Pre.nil | apply Pre.cons)); (case hw => rfl); (case h1 => first | exact eval_lit rfl | rfl); (case h2 => first | exact eval_lit rfl | rfl); (case hs => (first | exact Src.pb (HBP.out.mono HLP.out) rfl | exact Src.bs' (HB.out.mono HLB.out) rfl)); (case hm => omega); intro v_ Lx_ w_ HR_ HS_; clear HRow; have HRow := HR_; clear HR_; clear HS; have HS := HS_; clear HS_) | (go_at_call 56; obtain ⟨A9, c9, M9, rfl, hle9, hfr9, HS9, hsl9⟩ := HS.keepRow (F := fun y => _ :: y) (.cons .nil) HRow (by simpa using ub_one p) (fun _ h _ => h); have hbs9 : BS M9 A9 c9 p := BS.of_sl (by simpa using hsl9); (with_reducible refine (New_any M9 (HG.out.mono (Mem.le_trans HLP.out hle9)) A9 c9 (0 + p.length) p hbs9 (by simp) (by omega) _ HS9.imm).mono ?_); rintro e w_ ⟨x, M3, rfl, hg3, hx⟩; have HX := Lib.hid hx; have hs3 := HS9.moved.size; have HS_ := HS9.callM hg3.below hg3.fresh hg3.imm; clear HS HS9 hbs9 hx; have HS := HS_; clear HS_; have HLP_ := Lib.hid (Mem.le_trans HLP.out (Mem.le_trans hle9 hg3.le)); have HLB_ := Lib.hid (Mem.le_trans HLB.out (Mem.le_trans hle9 hg3.le)); have HFR_ := Lib.hid (Mem.fresh_trans HFR.out (Mem.fresh_trans hfr9 (hg3.fresh.less hs3) (Nat.le_refl _)) (Nat.le_refl _)); clear HLP HLB HFR hle9 hfr9 hg3 hs3 hsl9; have HLP := HLP_; have HLB := HLB_; have HFR := HFR_; clear HLP_ HLB_ HFR_) | (go_at_call 57; (with_reducible refine (RJoin_any M3 (HG.out.mono HLP.out) x rr p l HX.out (HR.out.mono HLB.out) (by omega) _ HS.imm).mono ?_); rintro e w_ ⟨r4, M4, rfl, hg4, hr4⟩; have HR4 := Lib.hid hr4; have hs4 := HS.moved.size; have HS_ := HS.callM hg4.below hg4.fresh hg4.imm; clear HS hr4; have HS := HS_; clear HS_; have HLP_ := Lib.hid (Mem.le_trans HLP.out hg4.le); have HLB_ := Lib.hid (Mem.le_trans HLB.out hg4.le); have HFR_ := Lib.hid (Mem.fresh_trans HFR.out (hg4.fresh.less hs4) (Nat.le_refl _)); clear HLP HLB HFR hg4 hs4; have HLP := HLP_; have HLB := HLB_; have HFR := HFR_; clear HLP_ HLB_ HFR_))
      rw [show 0 + p.length + l.length = (p ++ l).length from by simp, show [] ++ List.map ub p ++ List.map ub l = List.map ub (p ++ l) from by simp] at HRow
      obtain ⟨A5, c5, M5, rfl, hle5, hfr5, HS5, hsl5⟩ := HS.keepRow (F := fun y => _ :: y) (.cons .nil) HRow (ub_one _) (fun _ h _ => h)
      refine ⟨i + 1, ⟨by omega, r4, p ++ l, A5, c5, M5, ⟨_, _, _, _, _, _, _, _, _, _, _, _, _, _, _, _, _, _, _, _, _, _, _, _, _, _, _, _, _, _, _, _, _, _, _, _, _, _, _, _, _, _, _, _, _, _, _, _, _, _, _, _, _, _, _, _, _, _, _, _, _, _, _, rfl⟩, Mem.le_trans HLP.out hle5, Mem.fresh_trans HFR.out hfr5 (Nat.le_refl _), HR4.out.mono hle5, BS.of_sl hsl5, by rw [List.length_append]; omega, HS5⟩, by omega⟩
    | false =>
      go_wp2_with (first | ((with_reducible refine' q_alloc ?_); refine' a_alloc HS ?_; clear HS; intro b_ w_ HS) | ((with_reducible refine' q_box ?_); refine' a_box HS ?_; clear HS; intro b_ w_ HS) | ((with_reducible refine' q_load ?_); refine' a_load HS ?_) | ((with_reducible refine' q_store ?_); refine' a_store HS ?_; clear HS; intro w_ HS) | (((with_reducible refine' st_idx_sl ?hw ?hx ?hb ?hi ?hj ?_); (case hw => rfl); (case hx => first | exact eval_lit rfl | rfl); (case hb => assumption); (case hi => first | exact eval_lit rfl | rfl); (case hj => first | omega | (simp; omega)); intro b_ o_ hc_); have hc1_ := hc_ 0 (.slice B p.length d) (by simpa using hv); rw [Nat.add_zero] at hc1_) | ((with_reducible refine' st_load_cellM ?hw HS ?hx ?hc ?_); (case hw => rfl); (case hx => first | exact eval_lit rfl | rfl); (case hc => assumption)) | ((with_reducible refine' st_build0F (F := fun y => _ :: y) ?hF ?hw HS ?_); (case hF => repeat (first | exact Pre.nil | apply Pre.cons)); (case hw => rfl); intro v_ Lx_ w_ HRow HS_; clear HS; have HS := HS_; clear HS_) | ((with_reducible refine' st_append (F := fun y => _ :: y) HRow HS ?hF ?hw ?h1 ?h2 ?hs ?hm ?_); (case hF => repeat (first | exact Pre.nil | apply Pre.cons)); (case hw => rfl); (case h1 => first | exact eval_lit rfl | rfl); (case h2 => first | exact eval_lit rfl | rfl); (case hs => (first | exact Src.pb (HBP.out.mono HLP.out) rfl | exact Src.bs' (HB.out.mono HLB.out) rfl)); (case hm => omega); intro v_ Lx_ w_ HR_ HS_; clear HRow; have HRow := HR_; clear HR_; clear HS; have HS := HS_; clear HS_) | (go_at_call 56; obtain ⟨A9, c9, M9, rfl, hle9, hfr9, HS9, hsl9⟩ := HS.keepRow (F := fun y => _ :: y) (.cons .nil) HRow (by simpa using ub_one p) (fun _ h _ => h); have hbs9 : BS M9 A9 c9 p := BS.of_sl (by simpa using hsl9); (with_reducible refine (New_any M9 (HG.out.mono (Mem.le_trans HLP.out hle9)) A9 c9 (0 + p.length) p hbs9 (by simp) (by omega) _ HS9.imm).mono ?_); rintro e w_ ⟨x, M3, rfl, hg3, hx⟩; have HX := Lib.hid hx; have hs3 := HS9.moved.size; have HS_ := HS9.callM hg3.below hg3.fresh hg3.imm; clear HS HS9 hbs9 hx; have HS := HS_; clear HS_; have HLP_ := Lib.hid (Mem.le_trans HLP.out (Mem.le_trans hle9 hg3.le)); have HLB_ := Lib.hid (Mem.le_trans HLB.out (Mem.le_trans hle9 hg3.le)); have HFR_ := Lib.hid (Mem.fresh_trans HFR.out (Mem.fresh_trans hfr9 (hg3.fresh.less hs3) (Nat.le_refl _)) (Nat.le_refl _)); clear HLP HLB HFR hle9 hfr9 hg3 hs3 hsl9; have HLP := HLP_; have HLB := HLB_; have HFR := HFR_; clear HLP_ HLB_ HFR_) | (go_at_call 57; (with_reducible refine (RJoin_any M3 (HG.out.mono HLP.out) rr x l p (HR.out.mono HLB.out) HX.out (by omega) _ HS.imm).mono ?_); rintro e w_ ⟨r4, M4, rfl, hg4, hr4⟩; have HR4 := Lib.hid hr4; have hs4 := HS.moved.size; have HS_ := HS.callM hg4.below hg4.fresh hg4.imm; clear HS hr4; have HS := HS_; clear HS_; have HLP_ := Lib.hid (Mem.le_trans HLP.out hg4.le); have HLB_ := Lib.hid (Mem.le_trans HLB.out hg4.le); have HFR_ := Lib.hid (Mem.fresh_trans HFR.out (hg4.fresh.less hs4) (Nat.le_refl _)); clear HLP HLB HFR hg4 hs4; have HLP := HLP_; have HLB := HLB_; have HFR := HFR_; clear HLP_ HLB_ HFR_))
      rw [show 0 + l.length + p.length = (l ++ p).length from by simp, show [] ++ List.map ub l ++ List.map ub p = List.map ub (l ++ p) from by simp] at HRow
      obtain ⟨A5, c5, M5, rfl, hle5, hfr5, HS5, hsl5⟩ := HS.keepRow (F := fun y => _ :: y) (.cons .nil) HRow (ub_one _) (fun _ h _ => h)
      refine ⟨i + 1, ⟨by omega, r4, l ++ p, A5, c5, M5, ⟨_, _, _, _, _, _, _, _, _, _, _, _, _, _, _, _, _, _, _, _, _, _, _, _, _, _, _, _, _, _, _, _, _, _, _, _, _, _, _, _, _, _, _, _, _, _, _, _, _, _, _, _, _, _, _, _, _, _, _, _, _, _, _, rfl⟩, Mem.le_trans HLP.out hle5, Mem.fresh_trans HFR.out hfr5 (Nat.le_refl _), HR4.out.mono hle5, BS.of_sl hsl5, by rw [List.length_append]; omega, HS5⟩, by omega⟩
  · go_wp2_with (first | ((with_reducible refine' q_alloc ?_); refine' a_alloc HS ?_; clear HS; intro b_ w_ HS) | ((with_reducible refine' q_box ?_); refine' a_box HS ?_; clear HS; intro b_ w_ HS) | ((with_reducible refine' q_load ?_); refine' a_load HS ?_) | ((with_reducible refine' q_store ?_); refine' a_store HS ?_; clear HS; intro w_ HS))
    go_ret2
    exact ⟨rr, A, c, M2, l, rfl, ⟨HS.below, hle, hfr, HS.imm⟩, hr, hb, hl⟩
end Go.Proofs.YtbogoehjoglneaaDoor

/- walk.Steps: an iterator over a rope's steps. -/
namespace Go.Proofs.YtbogoehjoglneaaDoor
open Go.RowKit
set_option linter.unusedVariables false
set_option linter.unusedSimpArgs false
set_option maxRecDepth 100000
attribute [local go_sem] byt_drop byt_tail Int.toNat_natCast sOf_size

/- The steps from the floor of a place on. -/
def stepsF (l : List UInt8) (p : Nat) : List (Nat × Stp) := steps (l.drop (floorN l p)) (floorN l p)
theorem stepsF_edge {l : List UInt8} {p : Nat} (h : inside l p = 0) : stepsF l p = steps (l.drop p) p := by unfold stepsF; rw [floor_self h]
theorem stepsF_end (l : List UInt8) : stepsF l l.length = [] := by
  rw [stepsF_edge (inside_len l (Nat.le_refl _)), List.drop_length, steps_nil]
theorem stepsF_cons {l : List UInt8} {p : Nat} (h : p < l.length) : stepsF l p = (floorN l p, stp (l.drop (floorN l p))) :: stepsF l (floorN l p + (stp (l.drop (floorN l p))).w) := by
  have hne : l.drop (floorN l p) ≠ [] := by
    intro e
    have h1 := congrArg List.length e
    rw [List.length_drop, List.length_nil] at h1
    have := floor_le l p
    omega
  rw [stepsF_edge (edge_next (floor_edge l p))]
  unfold stepsF
  rw [steps_cons hne, List.drop_drop]

set_option maxHeartbeats 2000000 in
theorem Steps1_seq (M : Mem) (hG : Gl M) (r : Nat) (l : List UInt8) (hr : RopeAt M r l) (b1 b2 : Nat) (p0 : Nat) (hp0 : p0 ≤ l.length)
    (h1 : M b1 = some (.cells [.int .i64 p0].toArray 3 (0, 0))) (h2 : M b2 = some (.cells [ptr r].toArray 27 (0, 0))) :
    SeqC Tryd.prog M 64 #[ptr b1, ptr b2] (stepsF l p0) stepV := by
  intro l0 J Jx W hi hJ hJx h0 hY
  clear hJx
  refine (callsIn_wide (n := 0)).2 ?_
  have HG := Lib.hid hG; clear hG
  have HR := Lib.hid hr
  have hm := hr.small
  have HY := Lib.hid hY; clear hY
  have HJ := Lib.hid hJ; clear hJ
  clear hr
  have HS := St.start' hi
  go_enter Tryd.func64, Tryd.ntmps64
  go_wp2_with (first | ((with_reducible refine' q_alloc ?_); refine' a_alloc HS ?_; clear HS; intro b_ w_ HS) | ((with_reducible refine' q_box ?_); refine' a_box HS ?_; clear HS; intro b_ w_ HS) | ((with_reducible refine' q_load ?_); refine' a_load HS ?_) | ((with_reducible refine' q_store ?_); refine' a_store HS ?_; clear HS; intro w_ HS))
  refine wp_loop_st (σ := Nat) (fun p a w => p ≤ l.length ∧ (∃ g3 g5 g6 g7 g8 g9 g10 g11 g12 g13 g14 g15 g16 g17 g18 g19 g20 g21 g22 g23 g24 g25 g26 g27 g28 : Value, a = { tmps := #[.func (.yield l0) #[] #[], ptr b1, ptr b2, g3, .int .i64 (p : Nat), g5, g6, g7, g8, g9, g10, g11, g12, g13, g14, g15, g16, g17, g18, g19, g20, g21, g22, g23, g24, g25, g26, g27, g28], defers := [] }) ∧
    ∃ pre O0 W0, stepsF l p0 = pre ++ stepsF l p ∧ J pre O0 W0 ∧ St (fun k => O0 k ∨ W0.heap.size ≤ k) W0 w M []) (fun p => l.length - p) p0
    ⟨hp0, ⟨_, _, _, _, _, _, _, _, _, _, _, _, _, _, _, _, _, _, _, _, _, _, _, _, _, rfl⟩, [], _, _, rfl, h0, HS⟩ ?_
  clear HS h0 hi
  rintro p a w ⟨hp, ⟨g3, g5, g6, g7, g8, g9, g10, g11, g12, g13, g14, g15, g16, g17, g18, g19, g20, g21, g22, g23, g24, g25, g26, g27, g28, rfl⟩, pre, O0, W0, hpre, hJ, HS⟩
  by_cases hlt : p < l.length
  · have hq := floor_le l p
    have hfs := floor_step l p hlt
    have hc := stepsF_cons hlt
    have hS := fun w hi => SStep_in M HG.out r l HR.out p hlt w hi
    have hne : l.drop (floorN l p) ≠ [] := fun e => by have := congrArg List.length e; simp at this; omega
    have hwl := stp_len hne
    rw [List.length_drop] at hwl
    have hw4 := stp_w (l.drop (floorN l p))
    obtain ⟨q, hqe⟩ : ∃ q, q = floorN l p := ⟨_, rfl⟩
    rw [← hqe] at hq hfs hc hS hwl hw4
    obtain ⟨s, hs⟩ : ∃ s, s = stp (l.drop q) := ⟨_, rfl⟩
    rw [← hs] at hfs hc hS hwl hw4
    have HSt := Lib.hid hS; clear hS hqe hs hne
    have hp1 : (pre ++ [(q, s)]) <+: stepsF l p0 := ⟨_, by rw [hpre, hc, List.append_assoc]; rfl⟩
    have HC := Lib.hid hc; clear hc
    have HP := Lib.hid hpre; clear hpre
    have HW := Lib.hid hwl; clear hwl
    have HF := Lib.hid hfs; clear hfs
    have hq3 : (q : Int) ≤ 268435456 := by omega
    have hs3 : (s.w : Int) ≤ 4 := by omega
    repeat' (first | ((with_reducible refine' wp_region_yield (id := 2) 6 ?hd ?hno ?_); (case hd => rfl); (case hno => (rintro ⟨_, _, h⟩; first | exact (h : False) | exact (h : (∃ v, Ending.outgrown = Ending.returned v) ∧ _).1.elim (fun v hv => nomatch hv) | exact (h : Ending.outgrown = Ending.returned _ ∧ _).1.elim | exact (h : (Ending.outgrown = Ending.returned _ ∧ _) ∨ (Ending.outgrown = Ending.returned _ ∧ _)).elim (fun h => nomatch h.1) (fun h => nomatch h.1))); intro K_ hK_; simp only [List.take_succ_cons, List.take_zero, List.drop_succ_cons, List.drop_zero] at hK_ ⊢) | ((with_reducible refine' q_alloc ?_); refine' a_alloc HS ?_; clear HS; intro b_ w_ HS) | ((with_reducible refine' q_box ?_); refine' a_box HS ?_; clear HS; intro b_ w_ HS) | ((with_reducible refine' q_load ?_); refine' a_load HS ?_) | ((with_reducible refine' q_store ?_); refine' a_store HS ?_; clear HS; intro w_ HS) | (go_at_call 40; (with_reducible refine (HSt.out _ HS.imm).mono ?_); rintro e w_ ⟨rfl, hb_⟩; have HS_ := HS.call hb_; clear HS hb_; have HS := HS_; clear HS_) | go_values | go_skip | go_guarded | go_step | go_upon | go_back | (simp only [Int.not_lt, Int.not_le] at *; go_simp) | (go_values <;> (try go_simp)) | (go_ite <;> go_prune <;> (try go_simp)) | (split <;> (first | (rename_i hx; exact (hx _ rfl).elim) | go_prune)))
    ((with_reducible refine' st_yield ?hw ?hx ?hargs ?hd ?hno ?hy ?_); (case hw => first | rfl | (go_simp; done)); (case hx => first | exact eval_lit rfl | rfl); (case hy => exact HY.out pre (q, s) _ _ O0 _ W0 _ hp1 hJ HS.movesO HS.grown ⟨rfl, rfl⟩ (Fresh.nil _ _ _)); (case hargs => first | (go_simp; done) | rfl); (case hd => rfl); (case hno => (rintro ⟨_, _, h⟩; first | exact (h : False) | exact (h : (∃ v, Ending.outgrown = Ending.returned v) ∧ _).1.elim (fun v hv => nomatch hv) | exact (h : Ending.outgrown = Ending.returned _ ∧ _).1.elim | exact (h : (Ending.outgrown = Ending.returned _ ∧ _) ∨ (Ending.outgrown = Ending.returned _ ∧ _)).elim (fun h => nomatch h.1) (fun h => nomatch h.1))))
    rintro e W' (⟨rfl, hJ', hK⟩ | ⟨rfl, hJx⟩)
    · have HS_ := HS.again (fun p hp => List.mem_map.2 ⟨p, hp, rfl⟩) hK (HJ.out _ _ _ hJ')
      clear HS; have HS := HS_; clear HS_
      refine ⟨_, rfl, ?_⟩
      go_wp2_with (first | ((with_reducible refine' q_alloc ?_); refine' a_alloc HS ?_; clear HS; intro b_ w_ HS) | ((with_reducible refine' q_box ?_); refine' a_box HS ?_; clear HS; intro b_ w_ HS) | ((with_reducible refine' q_load ?_); refine' a_load HS ?_) | ((with_reducible refine' q_store ?_); refine' a_store HS ?_; clear HS; intro w_ HS))
      refine ⟨q + s.w, ⟨?_, ⟨_, _, _, _, _, _, _, _, _, _, _, _, _, _, _, _, _, _, _, _, _, _, _, _, _, rfl⟩, pre ++ [(q, s)], _, _, ?_, hJ', HS.drop⟩, ?_⟩
      · have := HW.out; omega
      · rw [HP.out, HC.out, List.append_assoc]; rfl
      · have := HF.out; have := HW.out; omega
    · refine ⟨_, rfl, ?_⟩
      go_wp2_with fail
      refine bodyPost_ret (results_none rfl _ _ _) rfl ?_
      exact ⟨⟨_, rfl⟩, _, _, Moves.refl _ _, .inr ⟨_, hp1, hJx⟩⟩
  · obtain rfl : p = l.length := by omega
    have HSt := Lib.hid (fun w hi => SStep_out M r l HR.out l.length (.inr (Int.le_refl _)) w hi)
    rw [stepsF_end, List.append_nil] at hpre
    go_wp2_with (first | ((with_reducible refine' q_alloc ?_); refine' a_alloc HS ?_; clear HS; intro b_ w_ HS) | ((with_reducible refine' q_box ?_); refine' a_box HS ?_; clear HS; intro b_ w_ HS) | ((with_reducible refine' q_load ?_); refine' a_load HS ?_) | ((with_reducible refine' q_store ?_); refine' a_store HS ?_; clear HS; intro w_ HS) | (go_at_call 40; (with_reducible refine (HSt.out _ HS.imm).mono ?_); rintro e w_ ⟨rfl, hb_⟩; have HS_ := HS.call hb_; clear HS hb_; have HS := HS_; clear HS_))
    refine bodyPost_ret (results_none rfl _ _ _) rfl ?_
    exact ⟨⟨_, rfl⟩, _, _, HS.movesO, .inl (hpre ▸ hJ)⟩

theorem Steps_any (M : Mem) (r : Nat) (x : Int) (w : World) (hi : Imm M w) :
    Calls Tryd.prog 25 #[ptr r, .int .i64 x] w fun e w' => ∃ b1 b2 M', e = .returned (.func (.func 64) #[] #[ptr b1, ptr b2]) ∧ Grew M M' w w' ∧
      M' b1 = some (.cells [.int .i64 x].toArray 3 (0, 0)) ∧ M' b2 = some (.cells [ptr r].toArray 27 (0, 0)) := by
  (have HS := St.start hi; go_enter Tryd.func25, Tryd.ntmps25)
  go_wp2_with (first | ((with_reducible refine' q_alloc ?_); refine' a_alloc HS ?_; clear HS; intro b_ w_ HS) | ((with_reducible refine' q_box ?_); refine' a_box HS ?_; clear HS; intro b_ w_ HS) | ((with_reducible refine' q_load ?_); refine' a_load HS ?_) | ((with_reducible refine' q_store ?_); refine' a_store HS ?_; clear HS; intro w_ HS))
  have k1 := HS.base _ (.head _)
  have HS1 := HS.keep
  have k2 := HS1.base _ (.head _)
  have HS2 := HS1.keep
  go_ret
  refine ⟨_, _, _, rfl, ⟨HS2.below, Mem.le_trans (Mem.le_add k1.2) (Mem.le_add k2.2), Mem.fresh_trans (Mem.fresh_add k1.1) (Mem.fresh_add k2.1) (Nat.le_refl _), HS2.imm⟩, Mem.le_add k2.2 _ _ (Mem.add_same _ _ _), Mem.add_same _ _ _⟩
end Go.Proofs.YtbogoehjoglneaaDoor

/- The walk laws' gone: what an iterator of steps gives. -/
namespace Go.Proofs.YtbogoehjoglneaaDoor
open Go.RowKit
set_option linter.unusedVariables false
set_option linter.unusedSimpArgs false
set_option maxRecDepth 100000
attribute [local go_sem] byt_drop byt_tail Int.toNat_natCast sOf_size

def atC (x : Nat × Stp) : List Value := [.int .i64 x.1, .int .i32 x.2.r, .int .i64 x.2.w, .bool x.2.ok]
theorem atC_len (x : Nat × Stp) : (atC x).length = 4 := rfl
theorem atC_one (xs : List (Nat × Stp)) : ∀ u ∈ xs.flatMap atC, u.oneCell' = true := fun u hu => by
  obtain ⟨x, _, hx⟩ := List.mem_flatMap.1 hu
  simp only [atC, List.mem_cons, List.not_mem_nil, or_false] at hx
  rcases hx with rfl | rfl | rfl | rfl <;> rfl

def GoneF (bo : Nat) (pre : List (Nat × Stp)) (L : List (Nat × Obj)) : Prop :=
  ∃ v Lx, L = (bo, .cells [v].toArray 37 (0, 0)) :: Lx ∧ Row 47 4 v pre.length (pre.flatMap atC) Lx

set_option maxHeartbeats 2000000 in
theorem gone_any (M : Mem) (g : Nat) (lb : Array Value) (xs : List (Nat × Stp)) (hseq : SeqC Tryd.prog M g lb xs stepV) (hg : ∀ args w, (callFunc g args).run Tryd.prog w = .ok (.enter g args) w) (hx : (xs.length : Int) ≤ 268435456) (w : World) (hi : Imm M w) :
    Calls Tryd.prog 26 #[.func (.func g) #[] lb] w fun e w' => ∃ A c M', e = .returned (.slice A xs.length c) ∧ Grew M M' w w' ∧ SL M' 4 A xs.length c (xs.flatMap atC) := by
  have HSEQ := Lib.hid hseq; clear hseq
  have HG := Lib.hid hg; clear hg
  (have HS := St.start hi; refine calls_of_marks Tryd.func26 rfl ?_; simp only [Tryd.ntmps26, List.size_toArray, List.length_cons, List.length_nil, Nat.reduceAdd, Nat.reduceSub, Array.replicate_succ, Array.replicate_zero, List.push_toArray, List.append_toArray, List.nil_append, List.cons_append])
  go_wp2_with (first | ((with_reducible refine' q_alloc ?_); refine' a_alloc HS ?_; clear HS; intro b_ w_ HS) | ((with_reducible refine' q_box ?_); refine' a_box HS ?_; clear HS; intro b_ w_ HS) | ((with_reducible refine' q_load ?_); refine' a_load HS ?_) | ((with_reducible refine' q_store ?_); refine' a_store HS ?_; clear HS; intro w_ HS))
  refine' wp_rangeC HS rfl HG.out HSEQ.out ?hps (GoneF b_) (fun _ _ _ => False) ?h0 ?hround ?hdone ?hstop
  case h0 => exact ⟨_, [], rfl, Row.nil _ _⟩
  case hps => rintro _ _ _ _ ⟨rfl, rfl⟩; rfl
  case hstop => intro _ _ _ _ _ _ _ h; exact h.elim
  case hround =>
    clear HS
    intro lp D o1 o2 pre x vs Fr L' M1 W K hpre hΦ hV hle1 HS hK
    obtain ⟨rfl, rfl⟩ := hV
    obtain ⟨v, Lx, rfl, HRow⟩ := hΦ
    have hlen := hpre.length_le
    rw [List.length_append, List.length_singleton] at hlen
    rw [List.nil_append] at HS
    simp only [List.zip_toArray, List.foldl_toArray, List.zip_cons_cons, List.zip_nil_right, List.foldl_cons, List.foldl_nil, List.setIfInBounds_toArray, List.set_cons_succ, List.set_cons_zero, List.size_toArray, List.length_cons, List.length_nil, List.foldl_toArray']
    repeat' (first | ((with_reducible refine' q_alloc ?_); refine' a_alloc HS ?_; clear HS; intro b_ w_ HS) | ((with_reducible refine' q_box ?_); refine' a_box HS ?_; clear HS; intro b_ w_ HS) | ((with_reducible refine' q_load ?_); refine' a_load HS ?_) | ((with_reducible refine' q_store ?_); refine' a_store HS ?_; clear HS; intro w_ HS) | ((with_reducible refine' wpIn_region_plain ?hd ?hno ?_); (case hd => rfl); (case hno => (rintro ⟨_, _, h⟩; first | exact (h : False) | exact (h : (∃ v, Ending.outgrown = Ending.returned v) ∧ _).1.elim (fun v hv => nomatch hv) | exact (h : Ending.outgrown = Ending.returned _ ∧ _).1.elim | exact (h : (Ending.outgrown = Ending.returned _ ∧ _) ∨ (Ending.outgrown = Ending.returned _ ∧ _)).elim (fun h => nomatch h.1) (fun h => nomatch h.1)))) | go_values | go_skip | go_guarded | go_step | go_upon | gi_step | (simp only [Int.not_lt, Int.not_le] at *; go_simp) | (go_values <;> (try go_simp)) | (go_ite <;> go_prune <;> (try go_simp)) | (split <;> (first | (rename_i hx; exact (hx _ rfl).elim) | go_prune)))
    refine hK _ _ _ _ (Mem.le_refl _) HS.sink ?_
    clear hK HS
    intro o3 W2 HS
    repeat' (first | ((with_reducible refine' q_alloc ?_); refine' a_alloc HS ?_; clear HS; intro b_ w_ HS) | ((with_reducible refine' q_box ?_); refine' a_box2 HS ?_; clear HS; intro b_ w_ HS) | ((with_reducible refine' q_load ?_); refine' a_load HS ?_) | ((with_reducible refine' q_store ?_); refine' a_store2 HS ?_; clear HS; intro w_ HS) | ((with_reducible refine' st_build (cl := [.int .i64 x.1, .int .i32 x.2.r, .int .i64 x.2.w, .bool x.2.ok]) ?hw HS ?hl ?h0 ?hf ?_); (case hw => rfl); (case hl => rfl); (case h0 => rfl); (case hf => first | (go_simp; done) | rfl | (simp [Instr.fill]; done)); intro b_ w_ HS_; clear HS; have HS := HS_; clear HS_) | (((with_reducible refine' st_append (F := fun y => _ :: _ :: _ :: _ :: _ :: y) HRow HS ?hF ?hw ?h1 ?h2 ?hs ?hm ?_); (case hF => repeat (first | exact Pre.nil | apply Pre.cons)); (case hw => rfl); (case h1 => first | exact eval_lit rfl | rfl); (case h2 => first | exact eval_lit rfl | rfl); (case hs => (exact Src.own (by repeat (first | (with_reducible exact List.mem_cons_self) | apply List.mem_cons_of_mem)) rfl rfl)); (case hm => omega); intro v_ Lx_ w_ HR_ HS_; clear HRow; have HRow := HR_; clear HR_; clear HS; have HS := HS_; clear HS_); obtain ⟨Ar_, cr_, rfl⟩ := HRow.shape) | ((with_reducible refine' wpIn_region_plain ?hd ?hno ?_); (case hd => rfl); (case hno => (rintro ⟨_, _, h⟩; first | exact (h : False) | exact (h : (∃ v, Ending.outgrown = Ending.returned v) ∧ _).1.elim (fun v hv => nomatch hv) | exact (h : Ending.outgrown = Ending.returned _ ∧ _).1.elim | exact (h : (Ending.outgrown = Ending.returned _ ∧ _) ∨ (Ending.outgrown = Ending.returned _ ∧ _)).elim (fun h => nomatch h.1) (fun h => nomatch h.1)))) | go_values | go_skip | go_guarded | go_step | go_upon | gi_step | (simp only [Int.not_lt, Int.not_le] at *; go_simp) | (go_values <;> (try go_simp)) | (go_ite <;> go_prune <;> (try go_simp)) | (split <;> (first | (rename_i hx; exact (hx _ rfl).elim) | go_prune)))
    refine ⟨M1, _, Mem.le_refl _, HS.drop.drop3, _, Lx_, rfl, ?_⟩
    rw [List.length_append, List.flatMap_append]
    exact HRow
  case hdone =>
    clear HS
    rintro D W L' HS ⟨v, Lx, rfl, HRow⟩
    obtain ⟨Ar_, cr_, rfl⟩ := HRow.shape
    go_wp2_with (first | ((with_reducible refine' q_alloc ?_); refine' a_alloc HS ?_; clear HS; intro b_ w_ HS) | ((with_reducible refine' q_box ?_); refine' a_box HS ?_; clear HS; intro b_ w_ HS) | ((with_reducible refine' q_load ?_); refine' a_load HS ?_) | ((with_reducible refine' q_store ?_); refine' a_store HS ?_; clear HS; intro w_ HS))
    ((refine' leaves_mark HS rfl ?hm ?_); (case hm => repeat (first | exact Rep1.head _ | apply Rep1.tail)); intro w_ HS_; clear HS; have HS := HS_; clear HS_)
    refine leaves_plain ?_
    obtain ⟨A', c', M3, e3, hle3, hfr3, HS3, hsl⟩ := HS.keepRow (F := fun y => _ :: _ :: y) (.cons (.cons .nil)) HRow (atC_one _) (fun _ h _ => h)
    cases e3
    go_ret
    exact ⟨_, _, M3, rfl, ⟨HS3.below, hle3, hfr3, HS3.imm⟩, hsl⟩
end Go.Proofs.YtbogoehjoglneaaDoor
