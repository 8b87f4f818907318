/- rope.pair, level, join: two nodes, one behind the other. -/
import Derived.Test.YtbogoehjoglneaaDoorM5
set_option linter.unusedVariables false
set_option linter.unusedSimpArgs false
set_option linter.unnecessarySimpa false
set_option linter.unusedSectionVars false
namespace Go.Proofs.YtbogoehjoglneaaDoor
open Go.RowKit
set_option linter.unusedVariables false
set_option linter.unusedSimpArgs false
set_option maxRecDepth 100000
attribute [local go_sem] byt_drop byt_tail Int.toNat_natCast sOf_size sOf_append

theorem asFork (v : Value) (w : World) : (Instr.typeAssert (.iface 184 v) 148 184 false).run Tryd.prog w = .ok v w := by kernel_rfl
theorem asForkYes (v : Value) (w : World) : (Instr.typeAssert (.iface 184 v) 148 184 true).run Tryd.prog w = .ok (.tuple #[v, .bool true]) w := by kernel_rfl
theorem asForkNo (v : Value) (w : World) : (Instr.typeAssert (.iface 182 v) 148 184 true).run Tryd.prog w = .ok (.tuple #[.pointer none, .bool false]) w := by kernel_rfl
theorem asTip (v : Value) (w : World) : (Instr.typeAssert (.iface 182 v) 148 182 false).run Tryd.prog w = .ok v w := by kernel_rfl
theorem asTipYes (v : Value) (w : World) : (Instr.typeAssert (.iface 182 v) 148 182 true).run Tryd.prog w = .ok (.tuple #[v, .bool true]) w := by kernel_rfl
theorem asTipNo (v : Value) (w : World) : (Instr.typeAssert (.iface 184 v) 148 182 true).run Tryd.prog w = .ok (.tuple #[.agg #[.pointer none], .bool false]) w := by kernel_rfl
theorem Node.shape {M : Mem} {v : Value} {l : List UInt8} {h : Nat} (n : Node M v l h) : ∃ T x, v = .iface T x := by
  cases n with
  | tip p l hp h0 h1 => exact ⟨_, _, rfl⟩
  | fork p va vb a b ha hb na nb hM => exact ⟨_, _, rfl⟩

set_option maxHeartbeats 2000000 in
theorem pair_any (M : Mem) (hG : Gl M) {va vb : Value} {a b : List UInt8} {ha hb : Nat} (na : Node M va a ha) (nb : Node M vb b hb) (hm : ((a.length + b.length : Nat) : Int) ≤ 268435456) (w : World) (hi : Imm M w) :
    Calls Tryd.prog 115 #[va, vb] w fun e w' => ∃ v M', e = .returned v ∧ Grew M M' w w' ∧ Node M' v (a ++ b) (1 + max ha hb) := by
  have h1 := na.height
  have h2 := nb.height
  have i1 : (a.length : Int) + b.length ≤ 268435456 := by omega
  have i2 : (ha : Int) ≤ 268435456 := by omega
  have i3 : (hb : Int) ≤ 268435456 := by omega
  clear h1 h2
  obtain ⟨T1, y1, rfl⟩ := na.shape
  obtain ⟨T2, y2, rfl⟩ := nb.shape
  have NA := Lib.hid na; clear na
  have NB := Lib.hid nb; clear nb
  have HG := Lib.hid hG; clear hG
  have HM := Lib.hid hm; clear hm
  (have HS := St.start hi; go_enter Tryd.func115, Tryd.ntmps115)
  go_wp2_with (first | ((with_reducible refine' q_alloc ?_); refine' a_alloc HS ?_; clear HS; intro b_ w_ HS) | ((with_reducible refine' q_box ?_); refine' a_box HS ?_; clear HS; intro b_ w_ HS) | ((with_reducible refine' q_load ?_); refine' a_load HS ?_) | ((with_reducible refine' q_store ?_); refine' a_store HS ?_; clear HS; intro w_ HS) | ((with_reducible refine' st_method ?hw ?hx (nodeSize M NA.out _ HS.imm) ?_); (case hw => first | rfl | (go_simp; done)); (case hx => first | exact eval_lit rfl | rfl); rintro e w_ ⟨rfl, hb_⟩; have HS_ := HS.call hb_; clear HS hb_; have HS := HS_; clear HS_; refine ⟨_, rfl, ?_⟩) | ((with_reducible refine' st_method ?hw ?hx (nodeSize M NB.out _ HS.imm) ?_); (case hw => first | rfl | (go_simp; done)); (case hx => first | exact eval_lit rfl | rfl); rintro e w_ ⟨rfl, hb_⟩; have HS_ := HS.call hb_; clear HS hb_; have HS := HS_; clear HS_; refine ⟨_, rfl, ?_⟩) | ((with_reducible refine' st_method ?hw ?hx (nodeHeight M NA.out _ HS.imm) ?_); (case hw => first | rfl | (go_simp; done)); (case hx => first | exact eval_lit rfl | rfl); rintro e w_ ⟨rfl, hb_⟩; have HS_ := HS.call hb_; clear HS hb_; have HS := HS_; clear HS_; refine ⟨_, rfl, ?_⟩) | ((with_reducible refine' st_method ?hw ?hx (nodeHeight M NB.out _ HS.imm) ?_); (case hw => first | rfl | (go_simp; done)); (case hx => first | exact eval_lit rfl | rfl); rintro e w_ ⟨rfl, hb_⟩; have HS_ := HS.call hb_; clear HS hb_; have HS := HS_; clear HS_; refine ⟨_, rfl, ?_⟩) | ((with_reducible refine' st_method ?hw ?hx (nodeWeld M NA.out _ HS.imm) ?_); (case hw => first | rfl | (go_simp; done)); (case hx => first | exact eval_lit rfl | rfl); rintro e w_ ⟨rfl, hb_⟩; have HS_ := HS.call hb_; clear HS hb_; have HS := HS_; clear HS_; refine ⟨_, rfl, ?_⟩) | ((with_reducible refine' st_method ?hw ?hx (nodeWeld M NB.out _ HS.imm) ?_); (case hw => first | rfl | (go_simp; done)); (case hx => first | exact eval_lit rfl | rfl); rintro e w_ ⟨rfl, hb_⟩; have HS_ := HS.call hb_; clear HS hb_; have HS := HS_; clear HS_; refine ⟨_, rfl, ?_⟩) | (go_at_call 101; (with_reducible refine (rboth_any M HG.out a b HM.out _ HS.imm).mono ?_); rintro e w_ ⟨rfl, hb_⟩; have HS_ := HS.call hb_; clear HS hb_; have HS := HS_; clear HS_))
  all_goals
    go_ret
    have hb2 := HS.base _ (.head _)
    refine ⟨_, rfl, M.add b_ _, ⟨HS.below, Mem.le_add hb2.2, Mem.fresh_add hb2.1, HS.keep.imm⟩, .fork b_ _ _ a b ha hb (NA.out.mono (Mem.le_add hb2.2)) (NB.out.mono (Mem.le_add hb2.2)) ?_⟩
    rw [Mem.add_same]
    have em : ((1 + max ha hb : Nat) : Int) = 1 + if ha < hb then (hb : Int) else ha := by split <;> omega
    have el : (((a ++ b).length : Nat) : Int) = (a.length : Int) + b.length := by rw [List.length_append]; omega
    simp only [forkC]
    rw [em, el, List.length_append]
end Go.Proofs.YtbogoehjoglneaaDoor

/- rope.level: two nodes whose heights differ by two at most. -/
namespace Go.Proofs.YtbogoehjoglneaaDoor
open Go.RowKit
set_option linter.unusedVariables false
set_option linter.unusedSimpArgs false
set_option maxRecDepth 100000
attribute [local go_sem] byt_drop byt_tail Int.toNat_natCast sOf_size sOf_append asFork asForkYes asForkNo asTip asTipYes asTipNo

theorem Node.split {M : Mem} {v : Value} {l : List UInt8} {h : Nat} (n : Node M v l h) (hh : 2 ≤ h) : ∃ p x1 x2 a1 a2 h1 h2, v = .iface 184 (ptr p) ∧ l = a1 ++ a2 ∧ h = 1 + max h1 h2 ∧ Node M x1 a1 h1 ∧ Node M x2 a2 h2 ∧
    M p = some (.cells (forkC x1 x2 l h).toArray 186 (0, 0)) := by
  cases n with
  | tip p l hp h0 h1 => omega
  | fork p va vb a b ha hb na nb hM => exact ⟨p, va, vb, a, b, ha, hb, rfl, rfl, rfl, na, nb, hM⟩

set_option maxHeartbeats 4000000 in
theorem level_any (M : Mem) (hG : Gl M) {va vb : Value} {a b : List UInt8} {ha hb : Nat} (na : Node M va a ha) (nb : Node M vb b hb) (hm : ((a.length + b.length : Nat) : Int) ≤ 268435456) (w : World) (hi : Imm M w) :
    Calls Tryd.prog 113 #[va, vb] w fun e w' => ∃ v M' h, e = .returned v ∧ Grew M M' w w' ∧ Node M' v (a ++ b) h := by
  have h1 := na.height
  have h2 := nb.height
  have i2 : (ha : Int) ≤ 268435456 := by omega
  have i3 : (hb : Int) ≤ 268435456 := by omega
  have NA := Lib.hid na
  have NB := Lib.hid nb
  have HG := Lib.hid hG; clear hG
  have HM := Lib.hid hm; clear hm
  by_cases hc : (1 : Int) < (ha : Int) - hb
  · obtain ⟨p, x1, x2, a1, a2, g1, g2, rfl, he, hh, n1, n2, hM⟩ := na.split (by omega)
    have hl : a.length = a1.length + a2.length := by rw [he, List.length_append]
    have HL := Lib.hid hl; clear hl
    have HH := Lib.hid hh; clear hh
    have HE := Lib.hid he; clear he
    have N1 := Lib.hid n1
    have N2 := Lib.hid n2
    clear na nb h1 h2
    by_cases hd : (g2 : Int) ≤ g1
    · clear n1 n2
      (have HS := St.start hi; go_enter Tryd.func113, Tryd.ntmps113)
      go_wp2_with (first | ((with_reducible refine' q_alloc ?_); refine' a_alloc HS ?_; clear HS; intro b_ w_ HS) | ((with_reducible refine' q_box ?_); refine' a_box HS ?_; clear HS; intro b_ w_ HS) | ((with_reducible refine' q_load ?_); refine' a_load HS ?_) | ((with_reducible refine' q_store ?_); refine' a_store HS ?_; clear HS; intro w_ HS) | ((with_reducible refine' st_method ?hw ?hx (nodeHeight M NA.out _ HS.imm) ?_); (case hw => first | rfl | (go_simp; done)); (case hx => first | exact eval_lit rfl | rfl); rintro e w_ ⟨rfl, hb_⟩; have HS_ := HS.call hb_; clear HS hb_; have HS := HS_; clear HS_; refine ⟨_, rfl, ?_⟩) | ((with_reducible refine' st_method ?hw ?hx (nodeHeight M NB.out _ HS.imm) ?_); (case hw => first | rfl | (go_simp; done)); (case hx => first | exact eval_lit rfl | rfl); rintro e w_ ⟨rfl, hb_⟩; have HS_ := HS.call hb_; clear HS hb_; have HS := HS_; clear HS_; refine ⟨_, rfl, ?_⟩))
      refine wp_region_plan [] [(true, 0), (true, 1), (true, 2), (true, 3), (true, 5), (true, 6), (true, 7), (true, 8), (false, 4), (false, 9), (true, 10)] (fun W_ => St _ _ W_ _ _) (by kernel_rfl) (by kernel_rfl) rfl (by kernel_rfl) (HS).drew ?_
      have HS_ := HS.drew; clear HS; have HS := HS_; clear HS_
      refine' a_dSoft rfl ?_
      (try simp only [Act.put, List.setIfInBounds_toArray, List.set_cons_zero, List.set_cons_succ])
      refine' a_dSoft rfl ?_
      (try simp only [Act.put, List.setIfInBounds_toArray, List.set_cons_zero, List.set_cons_succ])
      refine' a_dSoft rfl ?_
      (try simp only [Act.put, List.setIfInBounds_toArray, List.set_cons_zero, List.set_cons_succ])
      (first | refine' a_dLoad rfl (fun w_ hw_ => hw_) ?_ | refine' a_dLoadC rfl (fun w_ hw_ => hw_) ?_)
      (try simp only [Act.put, List.setIfInBounds_toArray, List.set_cons_zero, List.set_cons_succ])
      refine' a_dSoft rfl ?_
      (try simp only [Act.put, List.setIfInBounds_toArray, List.set_cons_zero, List.set_cons_succ])
      refine' a_dSoft rfl ?_
      (try simp only [Act.put, List.setIfInBounds_toArray, List.set_cons_zero, List.set_cons_succ])
      refine' a_dSoft rfl ?_
      (try simp only [Act.put, List.setIfInBounds_toArray, List.set_cons_zero, List.set_cons_succ])
      (first | refine' a_dLoad rfl (fun w_ hw_ => hw_) ?_ | refine' a_dLoadC rfl (fun w_ hw_ => hw_) ?_)
      (try simp only [Act.put, List.setIfInBounds_toArray, List.set_cons_zero, List.set_cons_succ])
      refine dHard rfl ?_
      refine' st_method ?hw ?hx (nodeHeight M N1.out _ HS.imm) ?_
      case hw => first | rfl | (go_simp; done)
      case hx => first | exact eval_lit rfl | rfl
      rintro e w_ ⟨rfl, hb_⟩
      (have HS_ := HS.call hb_; clear HS hb_; have HS := HS_; clear HS_)
      refine ⟨_, rfl, ?_⟩
      refine lexD_done (fun _ => HS) ?_
      (try simp only [Act.put, List.setIfInBounds_toArray, List.set_cons_zero, List.set_cons_succ])
      refine dHard rfl ?_
      refine' st_method ?hw ?hx (nodeHeight M N2.out _ HS.imm) ?_
      case hw => first | rfl | (go_simp; done)
      case hx => first | exact eval_lit rfl | rfl
      rintro e w_ ⟨rfl, hb_⟩
      (have HS_ := HS.call hb_; clear HS hb_; have HS := HS_; clear HS_)
      refine ⟨_, rfl, ?_⟩
      refine lexD_done (fun _ => HS) ?_
      (try simp only [Act.put, List.setIfInBounds_toArray, List.set_cons_zero, List.set_cons_succ])
      refine' a_dSoft rfl ?_
      (try simp only [Act.put, List.setIfInBounds_toArray, List.set_cons_zero, List.set_cons_succ])
      refine lexD_end ?_
      go_wp2_with (first | ((with_reducible refine' q_alloc ?_); refine' a_alloc HS ?_; clear HS; intro b_ w_ HS) | ((with_reducible refine' q_box ?_); refine' a_box HS ?_; clear HS; intro b_ w_ HS) | ((with_reducible refine' q_load ?_); refine' a_load HS ?_) | ((with_reducible refine' q_store ?_); refine' a_store HS ?_; clear HS; intro w_ HS))
      refine wp_region_plan [] [(true, 0), (true, 1), (true, 2), (true, 3), (true, 4), (true, 5), (true, 6), (true, 7), (true, 8), (false, 9), (false, 10), (true, 11)] (fun W_ => St _ _ W_ _ _) (by kernel_rfl) (by kernel_rfl) rfl (by kernel_rfl) (HS).drew ?_
      have HS_ := HS.drew; clear HS; have HS := HS_; clear HS_
      refine' a_dSoft rfl ?_
      (try simp only [Act.put, List.setIfInBounds_toArray, List.set_cons_zero, List.set_cons_succ])
      refine' a_dSoft rfl ?_
      (try simp only [Act.put, List.setIfInBounds_toArray, List.set_cons_zero, List.set_cons_succ])
      refine' a_dSoft rfl ?_
      (try simp only [Act.put, List.setIfInBounds_toArray, List.set_cons_zero, List.set_cons_succ])
      (first | refine' a_dLoad rfl (fun w_ hw_ => hw_) ?_ | refine' a_dLoadC rfl (fun w_ hw_ => hw_) ?_)
      (try simp only [Act.put, List.setIfInBounds_toArray, List.set_cons_zero, List.set_cons_succ])
      refine' a_dSoft rfl ?_
      (try simp only [Act.put, List.setIfInBounds_toArray, List.set_cons_zero, List.set_cons_succ])
      refine' a_dSoft rfl ?_
      (try simp only [Act.put, List.setIfInBounds_toArray, List.set_cons_zero, List.set_cons_succ])
      refine' a_dSoft rfl ?_
      (try simp only [Act.put, List.setIfInBounds_toArray, List.set_cons_zero, List.set_cons_succ])
      (first | refine' a_dLoad rfl (fun w_ hw_ => hw_) ?_ | refine' a_dLoadC rfl (fun w_ hw_ => hw_) ?_)
      (try simp only [Act.put, List.setIfInBounds_toArray, List.set_cons_zero, List.set_cons_succ])
      refine' a_dSoft rfl ?_
      (try simp only [Act.put, List.setIfInBounds_toArray, List.set_cons_zero, List.set_cons_succ])
      refine dHard rfl ?_
      refine' st_call ?hw Tryd.func115 (by kernel_rfl) rfl ?hargs (pair_any M HG.out N2.out NB.out (by have := HM.out; have := HL.out; omega) _ HS.imm) ?_
      case hw => rfl
      case hargs => first | rfl | (go_simp; done)
      rintro e w_ ⟨v1, M1, rfl, hg1, n1⟩
      have hs1 := HS.moved.size
      have HS_ := HS.callM hg1.below hg1.fresh hg1.imm; clear HS; have HS := HS_; clear HS_
      refine ⟨_, rfl, ?_⟩
      refine lexD_done (fun _ => HS.less hg1.le) ?_
      (try simp only [Act.put, List.setIfInBounds_toArray, List.set_cons_zero, List.set_cons_succ])
      refine dHard rfl ?_
      refine' st_call ?hw Tryd.func115 (by kernel_rfl) rfl ?hargs (pair_any M1 (HG.out.mono hg1.le) (N1.out.mono hg1.le) n1 (by rw [List.length_append]; have := HM.out; have := HL.out; omega) _ HS.imm) ?_
      case hw => rfl
      case hargs => first | rfl | (go_simp; done)
      rintro e w_ ⟨v2, M2, rfl, hg2, n2⟩
      have hs2 := HS.moved.size
      have HS_ := HS.callM hg2.below hg2.fresh hg2.imm; clear HS; have HS := HS_; clear HS_
      refine ⟨_, rfl, ?_⟩
      refine lexD_done (fun _ => HS.less (Mem.le_trans hg1.le hg2.le)) ?_
      (try simp only [Act.put, List.setIfInBounds_toArray, List.set_cons_zero, List.set_cons_succ])
      refine' a_dSoft rfl ?_
      (try simp only [Act.put, List.setIfInBounds_toArray, List.set_cons_zero, List.set_cons_succ])
      refine lexD_end ?_
      go_wp2_with (first | ((with_reducible refine' q_alloc ?_); refine' a_alloc HS ?_; clear HS; intro b_ w_ HS) | ((with_reducible refine' q_box ?_); refine' a_box HS ?_; clear HS; intro b_ w_ HS) | ((with_reducible refine' q_load ?_); refine' a_load HS ?_) | ((with_reducible refine' q_store ?_); refine' a_store HS ?_; clear HS; intro w_ HS))
      go_ret
      exact ⟨_, _, _, rfl, ⟨HS.below, Mem.le_trans hg1.le hg2.le, Mem.fresh_trans (hg1.fresh.less hs1) (hg2.fresh.less hs2) (Nat.le_refl _), HS.imm⟩, by rw [HE.out, List.append_assoc]; exact n2⟩
    · obtain ⟨q, y1, y2, b1, b2, k1, k2, rfl, he2, hh2, m1, m2, hM2⟩ := n2.split (by have := n1.height; omega)
      have hl2 : a2.length = b1.length + b2.length := by rw [he2, List.length_append]
      have HL2 := Lib.hid hl2; clear hl2
      have HE2 := Lib.hid he2; clear he2
      have K1 := Lib.hid m1
      have K2 := Lib.hid m2
      clear hh2 n1 n2 m1 m2
      (have HS := St.start hi; go_enter Tryd.func113, Tryd.ntmps113)
      go_wp2_with (first | ((with_reducible refine' q_alloc ?_); refine' a_alloc HS ?_; clear HS; intro b_ w_ HS) | ((with_reducible refine' q_box ?_); refine' a_box HS ?_; clear HS; intro b_ w_ HS) | ((with_reducible refine' q_load ?_); refine' a_load HS ?_) | ((with_reducible refine' q_store ?_); refine' a_store HS ?_; clear HS; intro w_ HS) | ((with_reducible refine' st_method ?hw ?hx (nodeHeight M NA.out _ HS.imm) ?_); (case hw => first | rfl | (go_simp; done)); (case hx => first | exact eval_lit rfl | rfl); rintro e w_ ⟨rfl, hb_⟩; have HS_ := HS.call hb_; clear HS hb_; have HS := HS_; clear HS_; refine ⟨_, rfl, ?_⟩) | ((with_reducible refine' st_method ?hw ?hx (nodeHeight M NB.out _ HS.imm) ?_); (case hw => first | rfl | (go_simp; done)); (case hx => first | exact eval_lit rfl | rfl); rintro e w_ ⟨rfl, hb_⟩; have HS_ := HS.call hb_; clear HS hb_; have HS := HS_; clear HS_; refine ⟨_, rfl, ?_⟩))
      refine wp_region_plan [] [(true, 0), (true, 1), (true, 2), (true, 3), (true, 5), (true, 6), (true, 7), (true, 8), (false, 4), (false, 9), (true, 10)] (fun W_ => St _ _ W_ _ _) (by kernel_rfl) (by kernel_rfl) rfl (by kernel_rfl) (HS).drew ?_
      have HS_ := HS.drew; clear HS; have HS := HS_; clear HS_
      refine' a_dSoft rfl ?_
      (try simp only [Act.put, List.setIfInBounds_toArray, List.set_cons_zero, List.set_cons_succ])
      refine' a_dSoft rfl ?_
      (try simp only [Act.put, List.setIfInBounds_toArray, List.set_cons_zero, List.set_cons_succ])
      refine' a_dSoft rfl ?_
      (try simp only [Act.put, List.setIfInBounds_toArray, List.set_cons_zero, List.set_cons_succ])
      (first | refine' a_dLoad rfl (fun w_ hw_ => hw_) ?_ | refine' a_dLoadC rfl (fun w_ hw_ => hw_) ?_)
      (try simp only [Act.put, List.setIfInBounds_toArray, List.set_cons_zero, List.set_cons_succ])
      refine' a_dSoft rfl ?_
      (try simp only [Act.put, List.setIfInBounds_toArray, List.set_cons_zero, List.set_cons_succ])
      refine' a_dSoft rfl ?_
      (try simp only [Act.put, List.setIfInBounds_toArray, List.set_cons_zero, List.set_cons_succ])
      refine' a_dSoft rfl ?_
      (try simp only [Act.put, List.setIfInBounds_toArray, List.set_cons_zero, List.set_cons_succ])
      (first | refine' a_dLoad rfl (fun w_ hw_ => hw_) ?_ | refine' a_dLoadC rfl (fun w_ hw_ => hw_) ?_)
      (try simp only [Act.put, List.setIfInBounds_toArray, List.set_cons_zero, List.set_cons_succ])
      refine dHard rfl ?_
      refine' st_method ?hw ?hx (nodeHeight M N1.out _ HS.imm) ?_
      case hw => first | rfl | (go_simp; done)
      case hx => first | exact eval_lit rfl | rfl
      rintro e w_ ⟨rfl, hb_⟩
      (have HS_ := HS.call hb_; clear HS hb_; have HS := HS_; clear HS_)
      refine ⟨_, rfl, ?_⟩
      refine lexD_done (fun _ => HS) ?_
      (try simp only [Act.put, List.setIfInBounds_toArray, List.set_cons_zero, List.set_cons_succ])
      refine dHard rfl ?_
      refine' st_method ?hw ?hx (nodeHeight M N2.out _ HS.imm) ?_
      case hw => first | rfl | (go_simp; done)
      case hx => first | exact eval_lit rfl | rfl
      rintro e w_ ⟨rfl, hb_⟩
      (have HS_ := HS.call hb_; clear HS hb_; have HS := HS_; clear HS_)
      refine ⟨_, rfl, ?_⟩
      refine lexD_done (fun _ => HS) ?_
      (try simp only [Act.put, List.setIfInBounds_toArray, List.set_cons_zero, List.set_cons_succ])
      refine' a_dSoft rfl ?_
      (try simp only [Act.put, List.setIfInBounds_toArray, List.set_cons_zero, List.set_cons_succ])
      refine lexD_end ?_
      go_wp2_with (first | ((with_reducible refine' q_alloc ?_); refine' a_alloc HS ?_; clear HS; intro b_ w_ HS) | ((with_reducible refine' q_box ?_); refine' a_box HS ?_; clear HS; intro b_ w_ HS) | ((with_reducible refine' q_load ?_); refine' a_load HS ?_) | ((with_reducible refine' q_store ?_); refine' a_store HS ?_; clear HS; intro w_ HS))
      refine wp_region_plan [] [(true, 0), (true, 1), (true, 2), (true, 3), (true, 4), (true, 5), (true, 6), (true, 7), (true, 9), (true, 10), (true, 11), (true, 12), (true, 13), (false, 8), (false, 14), (false, 15), (true, 16)] (fun W_ => St _ _ W_ _ _) (by kernel_rfl) (by kernel_rfl) rfl (by kernel_rfl) (HS).drew ?_
      have HS_ := HS.drew; clear HS; have HS := HS_; clear HS_
      refine' a_dSoft rfl ?_
      (try simp only [Act.put, List.setIfInBounds_toArray, List.set_cons_zero, List.set_cons_succ])
      refine' a_dSoft rfl ?_
      (try simp only [Act.put, List.setIfInBounds_toArray, List.set_cons_zero, List.set_cons_succ])
      refine' a_dSoft rfl ?_
      (try simp only [Act.put, List.setIfInBounds_toArray, List.set_cons_zero, List.set_cons_succ])
      (first | refine' a_dLoad rfl (fun w_ hw_ => hw_) ?_ | refine' a_dLoadC rfl (fun w_ hw_ => hw_) ?_)
      (try simp only [Act.put, List.setIfInBounds_toArray, List.set_cons_zero, List.set_cons_succ])
      refine' a_dSoft rfl ?_
      (try simp only [Act.put, List.setIfInBounds_toArray, List.set_cons_zero, List.set_cons_succ])
      refine' a_dSoft rfl ?_
      (try simp only [Act.put, List.setIfInBounds_toArray, List.set_cons_zero, List.set_cons_succ])
      refine' a_dSoft rfl ?_
      (try simp only [Act.put, List.setIfInBounds_toArray, List.set_cons_zero, List.set_cons_succ])
      (first | refine' a_dLoad rfl (fun w_ hw_ => hw_) ?_ | refine' a_dLoadC rfl (fun w_ hw_ => hw_) ?_)
      (try simp only [Act.put, List.setIfInBounds_toArray, List.set_cons_zero, List.set_cons_succ])
      refine' a_dSoft rfl ?_
      (try simp only [Act.put, List.setIfInBounds_toArray, List.set_cons_zero, List.set_cons_succ])
      refine' a_dSoft rfl ?_
      (try simp only [Act.put, List.setIfInBounds_toArray, List.set_cons_zero, List.set_cons_succ])
      refine' a_dSoft rfl ?_
      (try simp only [Act.put, List.setIfInBounds_toArray, List.set_cons_zero, List.set_cons_succ])
      (first | refine' a_dLoad rfl (fun w_ hw_ => hw_) ?_ | refine' a_dLoadC rfl (fun w_ hw_ => hw_) ?_)
      (try simp only [Act.put, List.setIfInBounds_toArray, List.set_cons_zero, List.set_cons_succ])
      refine' a_dSoft rfl ?_
      (try simp only [Act.put, List.setIfInBounds_toArray, List.set_cons_zero, List.set_cons_succ])
      refine dHard rfl ?_
      refine' st_call ?hw Tryd.func115 (by kernel_rfl) rfl ?hargs (pair_any M HG.out N1.out K1.out (by have := HM.out; have := HL.out; have := HL2.out; omega) _ HS.imm) ?_
      case hw => rfl
      case hargs => first | rfl | (go_simp; done)
      rintro e w_ ⟨v1, M1, rfl, hg1, n1⟩
      have hs1 := HS.moved.size
      have HS_ := HS.callM hg1.below hg1.fresh hg1.imm; clear HS; have HS := HS_; clear HS_
      refine ⟨_, rfl, ?_⟩
      refine lexD_done (fun _ => HS.less hg1.le) ?_
      (try simp only [Act.put, List.setIfInBounds_toArray, List.set_cons_zero, List.set_cons_succ])
      refine dHard rfl ?_
      refine' st_call ?hw Tryd.func115 (by kernel_rfl) rfl ?hargs (pair_any M1 (HG.out.mono hg1.le) (K2.out.mono hg1.le) (NB.out.mono hg1.le) (by have := HM.out; have := HL.out; have := HL2.out; omega) _ HS.imm) ?_
      case hw => rfl
      case hargs => first | rfl | (go_simp; done)
      rintro e w_ ⟨v2, M2, rfl, hg2, n2⟩
      have hs2 := HS.moved.size
      have HS_ := HS.callM hg2.below hg2.fresh hg2.imm; clear HS; have HS := HS_; clear HS_
      refine ⟨_, rfl, ?_⟩
      refine lexD_done (fun _ => HS.less (Mem.le_trans hg1.le hg2.le)) ?_
      (try simp only [Act.put, List.setIfInBounds_toArray, List.set_cons_zero, List.set_cons_succ])
      refine dHard rfl ?_
      refine' st_call ?hw Tryd.func115 (by kernel_rfl) rfl ?hargs (pair_any M2 (HG.out.mono (Mem.le_trans hg1.le hg2.le)) (n1.mono hg2.le) n2 (by simp only [List.length_append]; have := HM.out; have := HL.out; have := HL2.out; omega) _ HS.imm) ?_
      case hw => rfl
      case hargs => first | rfl | (go_simp; done)
      rintro e w_ ⟨v3, M3, rfl, hg3, n3⟩
      have hs3 := HS.moved.size
      have HS_ := HS.callM hg3.below hg3.fresh hg3.imm; clear HS; have HS := HS_; clear HS_
      refine ⟨_, rfl, ?_⟩
      refine lexD_done (fun _ => HS.less (Mem.le_trans hg1.le (Mem.le_trans hg2.le hg3.le))) ?_
      (try simp only [Act.put, List.setIfInBounds_toArray, List.set_cons_zero, List.set_cons_succ])
      refine' a_dSoft rfl ?_
      (try simp only [Act.put, List.setIfInBounds_toArray, List.set_cons_zero, List.set_cons_succ])
      refine lexD_end ?_
      go_wp2_with (first | ((with_reducible refine' q_alloc ?_); refine' a_alloc HS ?_; clear HS; intro b_ w_ HS) | ((with_reducible refine' q_box ?_); refine' a_box HS ?_; clear HS; intro b_ w_ HS) | ((with_reducible refine' q_load ?_); refine' a_load HS ?_) | ((with_reducible refine' q_store ?_); refine' a_store HS ?_; clear HS; intro w_ HS))
      go_ret
      exact ⟨_, _, _, rfl, ⟨HS.below, Mem.le_trans hg1.le (Mem.le_trans hg2.le hg3.le), Mem.fresh_trans (hg1.fresh.less hs1) (Mem.fresh_trans (hg2.fresh.less hs2) (hg3.fresh.less hs3) (Nat.le_refl _)) (Nat.le_refl _), HS.imm⟩, by rw [HE.out, HE2.out]; simpa [List.append_assoc] using n3⟩
  · by_cases hc2 : (ha : Int) - hb < -1
    · obtain ⟨p, x1, x2, a1, a2, g1, g2, rfl, he, hh, n1, n2, hM⟩ := nb.split (by omega)
      have hl : b.length = a1.length + a2.length := by rw [he, List.length_append]
      have HL := Lib.hid hl; clear hl
      have HH := Lib.hid hh; clear hh
      have HE := Lib.hid he; clear he
      have N1 := Lib.hid n1
      have N2 := Lib.hid n2
      clear na nb h1 h2
      by_cases hd : (g1 : Int) ≤ g2
      · clear n1 n2
        (have HS := St.start hi; go_enter Tryd.func113, Tryd.ntmps113)
        go_wp2_with (first | ((with_reducible refine' q_alloc ?_); refine' a_alloc HS ?_; clear HS; intro b_ w_ HS) | ((with_reducible refine' q_box ?_); refine' a_box HS ?_; clear HS; intro b_ w_ HS) | ((with_reducible refine' q_load ?_); refine' a_load HS ?_) | ((with_reducible refine' q_store ?_); refine' a_store HS ?_; clear HS; intro w_ HS) | ((with_reducible refine' st_method ?hw ?hx (nodeHeight M NA.out _ HS.imm) ?_); (case hw => first | rfl | (go_simp; done)); (case hx => first | exact eval_lit rfl | rfl); rintro e w_ ⟨rfl, hb_⟩; have HS_ := HS.call hb_; clear HS hb_; have HS := HS_; clear HS_; refine ⟨_, rfl, ?_⟩) | ((with_reducible refine' st_method ?hw ?hx (nodeHeight M NB.out _ HS.imm) ?_); (case hw => first | rfl | (go_simp; done)); (case hx => first | exact eval_lit rfl | rfl); rintro e w_ ⟨rfl, hb_⟩; have HS_ := HS.call hb_; clear HS hb_; have HS := HS_; clear HS_; refine ⟨_, rfl, ?_⟩))
        refine wp_region_plan [] [(true, 0), (true, 1), (true, 2), (true, 3), (true, 5), (true, 6), (true, 7), (true, 8), (false, 4), (false, 9), (true, 10)] (fun W_ => St _ _ W_ _ _) (by kernel_rfl) (by kernel_rfl) rfl (by kernel_rfl) (HS).drew ?_
        have HS_ := HS.drew; clear HS; have HS := HS_; clear HS_
        refine' a_dSoft rfl ?_
        (try simp only [Act.put, List.setIfInBounds_toArray, List.set_cons_zero, List.set_cons_succ])
        refine' a_dSoft rfl ?_
        (try simp only [Act.put, List.setIfInBounds_toArray, List.set_cons_zero, List.set_cons_succ])
        refine' a_dSoft rfl ?_
        (try simp only [Act.put, List.setIfInBounds_toArray, List.set_cons_zero, List.set_cons_succ])
        (first | refine' a_dLoad rfl (fun w_ hw_ => hw_) ?_ | refine' a_dLoadC rfl (fun w_ hw_ => hw_) ?_)
        (try simp only [Act.put, List.setIfInBounds_toArray, List.set_cons_zero, List.set_cons_succ])
        refine' a_dSoft rfl ?_
        (try simp only [Act.put, List.setIfInBounds_toArray, List.set_cons_zero, List.set_cons_succ])
        refine' a_dSoft rfl ?_
        (try simp only [Act.put, List.setIfInBounds_toArray, List.set_cons_zero, List.set_cons_succ])
        refine' a_dSoft rfl ?_
        (try simp only [Act.put, List.setIfInBounds_toArray, List.set_cons_zero, List.set_cons_succ])
        (first | refine' a_dLoad rfl (fun w_ hw_ => hw_) ?_ | refine' a_dLoadC rfl (fun w_ hw_ => hw_) ?_)
        (try simp only [Act.put, List.setIfInBounds_toArray, List.set_cons_zero, List.set_cons_succ])
        refine dHard rfl ?_
        refine' st_method ?hw ?hx (nodeHeight M N2.out _ HS.imm) ?_
        case hw => first | rfl | (go_simp; done)
        case hx => first | exact eval_lit rfl | rfl
        rintro e w_ ⟨rfl, hb_⟩
        (have HS_ := HS.call hb_; clear HS hb_; have HS := HS_; clear HS_)
        refine ⟨_, rfl, ?_⟩
        refine lexD_done (fun _ => HS) ?_
        (try simp only [Act.put, List.setIfInBounds_toArray, List.set_cons_zero, List.set_cons_succ])
        refine dHard rfl ?_
        refine' st_method ?hw ?hx (nodeHeight M N1.out _ HS.imm) ?_
        case hw => first | rfl | (go_simp; done)
        case hx => first | exact eval_lit rfl | rfl
        rintro e w_ ⟨rfl, hb_⟩
        (have HS_ := HS.call hb_; clear HS hb_; have HS := HS_; clear HS_)
        refine ⟨_, rfl, ?_⟩
        refine lexD_done (fun _ => HS) ?_
        (try simp only [Act.put, List.setIfInBounds_toArray, List.set_cons_zero, List.set_cons_succ])
        refine' a_dSoft rfl ?_
        (try simp only [Act.put, List.setIfInBounds_toArray, List.set_cons_zero, List.set_cons_succ])
        refine lexD_end ?_
        go_wp2_with (first | ((with_reducible refine' q_alloc ?_); refine' a_alloc HS ?_; clear HS; intro b_ w_ HS) | ((with_reducible refine' q_box ?_); refine' a_box HS ?_; clear HS; intro b_ w_ HS) | ((with_reducible refine' q_load ?_); refine' a_load HS ?_) | ((with_reducible refine' q_store ?_); refine' a_store HS ?_; clear HS; intro w_ HS))
        refine wp_region_plan [] [(true, 0), (true, 1), (true, 2), (true, 3), (true, 4), (true, 6), (true, 7), (true, 8), (true, 9), (false, 5), (false, 10), (true, 11)] (fun W_ => St _ _ W_ _ _) (by kernel_rfl) (by kernel_rfl) rfl (by kernel_rfl) (HS).drew ?_
        have HS_ := HS.drew; clear HS; have HS := HS_; clear HS_
        refine' a_dSoft rfl ?_
        (try simp only [Act.put, List.setIfInBounds_toArray, List.set_cons_zero, List.set_cons_succ])
        refine' a_dSoft rfl ?_
        (try simp only [Act.put, List.setIfInBounds_toArray, List.set_cons_zero, List.set_cons_succ])
        refine' a_dSoft rfl ?_
        (try simp only [Act.put, List.setIfInBounds_toArray, List.set_cons_zero, List.set_cons_succ])
        refine' a_dSoft rfl ?_
        (try simp only [Act.put, List.setIfInBounds_toArray, List.set_cons_zero, List.set_cons_succ])
        (first | refine' a_dLoad rfl (fun w_ hw_ => hw_) ?_ | refine' a_dLoadC rfl (fun w_ hw_ => hw_) ?_)
        (try simp only [Act.put, List.setIfInBounds_toArray, List.set_cons_zero, List.set_cons_succ])
        refine' a_dSoft rfl ?_
        (try simp only [Act.put, List.setIfInBounds_toArray, List.set_cons_zero, List.set_cons_succ])
        refine' a_dSoft rfl ?_
        (try simp only [Act.put, List.setIfInBounds_toArray, List.set_cons_zero, List.set_cons_succ])
        refine' a_dSoft rfl ?_
        (try simp only [Act.put, List.setIfInBounds_toArray, List.set_cons_zero, List.set_cons_succ])
        (first | refine' a_dLoad rfl (fun w_ hw_ => hw_) ?_ | refine' a_dLoadC rfl (fun w_ hw_ => hw_) ?_)
        (try simp only [Act.put, List.setIfInBounds_toArray, List.set_cons_zero, List.set_cons_succ])
        refine dHard rfl ?_
        refine' st_call ?hw Tryd.func115 (by kernel_rfl) rfl ?hargs (pair_any M HG.out NA.out N1.out (by have := HM.out; have := HL.out; omega) _ HS.imm) ?_
        case hw => rfl
        case hargs => first | rfl | (go_simp; done)
        rintro e w_ ⟨v1, M1, rfl, hg1, n1⟩
        have hs1 := HS.moved.size
        have HS_ := HS.callM hg1.below hg1.fresh hg1.imm; clear HS; have HS := HS_; clear HS_
        refine ⟨_, rfl, ?_⟩
        refine lexD_done (fun _ => HS.less hg1.le) ?_
        (try simp only [Act.put, List.setIfInBounds_toArray, List.set_cons_zero, List.set_cons_succ])
        refine dHard rfl ?_
        refine' st_call ?hw Tryd.func115 (by kernel_rfl) rfl ?hargs (pair_any M1 (HG.out.mono hg1.le) n1 (N2.out.mono hg1.le) (by rw [List.length_append]; have := HM.out; have := HL.out; omega) _ HS.imm) ?_
        case hw => rfl
        case hargs => first | rfl | (go_simp; done)
        rintro e w_ ⟨v2, M2, rfl, hg2, n2⟩
        have hs2 := HS.moved.size
        have HS_ := HS.callM hg2.below hg2.fresh hg2.imm; clear HS; have HS := HS_; clear HS_
        refine ⟨_, rfl, ?_⟩
        refine lexD_done (fun _ => HS.less (Mem.le_trans hg1.le hg2.le)) ?_
        (try simp only [Act.put, List.setIfInBounds_toArray, List.set_cons_zero, List.set_cons_succ])
        refine' a_dSoft rfl ?_
        (try simp only [Act.put, List.setIfInBounds_toArray, List.set_cons_zero, List.set_cons_succ])
        refine lexD_end ?_
        go_wp2_with (first | ((with_reducible refine' q_alloc ?_); refine' a_alloc HS ?_; clear HS; intro b_ w_ HS) | ((with_reducible refine' q_box ?_); refine' a_box HS ?_; clear HS; intro b_ w_ HS) | ((with_reducible refine' q_load ?_); refine' a_load HS ?_) | ((with_reducible refine' q_store ?_); refine' a_store HS ?_; clear HS; intro w_ HS))
        go_ret
        exact ⟨_, _, _, rfl, ⟨HS.below, Mem.le_trans hg1.le hg2.le, Mem.fresh_trans (hg1.fresh.less hs1) (hg2.fresh.less hs2) (Nat.le_refl _), HS.imm⟩, by rw [HE.out, ← List.append_assoc]; exact n2⟩
      · obtain ⟨q, y1, y2, b1, b2, k1, k2, rfl, he2, hh2, m1, m2, hM2⟩ := n1.split (by have := n2.height; omega)
        have hl2 : a1.length = b1.length + b2.length := by rw [he2, List.length_append]
        have HL2 := Lib.hid hl2; clear hl2
        have HE2 := Lib.hid he2; clear he2
        have K1 := Lib.hid m1
        have K2 := Lib.hid m2
        clear hh2 n1 n2 m1 m2
        (have HS := St.start hi; go_enter Tryd.func113, Tryd.ntmps113)
        go_wp2_with (first | ((with_reducible refine' q_alloc ?_); refine' a_alloc HS ?_; clear HS; intro b_ w_ HS) | ((with_reducible refine' q_box ?_); refine' a_box HS ?_; clear HS; intro b_ w_ HS) | ((with_reducible refine' q_load ?_); refine' a_load HS ?_) | ((with_reducible refine' q_store ?_); refine' a_store HS ?_; clear HS; intro w_ HS) | ((with_reducible refine' st_method ?hw ?hx (nodeHeight M NA.out _ HS.imm) ?_); (case hw => first | rfl | (go_simp; done)); (case hx => first | exact eval_lit rfl | rfl); rintro e w_ ⟨rfl, hb_⟩; have HS_ := HS.call hb_; clear HS hb_; have HS := HS_; clear HS_; refine ⟨_, rfl, ?_⟩) | ((with_reducible refine' st_method ?hw ?hx (nodeHeight M NB.out _ HS.imm) ?_); (case hw => first | rfl | (go_simp; done)); (case hx => first | exact eval_lit rfl | rfl); rintro e w_ ⟨rfl, hb_⟩; have HS_ := HS.call hb_; clear HS hb_; have HS := HS_; clear HS_; refine ⟨_, rfl, ?_⟩))
        refine wp_region_plan [] [(true, 0), (true, 1), (true, 2), (true, 3), (true, 5), (true, 6), (true, 7), (true, 8), (false, 4), (false, 9), (true, 10)] (fun W_ => St _ _ W_ _ _) (by kernel_rfl) (by kernel_rfl) rfl (by kernel_rfl) (HS).drew ?_
        have HS_ := HS.drew; clear HS; have HS := HS_; clear HS_
        refine' a_dSoft rfl ?_
        (try simp only [Act.put, List.setIfInBounds_toArray, List.set_cons_zero, List.set_cons_succ])
        refine' a_dSoft rfl ?_
        (try simp only [Act.put, List.setIfInBounds_toArray, List.set_cons_zero, List.set_cons_succ])
        refine' a_dSoft rfl ?_
        (try simp only [Act.put, List.setIfInBounds_toArray, List.set_cons_zero, List.set_cons_succ])
        (first | refine' a_dLoad rfl (fun w_ hw_ => hw_) ?_ | refine' a_dLoadC rfl (fun w_ hw_ => hw_) ?_)
        (try simp only [Act.put, List.setIfInBounds_toArray, List.set_cons_zero, List.set_cons_succ])
        refine' a_dSoft rfl ?_
        (try simp only [Act.put, List.setIfInBounds_toArray, List.set_cons_zero, List.set_cons_succ])
        refine' a_dSoft rfl ?_
        (try simp only [Act.put, List.setIfInBounds_toArray, List.set_cons_zero, List.set_cons_succ])
        refine' a_dSoft rfl ?_
        (try simp only [Act.put, List.setIfInBounds_toArray, List.set_cons_zero, List.set_cons_succ])
        (first | refine' a_dLoad rfl (fun w_ hw_ => hw_) ?_ | refine' a_dLoadC rfl (fun w_ hw_ => hw_) ?_)
        (try simp only [Act.put, List.setIfInBounds_toArray, List.set_cons_zero, List.set_cons_succ])
        refine dHard rfl ?_
        refine' st_method ?hw ?hx (nodeHeight M N2.out _ HS.imm) ?_
        case hw => first | rfl | (go_simp; done)
        case hx => first | exact eval_lit rfl | rfl
        rintro e w_ ⟨rfl, hb_⟩
        (have HS_ := HS.call hb_; clear HS hb_; have HS := HS_; clear HS_)
        refine ⟨_, rfl, ?_⟩
        refine lexD_done (fun _ => HS) ?_
        (try simp only [Act.put, List.setIfInBounds_toArray, List.set_cons_zero, List.set_cons_succ])
        refine dHard rfl ?_
        refine' st_method ?hw ?hx (nodeHeight M N1.out _ HS.imm) ?_
        case hw => first | rfl | (go_simp; done)
        case hx => first | exact eval_lit rfl | rfl
        rintro e w_ ⟨rfl, hb_⟩
        (have HS_ := HS.call hb_; clear HS hb_; have HS := HS_; clear HS_)
        refine ⟨_, rfl, ?_⟩
        refine lexD_done (fun _ => HS) ?_
        (try simp only [Act.put, List.setIfInBounds_toArray, List.set_cons_zero, List.set_cons_succ])
        refine' a_dSoft rfl ?_
        (try simp only [Act.put, List.setIfInBounds_toArray, List.set_cons_zero, List.set_cons_succ])
        refine lexD_end ?_
        go_wp2_with (first | ((with_reducible refine' q_alloc ?_); refine' a_alloc HS ?_; clear HS; intro b_ w_ HS) | ((with_reducible refine' q_box ?_); refine' a_box HS ?_; clear HS; intro b_ w_ HS) | ((with_reducible refine' q_load ?_); refine' a_load HS ?_) | ((with_reducible refine' q_store ?_); refine' a_store HS ?_; clear HS; intro w_ HS))
        refine wp_region_plan [] [(true, 0), (true, 1), (true, 2), (true, 3), (true, 4), (true, 6), (true, 7), (true, 8), (true, 9), (true, 10), (true, 11), (true, 12), (true, 13), (false, 5), (false, 14), (false, 15), (true, 16)] (fun W_ => St _ _ W_ _ _) (by kernel_rfl) (by kernel_rfl) rfl (by kernel_rfl) (HS).drew ?_
        have HS_ := HS.drew; clear HS; have HS := HS_; clear HS_
        refine' a_dSoft rfl ?_
        (try simp only [Act.put, List.setIfInBounds_toArray, List.set_cons_zero, List.set_cons_succ])
        refine' a_dSoft rfl ?_
        (try simp only [Act.put, List.setIfInBounds_toArray, List.set_cons_zero, List.set_cons_succ])
        refine' a_dSoft rfl ?_
        (try simp only [Act.put, List.setIfInBounds_toArray, List.set_cons_zero, List.set_cons_succ])
        refine' a_dSoft rfl ?_
        (try simp only [Act.put, List.setIfInBounds_toArray, List.set_cons_zero, List.set_cons_succ])
        (first | refine' a_dLoad rfl (fun w_ hw_ => hw_) ?_ | refine' a_dLoadC rfl (fun w_ hw_ => hw_) ?_)
        (try simp only [Act.put, List.setIfInBounds_toArray, List.set_cons_zero, List.set_cons_succ])
        refine' a_dSoft rfl ?_
        (try simp only [Act.put, List.setIfInBounds_toArray, List.set_cons_zero, List.set_cons_succ])
        refine' a_dSoft rfl ?_
        (try simp only [Act.put, List.setIfInBounds_toArray, List.set_cons_zero, List.set_cons_succ])
        refine' a_dSoft rfl ?_
        (try simp only [Act.put, List.setIfInBounds_toArray, List.set_cons_zero, List.set_cons_succ])
        (first | refine' a_dLoad rfl (fun w_ hw_ => hw_) ?_ | refine' a_dLoadC rfl (fun w_ hw_ => hw_) ?_)
        (try simp only [Act.put, List.setIfInBounds_toArray, List.set_cons_zero, List.set_cons_succ])
        refine' a_dSoft rfl ?_
        (try simp only [Act.put, List.setIfInBounds_toArray, List.set_cons_zero, List.set_cons_succ])
        refine' a_dSoft rfl ?_
        (try simp only [Act.put, List.setIfInBounds_toArray, List.set_cons_zero, List.set_cons_succ])
        refine' a_dSoft rfl ?_
        (try simp only [Act.put, List.setIfInBounds_toArray, List.set_cons_zero, List.set_cons_succ])
        (first | refine' a_dLoad rfl (fun w_ hw_ => hw_) ?_ | refine' a_dLoadC rfl (fun w_ hw_ => hw_) ?_)
        (try simp only [Act.put, List.setIfInBounds_toArray, List.set_cons_zero, List.set_cons_succ])
        refine dHard rfl ?_
        refine' st_call ?hw Tryd.func115 (by kernel_rfl) rfl ?hargs (pair_any M HG.out NA.out K1.out (by have := HM.out; have := HL.out; have := HL2.out; omega) _ HS.imm) ?_
        case hw => rfl
        case hargs => first | rfl | (go_simp; done)
        rintro e w_ ⟨v1, M1, rfl, hg1, n1⟩
        have hs1 := HS.moved.size
        have HS_ := HS.callM hg1.below hg1.fresh hg1.imm; clear HS; have HS := HS_; clear HS_
        refine ⟨_, rfl, ?_⟩
        refine lexD_done (fun _ => HS.less hg1.le) ?_
        (try simp only [Act.put, List.setIfInBounds_toArray, List.set_cons_zero, List.set_cons_succ])
        refine dHard rfl ?_
        refine' st_call ?hw Tryd.func115 (by kernel_rfl) rfl ?hargs (pair_any M1 (HG.out.mono hg1.le) (K2.out.mono hg1.le) (N2.out.mono hg1.le) (by have := HM.out; have := HL.out; have := HL2.out; omega) _ HS.imm) ?_
        case hw => rfl
        case hargs => first | rfl | (go_simp; done)
        rintro e w_ ⟨v2, M2, rfl, hg2, n2⟩
        have hs2 := HS.moved.size
        have HS_ := HS.callM hg2.below hg2.fresh hg2.imm; clear HS; have HS := HS_; clear HS_
        refine ⟨_, rfl, ?_⟩
        refine lexD_done (fun _ => HS.less (Mem.le_trans hg1.le hg2.le)) ?_
        (try simp only [Act.put, List.setIfInBounds_toArray, List.set_cons_zero, List.set_cons_succ])
        refine dHard rfl ?_
        refine' st_call ?hw Tryd.func115 (by kernel_rfl) rfl ?hargs (pair_any M2 (HG.out.mono (Mem.le_trans hg1.le hg2.le)) (n1.mono hg2.le) n2 (by simp only [List.length_append]; have := HM.out; have := HL.out; have := HL2.out; omega) _ HS.imm) ?_
        case hw => rfl
        case hargs => first | rfl | (go_simp; done)
        rintro e w_ ⟨v3, M3, rfl, hg3, n3⟩
        have hs3 := HS.moved.size
        have HS_ := HS.callM hg3.below hg3.fresh hg3.imm; clear HS; have HS := HS_; clear HS_
        refine ⟨_, rfl, ?_⟩
        refine lexD_done (fun _ => HS.less (Mem.le_trans hg1.le (Mem.le_trans hg2.le hg3.le))) ?_
        (try simp only [Act.put, List.setIfInBounds_toArray, List.set_cons_zero, List.set_cons_succ])
        refine' a_dSoft rfl ?_
        (try simp only [Act.put, List.setIfInBounds_toArray, List.set_cons_zero, List.set_cons_succ])
        refine lexD_end ?_
        go_wp2_with (first | ((with_reducible refine' q_alloc ?_); refine' a_alloc HS ?_; clear HS; intro b_ w_ HS) | ((with_reducible refine' q_box ?_); refine' a_box HS ?_; clear HS; intro b_ w_ HS) | ((with_reducible refine' q_load ?_); refine' a_load HS ?_) | ((with_reducible refine' q_store ?_); refine' a_store HS ?_; clear HS; intro w_ HS))
        go_ret
        exact ⟨_, _, _, rfl, ⟨HS.below, Mem.le_trans hg1.le (Mem.le_trans hg2.le hg3.le), Mem.fresh_trans (hg1.fresh.less hs1) (Mem.fresh_trans (hg2.fresh.less hs2) (hg3.fresh.less hs3) (Nat.le_refl _)) (Nat.le_refl _), HS.imm⟩, by rw [HE.out, HE2.out]; simpa [List.append_assoc] using n3⟩
    · clear na nb h1 h2
      (have HS := St.start hi; go_enter Tryd.func113, Tryd.ntmps113)
      go_wp2_with (first | ((with_reducible refine' q_alloc ?_); refine' a_alloc HS ?_; clear HS; intro b_ w_ HS) | ((with_reducible refine' q_box ?_); refine' a_box HS ?_; clear HS; intro b_ w_ HS) | ((with_reducible refine' q_load ?_); refine' a_load HS ?_) | ((with_reducible refine' q_store ?_); refine' a_store HS ?_; clear HS; intro w_ HS) | ((with_reducible refine' st_method ?hw ?hx (nodeHeight M NA.out _ HS.imm) ?_); (case hw => first | rfl | (go_simp; done)); (case hx => first | exact eval_lit rfl | rfl); rintro e w_ ⟨rfl, hb_⟩; have HS_ := HS.call hb_; clear HS hb_; have HS := HS_; clear HS_; refine ⟨_, rfl, ?_⟩) | ((with_reducible refine' st_method ?hw ?hx (nodeHeight M NB.out _ HS.imm) ?_); (case hw => first | rfl | (go_simp; done)); (case hx => first | exact eval_lit rfl | rfl); rintro e w_ ⟨rfl, hb_⟩; have HS_ := HS.call hb_; clear HS hb_; have HS := HS_; clear HS_; refine ⟨_, rfl, ?_⟩) | (go_at_call 115; (with_reducible refine (pair_any M HG.out NA.out NB.out HM.out _ HS.imm).mono ?_); rintro e w_ ⟨v1, M1, rfl, hg1, n1⟩; have hs1 := HS.moved.size; have HS_ := HS.callM hg1.below hg1.fresh hg1.imm; clear HS; have HS := HS_; clear HS_))
      go_ret
      exact ⟨_, _, _, rfl, ⟨HS.below, hg1.le, hg1.fresh.less hs1, HS.imm⟩, n1⟩
end Go.Proofs.YtbogoehjoglneaaDoor

/- rope.join: two nodes of any heights; nil: no bytes. -/
namespace Go.Proofs.YtbogoehjoglneaaDoor
open Go.RowKit
set_option linter.unusedVariables false
set_option linter.unusedSimpArgs false
set_option maxRecDepth 100000
attribute [local go_sem] byt_drop byt_tail Int.toNat_natCast sOf_size asFork asForkYes asForkNo asTip asTipYes asTipNo

/- A node or nil. -/
def NodeN (M : Mem) (v : Value) (l : List UInt8) : Prop := (v = .nilIface ∧ l = []) ∨ ∃ h, Node M v l h
theorem NodeN.mono {M M' : Mem} (hm : M.le M') {v : Value} {l : List UInt8} (n : NodeN M v l) : NodeN M' v l :=
  n.elim .inl fun ⟨h, n⟩ => .inr ⟨h, n.mono hm⟩

def JoinAt (n : Nat) : Prop := ∀ (M : Mem) (hG : Gl M) {va vb : Value} {a b : List UInt8} {ha hb : Nat} (na : Node M va a ha) (nb : Node M vb b hb) (hn : ha + hb ≤ n) (hm : ((a.length + b.length : Nat) : Int) ≤ 268435456) (w : World) (hi : Imm M w),
    Calls Tryd.prog 96 #[va, vb] w fun e w' => ∃ v M' h, e = .returned v ∧ Grew M M' w w' ∧ Node M' v (a ++ b) h

set_option maxHeartbeats 4000000 in
theorem join_high (n : Nat) (ih : JoinAt n) (M : Mem) (hG : Gl M) {va vb : Value} {a b : List UInt8} {ha hb : Nat} (na : Node M va a ha) (nb : Node M vb b hb) (hn : ha + hb ≤ n + 1) (hm : ((a.length + b.length : Nat) : Int) ≤ 268435456) (hc : (1 : Int) < (ha : Int) - hb) (w : World) (hi : Imm M w) :
    Calls Tryd.prog 96 #[va, vb] w fun e w' => ∃ v M' h, e = .returned v ∧ Grew M M' w w' ∧ Node M' v (a ++ b) h := by
  have h1 := na.height
  have h2 := nb.height
  have i2 : (ha : Int) ≤ 268435456 := by omega
  have i3 : (hb : Int) ≤ 268435456 := by omega
  have NA := Lib.hid na
  have NB := Lib.hid nb
  have HG := Lib.hid hG; clear hG
  have HM := Lib.hid hm; clear hm
  have IH := Lib.hid ih; clear ih
  obtain ⟨T2, z2, rfl⟩ := nb.shape
  obtain ⟨p, x1, x2, a1, a2, g1, g2, rfl, he, hh, n1, n2, hM⟩ := na.split (by omega)
  have hl : a.length = a1.length + a2.length := by rw [he, List.length_append]
  have hn2 : g2 + hb ≤ n := by omega
  have HL := Lib.hid hl; clear hl
  have HE := Lib.hid he; clear he
  have HN := Lib.hid hn2; clear hn2
  have N1 := Lib.hid n1
  have N2 := Lib.hid n2
  clear na nb h1 h2 n1 n2 hh hn
  (have HS := St.start hi; go_enter Tryd.func96, Tryd.ntmps96)
  go_wp2_with (first | ((with_reducible refine' q_alloc ?_); refine' a_alloc HS ?_; clear HS; intro b_ w_ HS) | ((with_reducible refine' q_box ?_); refine' a_box HS ?_; clear HS; intro b_ w_ HS) | ((with_reducible refine' q_load ?_); refine' a_load HS ?_) | ((with_reducible refine' q_store ?_); refine' a_store HS ?_; clear HS; intro w_ HS) | ((with_reducible refine' st_method ?hw ?hx (nodeHeight M NA.out _ HS.imm) ?_); (case hw => first | rfl | (go_simp; done)); (case hx => first | exact eval_lit rfl | rfl); rintro e w_ ⟨rfl, hb_⟩; have HS_ := HS.call hb_; clear HS hb_; have HS := HS_; clear HS_; refine ⟨_, rfl, ?_⟩) | ((with_reducible refine' st_method ?hw ?hx (nodeHeight M NB.out _ HS.imm) ?_); (case hw => first | rfl | (go_simp; done)); (case hx => first | exact eval_lit rfl | rfl); rintro e w_ ⟨rfl, hb_⟩; have HS_ := HS.call hb_; clear HS hb_; have HS := HS_; clear HS_; refine ⟨_, rfl, ?_⟩))
  refine wp_region_plan [] [(true, 0), (true, 1), (true, 2), (true, 3), (true, 4), (true, 5), (true, 6), (true, 7), (true, 8), (false, 9), (false, 10), (true, 11)] (fun W_ => St _ _ W_ _ _) (by kernel_rfl) (by kernel_rfl) rfl (by kernel_rfl) (HS).drew ?_
  have HS_ := HS.drew; clear HS; have HS := HS_; clear HS_
  refine' a_dSoft rfl ?_
  (try simp only [Act.put, List.setIfInBounds_toArray, List.set_cons_zero, List.set_cons_succ])
  refine' a_dSoft rfl ?_
  (try simp only [Act.put, List.setIfInBounds_toArray, List.set_cons_zero, List.set_cons_succ])
  refine' a_dSoft rfl ?_
  (try simp only [Act.put, List.setIfInBounds_toArray, List.set_cons_zero, List.set_cons_succ])
  (first | refine' a_dLoad rfl (fun w_ hw_ => hw_) ?_ | refine' a_dLoadC rfl (fun w_ hw_ => hw_) ?_)
  (try simp only [Act.put, List.setIfInBounds_toArray, List.set_cons_zero, List.set_cons_succ])
  refine' a_dSoft rfl ?_
  (try simp only [Act.put, List.setIfInBounds_toArray, List.set_cons_zero, List.set_cons_succ])
  refine' a_dSoft rfl ?_
  (try simp only [Act.put, List.setIfInBounds_toArray, List.set_cons_zero, List.set_cons_succ])
  refine' a_dSoft rfl ?_
  (try simp only [Act.put, List.setIfInBounds_toArray, List.set_cons_zero, List.set_cons_succ])
  (first | refine' a_dLoad rfl (fun w_ hw_ => hw_) ?_ | refine' a_dLoadC rfl (fun w_ hw_ => hw_) ?_)
  (try simp only [Act.put, List.setIfInBounds_toArray, List.set_cons_zero, List.set_cons_succ])
  refine' a_dSoft rfl ?_
  (try simp only [Act.put, List.setIfInBounds_toArray, List.set_cons_zero, List.set_cons_succ])
  refine dHard rfl ?_
  refine' st_call ?hw Tryd.func96 (by kernel_rfl) rfl ?hargs (IH.out M HG.out N2.out NB.out HN.out (by have := HM.out; have := HL.out; omega) _ HS.imm) ?_
  case hw => rfl
  case hargs => first | rfl | (go_simp; done)
  rintro e w_ ⟨v1, M1, h1, rfl, hg1, n1⟩
  have hs1 := HS.moved.size
  have HS_ := HS.callM hg1.below hg1.fresh hg1.imm; clear HS; have HS := HS_; clear HS_
  refine ⟨_, rfl, ?_⟩
  refine lexD_done (fun _ => HS.less hg1.le) ?_
  (try simp only [Act.put, List.setIfInBounds_toArray, List.set_cons_zero, List.set_cons_succ])
  refine dHard rfl ?_
  refine' st_call ?hw Tryd.func113 (by kernel_rfl) rfl ?hargs (level_any M1 (HG.out.mono hg1.le) (N1.out.mono hg1.le) n1 (by rw [List.length_append]; have := HM.out; have := HL.out; omega) _ HS.imm) ?_
  case hw => rfl
  case hargs => first | rfl | (go_simp; done)
  rintro e w_ ⟨v2, M2, h2, rfl, hg2, n2⟩
  have hs2 := HS.moved.size
  have HS_ := HS.callM hg2.below hg2.fresh hg2.imm; clear HS; have HS := HS_; clear HS_
  refine ⟨_, rfl, ?_⟩
  refine lexD_done (fun _ => HS.less (Mem.le_trans hg1.le hg2.le)) ?_
  (try simp only [Act.put, List.setIfInBounds_toArray, List.set_cons_zero, List.set_cons_succ])
  refine' a_dSoft rfl ?_
  (try simp only [Act.put, List.setIfInBounds_toArray, List.set_cons_zero, List.set_cons_succ])
  refine lexD_end ?_
  go_wp2_with (first | ((with_reducible refine' q_alloc ?_); refine' a_alloc HS ?_; clear HS; intro b_ w_ HS) | ((with_reducible refine' q_box ?_); refine' a_box HS ?_; clear HS; intro b_ w_ HS) | ((with_reducible refine' q_load ?_); refine' a_load HS ?_) | ((with_reducible refine' q_store ?_); refine' a_store HS ?_; clear HS; intro w_ HS))
  go_ret
  exact ⟨_, _, _, rfl, ⟨HS.below, Mem.le_trans hg1.le hg2.le, Mem.fresh_trans (hg1.fresh.less hs1) (hg2.fresh.less hs2) (Nat.le_refl _), HS.imm⟩, by rw [HE.out, List.append_assoc]; exact n2⟩

set_option maxHeartbeats 4000000 in
theorem join_low (n : Nat) (ih : JoinAt n) (M : Mem) (hG : Gl M) {va vb : Value} {a b : List UInt8} {ha hb : Nat} (na : Node M va a ha) (nb : Node M vb b hb) (hn : ha + hb ≤ n + 1) (hm : ((a.length + b.length : Nat) : Int) ≤ 268435456) (hc : (ha : Int) - hb < -1) (w : World) (hi : Imm M w) :
    Calls Tryd.prog 96 #[va, vb] w fun e w' => ∃ v M' h, e = .returned v ∧ Grew M M' w w' ∧ Node M' v (a ++ b) h := by
  have h1 := na.height
  have h2 := nb.height
  have i2 : (ha : Int) ≤ 268435456 := by omega
  have i3 : (hb : Int) ≤ 268435456 := by omega
  have hc0 : ¬ (1 : Int) < (ha : Int) - hb := by omega
  have NA := Lib.hid na
  have NB := Lib.hid nb
  have HG := Lib.hid hG; clear hG
  have HM := Lib.hid hm; clear hm
  have IH := Lib.hid ih; clear ih
  obtain ⟨T2, z2, rfl⟩ := na.shape
  obtain ⟨p, x1, x2, a1, a2, g1, g2, rfl, he, hh, n1, n2, hM⟩ := nb.split (by omega)
  have hl : b.length = a1.length + a2.length := by rw [he, List.length_append]
  have hn2 : ha + g1 ≤ n := by omega
  have HL := Lib.hid hl; clear hl
  have HE := Lib.hid he; clear he
  have HN := Lib.hid hn2; clear hn2
  have N1 := Lib.hid n1
  have N2 := Lib.hid n2
  clear na nb h1 h2 n1 n2 hh hn
  (have HS := St.start hi; go_enter Tryd.func96, Tryd.ntmps96)
  go_wp2_with (first | ((with_reducible refine' q_alloc ?_); refine' a_alloc HS ?_; clear HS; intro b_ w_ HS) | ((with_reducible refine' q_box ?_); refine' a_box HS ?_; clear HS; intro b_ w_ HS) | ((with_reducible refine' q_load ?_); refine' a_load HS ?_) | ((with_reducible refine' q_store ?_); refine' a_store HS ?_; clear HS; intro w_ HS) | ((with_reducible refine' st_method ?hw ?hx (nodeHeight M NA.out _ HS.imm) ?_); (case hw => first | rfl | (go_simp; done)); (case hx => first | exact eval_lit rfl | rfl); rintro e w_ ⟨rfl, hb_⟩; have HS_ := HS.call hb_; clear HS hb_; have HS := HS_; clear HS_; refine ⟨_, rfl, ?_⟩) | ((with_reducible refine' st_method ?hw ?hx (nodeHeight M NB.out _ HS.imm) ?_); (case hw => first | rfl | (go_simp; done)); (case hx => first | exact eval_lit rfl | rfl); rintro e w_ ⟨rfl, hb_⟩; have HS_ := HS.call hb_; clear HS hb_; have HS := HS_; clear HS_; refine ⟨_, rfl, ?_⟩))
  refine wp_region_plan [] [(true, 0), (true, 1), (true, 2), (true, 3), (true, 4), (true, 6), (true, 7), (true, 8), (true, 9), (false, 5), (false, 10), (true, 11)] (fun W_ => St _ _ W_ _ _) (by kernel_rfl) (by kernel_rfl) rfl (by kernel_rfl) (HS).drew ?_
  have HS_ := HS.drew; clear HS; have HS := HS_; clear HS_
  refine' a_dSoft rfl ?_
  (try simp only [Act.put, List.setIfInBounds_toArray, List.set_cons_zero, List.set_cons_succ])
  refine' a_dSoft rfl ?_
  (try simp only [Act.put, List.setIfInBounds_toArray, List.set_cons_zero, List.set_cons_succ])
  refine' a_dSoft rfl ?_
  (try simp only [Act.put, List.setIfInBounds_toArray, List.set_cons_zero, List.set_cons_succ])
  refine' a_dSoft rfl ?_
  (try simp only [Act.put, List.setIfInBounds_toArray, List.set_cons_zero, List.set_cons_succ])
  (first | refine' a_dLoad rfl (fun w_ hw_ => hw_) ?_ | refine' a_dLoadC rfl (fun w_ hw_ => hw_) ?_)
  (try simp only [Act.put, List.setIfInBounds_toArray, List.set_cons_zero, List.set_cons_succ])
  refine' a_dSoft rfl ?_
  (try simp only [Act.put, List.setIfInBounds_toArray, List.set_cons_zero, List.set_cons_succ])
  refine' a_dSoft rfl ?_
  (try simp only [Act.put, List.setIfInBounds_toArray, List.set_cons_zero, List.set_cons_succ])
  refine' a_dSoft rfl ?_
  (try simp only [Act.put, List.setIfInBounds_toArray, List.set_cons_zero, List.set_cons_succ])
  (first | refine' a_dLoad rfl (fun w_ hw_ => hw_) ?_ | refine' a_dLoadC rfl (fun w_ hw_ => hw_) ?_)
  (try simp only [Act.put, List.setIfInBounds_toArray, List.set_cons_zero, List.set_cons_succ])
  refine dHard rfl ?_
  refine' st_call ?hw Tryd.func96 (by kernel_rfl) rfl ?hargs (IH.out M HG.out NA.out N1.out HN.out (by have := HM.out; have := HL.out; omega) _ HS.imm) ?_
  case hw => rfl
  case hargs => first | rfl | (go_simp; done)
  rintro e w_ ⟨v1, M1, h1, rfl, hg1, n1⟩
  have hs1 := HS.moved.size
  have HS_ := HS.callM hg1.below hg1.fresh hg1.imm; clear HS; have HS := HS_; clear HS_
  refine ⟨_, rfl, ?_⟩
  refine lexD_done (fun _ => HS.less hg1.le) ?_
  (try simp only [Act.put, List.setIfInBounds_toArray, List.set_cons_zero, List.set_cons_succ])
  refine dHard rfl ?_
  refine' st_call ?hw Tryd.func113 (by kernel_rfl) rfl ?hargs (level_any M1 (HG.out.mono hg1.le) n1 (N2.out.mono hg1.le) (by rw [List.length_append]; have := HM.out; have := HL.out; omega) _ HS.imm) ?_
  case hw => rfl
  case hargs => first | rfl | (go_simp; done)
  rintro e w_ ⟨v2, M2, h2, rfl, hg2, n2⟩
  have hs2 := HS.moved.size
  have HS_ := HS.callM hg2.below hg2.fresh hg2.imm; clear HS; have HS := HS_; clear HS_
  refine ⟨_, rfl, ?_⟩
  refine lexD_done (fun _ => HS.less (Mem.le_trans hg1.le hg2.le)) ?_
  (try simp only [Act.put, List.setIfInBounds_toArray, List.set_cons_zero, List.set_cons_succ])
  refine' a_dSoft rfl ?_
  (try simp only [Act.put, List.setIfInBounds_toArray, List.set_cons_zero, List.set_cons_succ])
  refine lexD_end ?_
  go_wp2_with (first | ((with_reducible refine' q_alloc ?_); refine' a_alloc HS ?_; clear HS; intro b_ w_ HS) | ((with_reducible refine' q_box ?_); refine' a_box HS ?_; clear HS; intro b_ w_ HS) | ((with_reducible refine' q_load ?_); refine' a_load HS ?_) | ((with_reducible refine' q_store ?_); refine' a_store HS ?_; clear HS; intro w_ HS))
  go_ret
  exact ⟨_, _, _, rfl, ⟨HS.below, Mem.le_trans hg1.le hg2.le, Mem.fresh_trans (hg1.fresh.less hs1) (hg2.fresh.less hs2) (Nat.le_refl _), HS.imm⟩, by rw [HE.out, ← List.append_assoc]; exact n2⟩

set_option maxHeartbeats 4000000 in
theorem join_tips (M : Mem) (hG : Gl M) {p q : Nat} {a b : List UInt8} (hp : LeafAt M p a) (hq : LeafAt M q b) (na : Node M (.iface 182 (.agg #[ptr p])) a 1) (nb : Node M (.iface 182 (.agg #[ptr q])) b 1) (h0 : a ≠ []) (hm : ((a.length + b.length : Nat) : Int) ≤ 268435456) (w : World) (hi : Imm M w) :
    Calls Tryd.prog 96 #[.iface 182 (.agg #[ptr p]), .iface 182 (.agg #[ptr q])] w fun e w' => ∃ v M' h, e = .returned v ∧ Grew M M' w w' ∧ Node M' v (a ++ b) h := by
  have NA := Lib.hid na; clear na
  have NB := Lib.hid nb; clear nb
  have HG := Lib.hid hG; clear hG
  have HP := Lib.hid hp; clear hp
  have HQ := Lib.hid hq; clear hq
  have i1 : (a.length : Int) + b.length ≤ 268435456 := by omega
  have HM := Lib.hid hm; clear hm
  by_cases hs : (a.length : Int) + b.length ≤ 4096
  · have hs' : ((a.length + b.length : Nat) : Int) ≤ 4096 := by omega
    have HS4 := Lib.hid hs'; clear hs'
    (have HS := St.start hi; go_enter Tryd.func96, Tryd.ntmps96)
    go_wp2_with (first | ((with_reducible refine' q_alloc ?_); refine' a_alloc HS ?_; clear HS; intro b_ w_ HS) | ((with_reducible refine' q_box ?_); refine' a_box HS ?_; clear HS; intro b_ w_ HS) | ((with_reducible refine' q_load ?_); refine' a_load HS ?_) | ((with_reducible refine' q_store ?_); refine' a_store HS ?_; clear HS; intro w_ HS) | ((with_reducible refine' st_method ?hw ?hx (nodeHeight M NA.out _ HS.imm) ?_); (case hw => first | rfl | (go_simp; done)); (case hx => first | exact eval_lit rfl | rfl); rintro e w_ ⟨rfl, hb_⟩; have HS_ := HS.call hb_; clear HS hb_; have HS := HS_; clear HS_; refine ⟨_, rfl, ?_⟩) | ((with_reducible refine' st_method ?hw ?hx (nodeHeight M NB.out _ HS.imm) ?_); (case hw => first | rfl | (go_simp; done)); (case hx => first | exact eval_lit rfl | rfl); rintro e w_ ⟨rfl, hb_⟩; have HS_ := HS.call hb_; clear HS hb_; have HS := HS_; clear HS_; refine ⟨_, rfl, ?_⟩) | ((with_reducible refine' st_method ?hw ?hx (nodeSize M NA.out _ HS.imm) ?_); (case hw => first | rfl | (go_simp; done)); (case hx => first | exact eval_lit rfl | rfl); rintro e w_ ⟨rfl, hb_⟩; have HS_ := HS.call hb_; clear HS hb_; have HS := HS_; clear HS_; refine ⟨_, rfl, ?_⟩) | ((with_reducible refine' st_method ?hw ?hx (nodeSize M NB.out _ HS.imm) ?_); (case hw => first | rfl | (go_simp; done)); (case hx => first | exact eval_lit rfl | rfl); rintro e w_ ⟨rfl, hb_⟩; have HS_ := HS.call hb_; clear HS hb_; have HS := HS_; clear HS_; refine ⟨_, rfl, ?_⟩) | (go_at_call 114; (with_reducible refine (LJoin_any M HG.out p q a b HP.out HQ.out HS4.out _ HS.imm).mono ?_); rintro e w_ ⟨r, M1, rfl, hg1, hr⟩; have hs1 := HS.moved.size; have HS_ := HS.callM hg1.below hg1.fresh hg1.imm; clear HS; have HS := HS_; clear HS_))
    go_ret
    exact ⟨_, _, _, rfl, ⟨HS.below, hg1.le, hg1.fresh.less hs1, HS.imm⟩, .tip r (a ++ b) hr (fun h => h0 (List.append_eq_nil_iff.1 h).1) (by rw [List.length_append]; have := HS4.out; omega)⟩
  · (have HS := St.start hi; go_enter Tryd.func96, Tryd.ntmps96)
    go_wp2_with (first | ((with_reducible refine' q_alloc ?_); refine' a_alloc HS ?_; clear HS; intro b_ w_ HS) | ((with_reducible refine' q_box ?_); refine' a_box HS ?_; clear HS; intro b_ w_ HS) | ((with_reducible refine' q_load ?_); refine' a_load HS ?_) | ((with_reducible refine' q_store ?_); refine' a_store HS ?_; clear HS; intro w_ HS) | ((with_reducible refine' st_method ?hw ?hx (nodeHeight M NA.out _ HS.imm) ?_); (case hw => first | rfl | (go_simp; done)); (case hx => first | exact eval_lit rfl | rfl); rintro e w_ ⟨rfl, hb_⟩; have HS_ := HS.call hb_; clear HS hb_; have HS := HS_; clear HS_; refine ⟨_, rfl, ?_⟩) | ((with_reducible refine' st_method ?hw ?hx (nodeHeight M NB.out _ HS.imm) ?_); (case hw => first | rfl | (go_simp; done)); (case hx => first | exact eval_lit rfl | rfl); rintro e w_ ⟨rfl, hb_⟩; have HS_ := HS.call hb_; clear HS hb_; have HS := HS_; clear HS_; refine ⟨_, rfl, ?_⟩) | ((with_reducible refine' st_method ?hw ?hx (nodeSize M NA.out _ HS.imm) ?_); (case hw => first | rfl | (go_simp; done)); (case hx => first | exact eval_lit rfl | rfl); rintro e w_ ⟨rfl, hb_⟩; have HS_ := HS.call hb_; clear HS hb_; have HS := HS_; clear HS_; refine ⟨_, rfl, ?_⟩) | ((with_reducible refine' st_method ?hw ?hx (nodeSize M NB.out _ HS.imm) ?_); (case hw => first | rfl | (go_simp; done)); (case hx => first | exact eval_lit rfl | rfl); rintro e w_ ⟨rfl, hb_⟩; have HS_ := HS.call hb_; clear HS hb_; have HS := HS_; clear HS_; refine ⟨_, rfl, ?_⟩) | (go_at_call 115; (with_reducible refine (pair_any M HG.out NA.out NB.out HM.out _ HS.imm).mono ?_); rintro e w_ ⟨v1, M1, rfl, hg1, n1⟩; have hs1 := HS.moved.size; have HS_ := HS.callM hg1.below hg1.fresh hg1.imm; clear HS; have HS := HS_; clear HS_))
    go_ret
    exact ⟨_, _, _, rfl, ⟨HS.below, hg1.le, hg1.fresh.less hs1, HS.imm⟩, n1⟩

set_option maxHeartbeats 4000000 in
theorem join_forks (M : Mem) (hG : Gl M) {va vb : Value} {T1 T2 : TypeId} {a b : List UInt8} {ha hb : Nat} {x y : Value} (na : Node M (.iface T1 x) a ha) (nb : Node M (.iface T2 y) b hb) (hT : (T1 = 184 ∧ (T2 = 184 ∨ T2 = 182 ∧ ∃ q, y = .agg #[ptr q])) ∨ (T1 = 182 ∧ (∃ q, x = .agg #[ptr q]) ∧ T2 = 184)) (hm : ((a.length + b.length : Nat) : Int) ≤ 268435456)
    (hc : ¬ (1 : Int) < (ha : Int) - hb) (hc2 : ¬ (ha : Int) - hb < -1) (w : World) (hi : Imm M w) :
    Calls Tryd.prog 96 #[.iface T1 x, .iface T2 y] w fun e w' => ∃ v M' h, e = .returned v ∧ Grew M M' w w' ∧ Node M' v (a ++ b) h := by
  have h1 := na.height
  have h2 := nb.height
  have i2 : (ha : Int) ≤ 268435456 := by omega
  have i3 : (hb : Int) ≤ 268435456 := by omega
  have i1 : (a.length : Int) + b.length ≤ 268435456 := by omega
  have NA := Lib.hid na
  have NB := Lib.hid nb
  have HG := Lib.hid hG; clear hG
  have HM := Lib.hid hm; clear hm
  clear na nb h1 h2
  rcases hT with ⟨rfl, rfl | ⟨rfl, q, rfl⟩⟩ | ⟨rfl, ⟨q, rfl⟩, rfl⟩
  all_goals
    (have HS := St.start hi; go_enter Tryd.func96, Tryd.ntmps96)
    go_wp2_with (first | ((with_reducible refine' q_alloc ?_); refine' a_alloc HS ?_; clear HS; intro b_ w_ HS) | ((with_reducible refine' q_box ?_); refine' a_box HS ?_; clear HS; intro b_ w_ HS) | ((with_reducible refine' q_load ?_); refine' a_load HS ?_) | ((with_reducible refine' q_store ?_); refine' a_store HS ?_; clear HS; intro w_ HS) | ((with_reducible refine' st_method ?hw ?hx (nodeHeight M NA.out _ HS.imm) ?_); (case hw => first | rfl | (go_simp; done)); (case hx => first | exact eval_lit rfl | rfl); rintro e w_ ⟨rfl, hb_⟩; have HS_ := HS.call hb_; clear HS hb_; have HS := HS_; clear HS_; refine ⟨_, rfl, ?_⟩) | ((with_reducible refine' st_method ?hw ?hx (nodeHeight M NB.out _ HS.imm) ?_); (case hw => first | rfl | (go_simp; done)); (case hx => first | exact eval_lit rfl | rfl); rintro e w_ ⟨rfl, hb_⟩; have HS_ := HS.call hb_; clear HS hb_; have HS := HS_; clear HS_; refine ⟨_, rfl, ?_⟩) | ((with_reducible refine' st_method ?hw ?hx (nodeSize M NA.out _ HS.imm) ?_); (case hw => first | rfl | (go_simp; done)); (case hx => first | exact eval_lit rfl | rfl); rintro e w_ ⟨rfl, hb_⟩; have HS_ := HS.call hb_; clear HS hb_; have HS := HS_; clear HS_; refine ⟨_, rfl, ?_⟩) | ((with_reducible refine' st_method ?hw ?hx (nodeSize M NB.out _ HS.imm) ?_); (case hw => first | rfl | (go_simp; done)); (case hx => first | exact eval_lit rfl | rfl); rintro e w_ ⟨rfl, hb_⟩; have HS_ := HS.call hb_; clear HS hb_; have HS := HS_; clear HS_; refine ⟨_, rfl, ?_⟩) | (go_at_call 115; (with_reducible refine (pair_any M HG.out NA.out NB.out HM.out _ HS.imm).mono ?_); rintro e w_ ⟨v1, M1, rfl, hg1, n1⟩; have hs1 := HS.moved.size; have HS_ := HS.callM hg1.below hg1.fresh hg1.imm; clear HS; have HS := HS_; clear HS_))
    go_ret
    exact ⟨_, _, _, rfl, ⟨HS.below, hg1.le, hg1.fresh.less hs1, HS.imm⟩, n1⟩

theorem join_node : ∀ n, JoinAt n
  | 0 => fun M hG va vb a b ha hb na nb hn hm w hi => by have := na.height; omega
  | n + 1 => fun M hG va vb a b ha hb na nb hn hm w hi => by
    by_cases hc : (1 : Int) < (ha : Int) - hb
    · exact join_high n (join_node n) M hG na nb hn hm hc w hi
    · by_cases hc2 : (ha : Int) - hb < -1
      · exact join_low n (join_node n) M hG na nb hn hm hc2 w hi
      · have na' := na
        have nb' := nb
        cases na with
        | tip p a hp h0 h1 =>
          cases nb with
          | tip q b hq g0 g1 => exact join_tips M hG hp hq na' nb' h0 hm w hi
          | fork q x1 x2 b1 b2 k1 k2 m1 m2 hM => exact join_forks (va := x1) (vb := x2) M hG na' nb' (.inr ⟨rfl, ⟨_, rfl⟩, rfl⟩) hm hc hc2 w hi
        | fork p x1 x2 a1 a2 g1 g2 n1 n2 hM =>
          cases nb with
          | tip q b hq g0 g1 => exact join_forks (va := x1) (vb := x2) M hG na' nb' (.inl ⟨rfl, .inr ⟨rfl, _, rfl⟩⟩) hm hc hc2 w hi
          | fork q y1 y2 b1 b2 k1 k2 m1 m2 hM2 => exact join_forks (va := x1) (vb := x2) M hG na' nb' (.inl ⟨rfl, .inl rfl⟩) hm hc hc2 w hi

theorem join_any (M : Mem) (hG : Gl M) {va vb : Value} {a b : List UInt8} (na : NodeN M va a) (nb : NodeN M vb b) (hm : ((a.length + b.length : Nat) : Int) ≤ 268435456) (w : World) (hi : Imm M w) :
    Calls Tryd.prog 96 #[va, vb] w fun e w' => ∃ v M', e = .returned v ∧ Grew M M' w w' ∧ NodeN M' v (a ++ b) := by
  rcases na with ⟨rfl, rfl⟩ | ⟨ha, na⟩
  · (have HS := St.start hi; go_enter Tryd.func96, Tryd.ntmps96)
    go_wp2_with (first | ((with_reducible refine' q_alloc ?_); refine' a_alloc HS ?_; clear HS; intro b_ w_ HS) | ((with_reducible refine' q_box ?_); refine' a_box HS ?_; clear HS; intro b_ w_ HS) | ((with_reducible refine' q_load ?_); refine' a_load HS ?_) | ((with_reducible refine' q_store ?_); refine' a_store HS ?_; clear HS; intro w_ HS))
    go_ret
    exact ⟨_, M, rfl, ⟨HS.below, Mem.le_refl _, Mem.fresh_refl _ _, HS.imm⟩, by simpa using nb⟩
  · rcases nb with ⟨rfl, rfl⟩ | ⟨hb, nb⟩
    · obtain ⟨T, x, rfl⟩ := na.shape
      (have HS := St.start hi; go_enter Tryd.func96, Tryd.ntmps96)
      go_wp2_with (first | ((with_reducible refine' q_alloc ?_); refine' a_alloc HS ?_; clear HS; intro b_ w_ HS) | ((with_reducible refine' q_box ?_); refine' a_box HS ?_; clear HS; intro b_ w_ HS) | ((with_reducible refine' q_load ?_); refine' a_load HS ?_) | ((with_reducible refine' q_store ?_); refine' a_store HS ?_; clear HS; intro w_ HS))
      go_ret
      exact ⟨_, M, rfl, ⟨HS.below, Mem.le_refl _, Mem.fresh_refl _ _, HS.imm⟩, .inr ⟨ha, by simpa using na⟩⟩
    · refine (join_node (ha + hb) M hG na nb (Nat.le_refl _) hm w hi).mono ?_
      rintro e w' ⟨v, M', h, rfl, hg, n⟩
      exact ⟨v, M', rfl, hg, .inr ⟨h, n⟩⟩
end Go.Proofs.YtbogoehjoglneaaDoor

/- leaf.Cut: bytes in leaves. -/
namespace Go.Proofs.YtbogoehjoglneaaDoor
open Go.RowKit
set_option linter.unusedVariables false
set_option linter.unusedSimpArgs false
set_option maxRecDepth 100000
attribute [local go_sem] byt_drop byt_tail Int.toNat_natCast sOf_size

/- Leaves that are some bytes. -/
inductive Leaves (M : Mem) : List Value → List UInt8 → Prop
  | nil : Leaves M [] []
  | cons (p : Nat) (l : List UInt8) (vs : List Value) (r : List UInt8) (hp : LeafAt M p l) (h0 : l ≠ []) (h1 : l.length ≤ 4096) (t : Leaves M vs r) : Leaves M (ptr p :: vs) (l ++ r)
theorem Leaves.mono {M M' : Mem} (hm : M.le M') {vs : List Value} {r : List UInt8} (h : Leaves M vs r) : Leaves M' vs r := by
  induction h with
  | nil => exact .nil
  | cons p l vs r hp h0 h1 t ih => exact .cons p l vs r (hp.mono hm) h0 h1 ih
theorem Leaves.snoc {M : Mem} {vs : List Value} {r : List UInt8} (h : Leaves M vs r) {p : Nat} {l : List UInt8} (hp : LeafAt M p l) (h0 : l ≠ []) (h1 : l.length ≤ 4096) : Leaves M (vs ++ [ptr p]) (r ++ l) := by
  induction h with
  | nil => simpa using Leaves.cons p l [] [] hp h0 h1 .nil
  | cons q k vs r hq g0 g1 t ih => rw [List.append_assoc]; exact .cons q k _ _ hq g0 g1 ih
theorem Leaves.one {M : Mem} {vs : List Value} {r : List UInt8} (h : Leaves M vs r) : ∀ u ∈ vs, u.oneCell' = true := by
  induction h with
  | nil => intro u hu; cases hu
  | cons q k vs r hq g0 g1 t ih =>
    intro u hu
    rcases List.mem_cons.1 hu with rfl | hu
    · rfl
    · exact ih u hu
theorem take_parts (l : List UInt8) {p q : Nat} (h : p ≤ q) : l.take p ++ (l.take q).drop p = l.take q := by
  have := List.take_append_drop p (l.take q)
  rw [List.take_take, Nat.min_eq_left h] at this
  exact this

set_option maxHeartbeats 4000000 in
theorem Cut_any (M : Mem) (hG : Gl M) (A : Option Addr) (c : Nat) (l : List UInt8) (hb : BS M A c l) (hm : (l.length : Int) ≤ 268435456) (w : World) (hi : Imm M w) :
    Calls Tryd.prog 94 #[.slice A l.length c, .int .i64 4096] w fun e w' => ∃ A' n c' vs M', e = .returned (.tuple #[.slice A' n c', .int .i64 0]) ∧ Grew M M' w w' ∧ SL M' 1 A' n c' vs ∧ Leaves M' vs l := by
  have HG := Lib.hid hG; clear hG
  have HB := Lib.hid hb; clear hb
  (have HS := St.start hi; go_enter Tryd.func94, Tryd.ntmps94)
  go_wp2_with (first | ((with_reducible refine' q_alloc ?_); refine' a_alloc HS ?_; clear HS; intro b_ w_ HS) | ((with_reducible refine' q_box ?_); refine' a_box HS ?_; clear HS; intro b_ w_ HS) | ((with_reducible refine' q_load ?_); refine' a_load HS ?_) | ((with_reducible refine' q_store ?_); refine' a_store HS ?_; clear HS; intro w_ HS))
  refine wp_loop_st (σ := Nat) (fun at_ a w1 => at_ ≤ l.length ∧ ∃ v n vs Lx M1, (∃ g2 g3 g4 g5 g8 g9 g10 g11 g12 g13 g14 g15 g16 g17 g18 g19 g20 g21 g22 g23 g24 g25 g26 g27 g28 g29 g30 g31 g32 g33 g34 g35 g36 g37 g38 g39 g40 g41 g42 g43 g44 g45 g46 g47 g48 g49 g50 g51 g52 g53 g54 g55 g56 g57 : Value, a = { tmps := #[.slice A l.length c, .int .i64 4096, g2, g3, g4, g5, v, .int .i64 at_, g8, g9, g10, g11, g12, g13, g14, g15, g16, g17, g18, g19, g20, g21, g22, g23, g24, g25, g26, g27, g28, g29, g30, g31, g32, g33, g34, g35, g36, g37, g38, g39, g40, g41, g42, g43, g44, g45, g46, g47, g48, g49, g50, g51, g52, g53, g54, g55, g56, g57], defers := [] }) ∧
    Row 180 1 v n vs Lx ∧ Leaves M1 vs (l.take at_) ∧ n = vs.length ∧ n ≤ at_ ∧ M.le M1 ∧ M.fresh M1 w.heap.size ∧ St (fun k => w.heap.size ≤ k) w w1 M1 Lx) (fun p => l.length - p) 0
    ⟨Nat.zero_le _, _, 0, [], [], M, ⟨_, _, _, _, _, _, _, _, _, _, _, _, _, _, _, _, _, _, _, _, _, _, _, _, _, _, _, _, _, _, _, _, _, _, _, _, _, _, _, _, _, _, _, _, _, _, _, _, _, _, _, _, _, _, rfl⟩, Row.nil _ _, by simpa using Leaves.nil, rfl, Nat.le_refl _, Mem.le_refl _, Mem.fresh_refl _ _, HS⟩ ?_
  clear HS
  rintro p a w1 ⟨hp, v, n, vs, Lx, M1, ⟨g2, g3, g4, g5, g8, g9, g10, g11, g12, g13, g14, g15, g16, g17, g18, g19, g20, g21, g22, g23, g24, g25, g26, g27, g28, g29, g30, g31, g32, g33, g34, g35, g36, g37, g38, g39, g40, g41, g42, g43, g44, g45, g46, g47, g48, g49, g50, g51, g52, g53, g54, g55, g56, g57, rfl⟩, HR, hlv, hn, hnp, hle, hfr, HS⟩
  have HL := Lib.hid hlv; clear hlv
  have hb1 : BS M1 A c l := HB.out.mono hle
  by_cases hlt : (4096 : Int) < (l.length : Int) - p
  · have hin := inside_le l (p + 4096)
    obtain ⟨to, hto⟩ : ∃ t, t = floorN l (p + 4096) := ⟨_, rfl⟩
    have ht1 : p < to := by unfold floorN at hto; omega
    have ht2 : to ≤ p + 4096 := by unfold floorN at hto; omega
    have ht3 : to ≤ l.length := by omega
    have hf : ∀ w, Imm M1 w → Calls Tryd.prog 90 #[.slice A l.length c, .int .i64 (p + 4096)] w fun e w' => e = .returned (.tuple #[.int .i64 to, .int .i64 0]) ∧ Below w.heap.size w w' := fun w hi => by
      have := Floor_in M1 (HG.out.mono hle) A c l hb1 ((p + 4096 : Nat) : Int) (by omega) (by omega) (by omega) w hi
      rw [Int.toNat_natCast, ← hto] at this
      simpa using this
    have HF := Lib.hid hf
    have hd : ((l.take to).drop p).length = to - p := by rw [List.length_drop, List.length_take]; omega
    have HD := Lib.hid hd
    clear hin hto hf hd
    go_wp2_with (first | ((with_reducible refine' q_alloc ?_); refine' a_alloc HS ?_; clear HS; intro b_ w_ HS) | ((with_reducible refine' q_box ?_); refine' a_box HS ?_; clear HS; intro b_ w_ HS) | ((with_reducible refine' q_load ?_); refine' a_load HS ?_) | ((with_reducible refine' q_store ?_); refine' a_store HS ?_; clear HS; intro w_ HS) | (go_at_call 90; (with_reducible refine (HF.out _ HS.imm).mono ?_); rintro e w_ ⟨rfl, hb_⟩; have HS_ := HS.call hb_; clear HS hb_; have HS := HS_; clear HS_) | ((with_reducible refine' st_slice_bs (S := 28) (e := 5) (i := p) (j := to) ?hw Tryd.underlying28 (by kernel_rfl) ?hx ?hb ?hn ?hij ?_); (case hw => first | rfl | (go_simp; done)); (case hx => first | exact eval_lit rfl | rfl); (case hb => assumption); (case hn => (first | rfl | omega | (simp; done) | (simp; omega))); (case hij => first | exact ⟨rfl, rfl, by omega, by omega⟩ | fail); intro A_ hA_) | ((with_reducible refine' st_conv_bs (S := 28) (D := 9) (e := 5) ?hw Tryd.underlying28 Tryd.underlying5 Tryd.underlying9 HS ?hx ?hb ?hn ?_); (case hw => rfl); (case hx => first | exact eval_lit rfl | rfl); (case hb => (first | assumption | (with_reducible refine BS.mono ?_ ?_; assumption; assumption))); (case hn => (first | rfl | omega | (simp; done) | (simp; omega)))) | (go_at_call 111; (with_reducible refine (made_any M1 (HG.out.mono hle) ((l.take to).drop p) (by rw [HD.out]; omega) _ HS.imm).mono ?_); rintro e w_ ⟨q, M2, rfl, hg2, hq2⟩; have hs_hg2 := HS.moved.size; have HS_ := HS.callM hg2.below hg2.fresh hg2.imm; clear HS; have HS := HS_; clear HS_) | ((with_reducible refine' st_build (cl := [ptr q]) ?hw HS ?hl ?h0 ?hf ?_); (case hw => rfl); (case hl => rfl); (case h0 => rfl); (case hf => first | (go_simp; done) | rfl | (simp [Instr.fill]; done)); intro b_ w_ HS_; clear HS; have HS := HS_; clear HS_) | ((with_reducible refine' st_append HR HS ?hF ?hw ?h1 ?h2 ?hs ?hm ?_); (case hF => repeat (first | exact Pre.nil | apply Pre.cons)); (case hw => rfl); (case h1 => first | exact eval_lit rfl | rfl); (case h2 => first | exact eval_lit rfl | rfl); (case hs => (exact Src.own (by ((repeat (first | (with_reducible exact List.mem_cons_self) | apply List.mem_cons_of_mem)); done)) rfl rfl)); (case hm => omega); intro v_ Lx_ w_ HR_ HS_; clear HR; have HR := HR_; clear HR_; clear HS; have HS := HS_; clear HS_))
    refine ⟨to, ⟨ht3, _, _, _, _, M2, ⟨_, _, _, _, _, _, _, _, _, _, _, _, _, _, _, _, _, _, _, _, _, _, _, _, _, _, _, _, _, _, _, _, _, _, _, _, _, _, _, _, _, _, _, _, _, _, _, _, _, _, _, _, _, _, rfl⟩, HR, ?_, by simp [hn], by omega, Mem.le_trans hle hg2.le, Mem.fresh_trans hfr (hg2.fresh.less hs_hg2) (Nat.le_refl _), HS.drop⟩, by omega⟩
    have := (HL.out.mono hg2.le).snoc hq2 (fun h => by have := HD.out; rw [h] at this; simp at this; omega) (by rw [HD.out]; omega)
    rwa [take_parts l (by omega)] at this
  · by_cases hq : p < l.length
    · have hd : (l.drop p).length = l.length - p := List.length_drop
      have HD := Lib.hid hd
      clear hd
      go_wp2_with (first | ((with_reducible refine' q_alloc ?_); refine' a_alloc HS ?_; clear HS; intro b_ w_ HS) | ((with_reducible refine' q_box ?_); refine' a_box HS ?_; clear HS; intro b_ w_ HS) | ((with_reducible refine' q_load ?_); refine' a_load HS ?_) | ((with_reducible refine' q_store ?_); refine' a_store HS ?_; clear HS; intro w_ HS) | ((with_reducible refine' st_slice_bs (S := 28) (e := 5) (i := p) (j := l.length) ?hw Tryd.underlying28 (by kernel_rfl) ?hx ?hb ?hn ?hij ?_); (case hw => first | rfl | (go_simp; done)); (case hx => first | exact eval_lit rfl | rfl); (case hb => assumption); (case hn => (first | rfl | omega | (simp; done) | (simp; omega))); (case hij => first | exact ⟨rfl, rfl, by omega, by omega⟩ | fail); intro A_ hA_) | ((with_reducible refine' st_conv_bs (S := 28) (D := 9) (e := 5) ?hw Tryd.underlying28 Tryd.underlying5 Tryd.underlying9 HS ?hx ?hb ?hn ?_); (case hw => rfl); (case hx => first | exact eval_lit rfl | rfl); (case hb => (first | assumption | (with_reducible refine BS.mono ?_ ?_; assumption; assumption))); (case hn => (first | rfl | omega | (simp; done) | (simp; omega)))) | (go_at_call 111; (with_reducible refine (made_any M1 (HG.out.mono hle) (l.drop p) (by rw [HD.out]; omega) _ HS.imm).mono ?_); rintro e w_ ⟨q, M2, rfl, hg2, hq2⟩; have hs_hg2 := HS.moved.size; have HS_ := HS.callM hg2.below hg2.fresh hg2.imm; clear HS; have HS := HS_; clear HS_) | ((with_reducible refine' st_build (cl := [ptr q]) ?hw HS ?hl ?h0 ?hf ?_); (case hw => rfl); (case hl => rfl); (case h0 => rfl); (case hf => first | (go_simp; done) | rfl | (simp [Instr.fill]; done)); intro b_ w_ HS_; clear HS; have HS := HS_; clear HS_) | ((with_reducible refine' st_append HR HS ?hF ?hw ?h1 ?h2 ?hs ?hm ?_); (case hF => repeat (first | exact Pre.nil | apply Pre.cons)); (case hw => rfl); (case h1 => first | exact eval_lit rfl | rfl); (case h2 => first | exact eval_lit rfl | rfl); (case hs => (exact Src.own (by ((repeat (first | (with_reducible exact List.mem_cons_self) | apply List.mem_cons_of_mem)); done)) rfl rfl)); (case hm => omega); intro v_ Lx_ w_ HR_ HS_; clear HR; have HR := HR_; clear HR_; clear HS; have HS := HS_; clear HS_))
      have HS_ := HS.drop; clear HS; have HS := HS_; clear HS_
      have hl2 := (HL.out.mono hg2.le).snoc hq2 (fun h => by have := HD.out; rw [h] at this; simp at this; omega) (by rw [HD.out]; omega)
      rw [List.take_append_drop] at hl2
      obtain ⟨A', c', M3, rfl, hle3, hfr3, HS3, hsl⟩ := HS.keepRow (F := fun y => y) .nil HR hl2.one (fun _ h _ => h)
      go_ret2
      exact ⟨A', _, c', _, M3, rfl, ⟨HS3.below, Mem.le_trans hle (Mem.le_trans hg2.le hle3), Mem.fresh_trans (Mem.fresh_trans hfr (hg2.fresh.less hs_hg2) (Nat.le_refl _)) hfr3 (Nat.le_refl _), HS3.imm⟩, hsl, hl2.mono hle3⟩
    · go_wp2_with (first | ((with_reducible refine' q_alloc ?_); refine' a_alloc HS ?_; clear HS; intro b_ w_ HS) | ((with_reducible refine' q_box ?_); refine' a_box HS ?_; clear HS; intro b_ w_ HS) | ((with_reducible refine' q_load ?_); refine' a_load HS ?_) | ((with_reducible refine' q_store ?_); refine' a_store HS ?_; clear HS; intro w_ HS))
      have hl2 := HL.out
      rw [List.take_of_length_le (by omega)] at hl2
      obtain ⟨A', c', M3, rfl, hle3, hfr3, HS3, hsl⟩ := HS.keepRow (F := fun y => y) .nil HR hl2.one (fun _ h _ => h)
      go_ret2
      exact ⟨A', _, c', rfl, _, M3, ⟨HS3.below, Mem.le_trans hle hle3, Mem.fresh_trans hfr hfr3 (Nat.le_refl _), HS3.imm⟩, hsl, hl2.mono hle3⟩
end Go.Proofs.YtbogoehjoglneaaDoor
