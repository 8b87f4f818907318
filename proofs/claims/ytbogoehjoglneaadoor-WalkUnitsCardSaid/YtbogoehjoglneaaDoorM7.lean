/- rope.grown, New, Join, Len, Weld, place. -/
import Derived.Test.YtbogoehjoglneaaDoorM6
import Derived.Test.YtbogoehjoglneaaDoorM5
set_option linter.unusedVariables false
set_option linter.unusedSimpArgs false
set_option linter.unnecessarySimpa false
set_option linter.unusedSectionVars false
namespace Go.Proofs.YtbogoehjoglneaaDoor
open Go.RowKit
set_option linter.unusedVariables false
set_option linter.unusedSimpArgs false
set_option maxRecDepth 100000
attribute [local go_sem] byt_drop byt_tail Int.toNat_natCast sOf_size asFork asForkYes asForkNo asTip asTipYes asTipNo

theorem Leaves.split {M : Mem} {vs : List Value} {r : List UInt8} (h : Leaves M vs r) : ∀ k, ∃ l1 l2, r = l1 ++ l2 ∧ Leaves M (vs.take k) l1 ∧ Leaves M (vs.drop k) l2 := by
  induction h with
  | nil => exact fun k => ⟨[], [], rfl, by simpa using Leaves.nil, by simpa using Leaves.nil⟩
  | cons p l vs r hp h0 h1 t ih =>
    intro k
    cases k with
    | zero => exact ⟨[], _, rfl, by simpa using Leaves.nil, .cons p l vs r hp h0 h1 t⟩
    | succ k =>
      obtain ⟨l1, l2, e, q1, q2⟩ := ih k
      exact ⟨l ++ l1, l2, by rw [e, List.append_assoc], .cons p l _ _ hp h0 h1 q1, q2⟩

theorem Leaves.count {M : Mem} {vs : List Value} {r : List UInt8} (h : Leaves M vs r) : vs.length ≤ r.length := by
  induction h with
  | nil => exact Nat.le_refl _
  | cons p l vs r hp h0 h1 t ih => have := List.length_pos_iff.2 h0; simp only [List.length_cons, List.length_append]; omega

def GrownAt (n : Nat) : Prop := ∀ (M : Mem) (hG : Gl M) (A : Option Addr) (c m : Nat) (vs : List Value) (l : List UInt8) (hb : SL M 1 A m c vs) (hl : Leaves M vs l) (hm0 : m = vs.length) (hn : vs.length ≤ n) (hm : (l.length : Int) ≤ 268435456) (w : World) (hi : Imm M w),
    Calls Tryd.prog 95 #[.slice A m c] w fun e w' => ∃ v M', e = .returned v ∧ Grew M M' w w' ∧ NodeN M' v l

set_option maxHeartbeats 4000000 in
theorem grown_step (n : Nat) (ih : GrownAt n) : GrownAt (n + 1) := by
  intro M hG A c m vs l hb hl hm0 hn hm w hi
  have HG := Lib.hid hG; clear hG
  have IH := Lib.hid ih; clear ih
  cases hl with
  | nil =>
    subst hm0
    (have HS := St.start hi; go_enter Tryd.func95, Tryd.ntmps95)
    go_wp2_with (first | ((with_reducible refine' q_alloc ?_); refine' a_alloc HS ?_; clear HS; intro b_ w_ HS) | ((with_reducible refine' q_box ?_); refine' a_box HS ?_; clear HS; intro b_ w_ HS) | ((with_reducible refine' q_load ?_); refine' a_load HS ?_) | ((with_reducible refine' q_store ?_); refine' a_store HS ?_; clear HS; intro w_ HS))
    go_ret
    exact ⟨_, M, rfl, ⟨HS.below, Mem.le_refl _, Mem.fresh_refl _ _, HS.imm⟩, .inl ⟨rfl, rfl⟩⟩
  | cons p l1 vs r hp h0 h1 t =>
    cases t with
    | nil =>
      subst hm0
      have HP := Lib.hid hp
      have g1 : ¬ ((l1.length : Int) = 0) := by have := List.length_pos_iff.2 h0; omega
      (have HS := St.start hi; go_enter Tryd.func95, Tryd.ntmps95)
      go_wp2_with (first | ((with_reducible refine' q_alloc ?_); refine' a_alloc HS ?_; clear HS; intro b_ w_ HS) | ((with_reducible refine' q_box ?_); refine' a_box HS ?_; clear HS; intro b_ w_ HS) | ((with_reducible refine' q_load ?_); refine' a_load HS ?_) | ((with_reducible refine' q_store ?_); refine' a_store HS ?_; clear HS; intro w_ HS) | (((with_reducible refine' st_idx_sl ?hw ?hx ?hb ?hi ?hj ?_); (case hw => rfl); (case hx => first | exact eval_lit rfl | rfl); (case hb => assumption); (case hi => first | exact eval_lit rfl | rfl); (case hj => first | omega | (simp; omega)); intro b_ o_ hc_); have hc1_ := hc_ 0 _ rfl; rw [Nat.add_zero] at hc1_) | ((with_reducible refine' st_load_cellM ?hw HS ?hx ?hc ?_); (case hw => rfl); (case hx => first | exact eval_lit rfl | rfl); (case hc => assumption)) | (go_at_call 112; (with_reducible refine (Len_any M p l1 HP.out _ HS.imm).mono ?_); rintro e w_ ⟨rfl, rfl⟩))
      go_ret
      exact ⟨_, M, rfl, ⟨HS.below, Mem.le_refl _, Mem.fresh_refl _ _, HS.imm⟩, .inr ⟨1, by rw [List.append_nil]; exact .tip p l1 hp h0 h1⟩⟩
    | cons q l2 vs r hq k0 k1 t =>
      obtain ⟨k, hk⟩ : ∃ k, k = m / 2 := ⟨_, rfl⟩
      obtain ⟨us, hus⟩ : ∃ us, us = ptr p :: ptr q :: vs := ⟨_, rfl⟩
      have hlv : Leaves M us (l1 ++ (l2 ++ r)) := hus ▸ .cons p l1 _ _ hp h0 h1 (.cons q l2 _ _ hq k0 k1 t)
      rw [← hus] at hb hm0 hn
      have hm2 : 2 ≤ m := by rw [hm0, hus]; simp
      generalize l1 ++ (l2 ++ r) = l at hlv hm ⊢
      have hct := hlv.count
      have hmm : (m : Int) ≤ 268435456 := by omega
      obtain ⟨d1, d2, hd, lv1, lv2⟩ := hlv.split k
      subst hd
      clear t hp hq h0 h1 k0 k1 hus hlv hct
      have LV1 := Lib.hid lv1; clear lv1
      have LV2 := Lib.hid lv2; clear lv2
      have hM1 : (d1.length : Int) ≤ 268435456 ∧ (d2.length : Int) ≤ 268435456 ∧ ((d1.length + d2.length : Nat) : Int) ≤ 268435456 := by rw [List.length_append] at hm; omega
      have HM := Lib.hid hM1; clear hm hM1
      have HM0 := Lib.hid hm0; clear hm0
      have HN := Lib.hid hn; clear hn
      have hcc := hb.cap
      have hq2 : ((m : Int).tdiv 2) = (k : Int) := by rw [hk]; exact (Int.ofNat_tdiv m 2).symm
      have hkm : k ≤ m := by omega
      have hk1 : 1 ≤ k := by omega
      have hk2 : k < m := by omega
      have hwr : IntKind.i64.wrap (k : Int) = k := by rw [IntKind.wrap_i64]; omega
      clear hk
      (have HS := St.start hi; go_enter Tryd.func95, Tryd.ntmps95)
      go_wp2_with (first | ((with_reducible refine' q_alloc ?_); refine' a_alloc HS ?_; clear HS; intro b_ w_ HS) | ((with_reducible refine' q_box ?_); refine' a_box HS ?_; clear HS; intro b_ w_ HS) | ((with_reducible refine' q_load ?_); refine' a_load HS ?_) | ((with_reducible refine' q_store ?_); refine' a_store HS ?_; clear HS; intro w_ HS))
      refine wp_region_plan [] [(true, 0), (true, 1), (true, 2), (true, 3), (true, 4), (true, 6), (true, 7), (true, 8), (true, 9), (true, 10), (false, 5), (false, 11), (false, 12), (true, 13)] (fun W_ => St _ _ W_ _ _) (by kernel_rfl) (by kernel_rfl) rfl (by kernel_rfl) (HS).drew ?_
      have HS_ := HS.drew; clear HS; have HS := HS_; clear HS_
      refine' a_dSoft rfl ?_
      (try simp only [Act.put, List.setIfInBounds_toArray, List.set_cons_zero, List.set_cons_succ])
      refine' a_dSoft rfl ?_
      (try simp only [Act.put, List.setIfInBounds_toArray, List.set_cons_zero, List.set_cons_succ])
      refine' a_dSoft rfl ?_
      (try simp only [Act.put, List.setIfInBounds_toArray, List.set_cons_zero, List.set_cons_succ])
      refine' a_dSoft rfl ?_
      (try simp only [Act.put, List.setIfInBounds_toArray, List.set_cons_zero, List.set_cons_succ])
      (refine' dSliceL 0 k rfl ?hw ?hx ?hb ?hij ?_; (case hw => first | rfl | go_simp); (case hx => first | exact eval_lit rfl | rfl); (case hb => assumption); (case hij => exact ⟨rfl, rfl, by omega, by omega⟩); intro A1 hA1)
      refine' a_dSoft rfl ?_
      (try simp only [Act.put, List.setIfInBounds_toArray, List.set_cons_zero, List.set_cons_succ])
      refine' a_dSoft rfl ?_
      (try simp only [Act.put, List.setIfInBounds_toArray, List.set_cons_zero, List.set_cons_succ])
      refine' a_dSoft rfl ?_
      (try simp only [Act.put, List.setIfInBounds_toArray, List.set_cons_zero, List.set_cons_succ])
      refine' a_dSoft rfl ?_
      (try simp only [Act.put, List.setIfInBounds_toArray, List.set_cons_zero, List.set_cons_succ])
      (refine' dSliceL k m rfl ?hw ?hx ?hb ?hij ?_; (case hw => first | rfl | go_simp); (case hx => first | exact eval_lit rfl | rfl); (case hb => assumption); (case hij => exact ⟨rfl, rfl, by omega, by omega⟩); intro A2 hA2)
      refine dHard rfl ?_
      refine' st_call ?hw Tryd.func95 (by kernel_rfl) rfl ?hargs (IH.out M HG.out A1 (c - 0) (k - 0) (us.take k) d1 (by simpa using hA1) LV1.out (by have := HM0.out; rw [List.length_take]; omega) (by have := HM0.out; have := HN.out; rw [List.length_take]; omega) HM.out.1 _ HS.imm) ?_
      case hw => rfl
      case hargs => first | rfl | (go_simp; done)
      rintro e w_ ⟨v1, M1, rfl, hg1, n1⟩
      have hs_hg1 := HS.moved.size; have HS_ := HS.callM hg1.below hg1.fresh hg1.imm; clear HS; have HS := HS_; clear HS_
      refine ⟨_, rfl, ?_⟩
      refine lexD_done (fun _ => HS.less hg1.le) ?_
      (try simp only [Act.put, List.setIfInBounds_toArray, List.set_cons_zero, List.set_cons_succ])
      refine dHard rfl ?_
      refine' st_call ?hw Tryd.func95 (by kernel_rfl) rfl ?hargs (IH.out M1 (HG.out.mono hg1.le) A2 (c - k) (m - k) (us.drop k) d2 (by have h := hA2.mono hg1.le; have e := HM0.out; rw [Nat.mul_one, Nat.mul_one, List.take_of_length_le (by omega)] at h; exact h) (LV2.out.mono hg1.le) (by have := HM0.out; rw [List.length_drop]; omega) (by have := HM0.out; have := HN.out; rw [List.length_drop]; omega) HM.out.2.1 _ HS.imm) ?_
      case hw => rfl
      case hargs => first | rfl | (go_simp; done)
      rintro e w_ ⟨v2, M2, rfl, hg2, n2⟩
      have hs_hg2 := HS.moved.size; have HS_ := HS.callM hg2.below hg2.fresh hg2.imm; clear HS; have HS := HS_; clear HS_
      refine ⟨_, rfl, ?_⟩
      refine lexD_done (fun _ => HS.less (Mem.le_trans hg1.le hg2.le)) ?_
      (try simp only [Act.put, List.setIfInBounds_toArray, List.set_cons_zero, List.set_cons_succ])
      refine dHard rfl ?_
      refine' st_call ?hw Tryd.func96 (by kernel_rfl) rfl ?hargs (join_any M2 (HG.out.mono (Mem.le_trans hg1.le hg2.le)) (n1.mono hg2.le) n2 HM.out.2.2 _ HS.imm) ?_
      case hw => rfl
      case hargs => first | rfl | (go_simp; done)
      rintro e w_ ⟨v3, M3, rfl, hg3, n3⟩
      have hs_hg3 := HS.moved.size; have HS_ := HS.callM hg3.below hg3.fresh hg3.imm; clear HS; have HS := HS_; clear HS_
      refine ⟨_, rfl, ?_⟩
      refine lexD_done (fun _ => HS.less (Mem.le_trans hg1.le (Mem.le_trans hg2.le hg3.le))) ?_
      (try simp only [Act.put, List.setIfInBounds_toArray, List.set_cons_zero, List.set_cons_succ])
      refine' a_dSoft rfl ?_
      (try simp only [Act.put, List.setIfInBounds_toArray, List.set_cons_zero, List.set_cons_succ])
      refine lexD_end ?_
      go_wp2_with (first | ((with_reducible refine' q_alloc ?_); refine' a_alloc HS ?_; clear HS; intro b_ w_ HS) | ((with_reducible refine' q_box ?_); refine' a_box HS ?_; clear HS; intro b_ w_ HS) | ((with_reducible refine' q_load ?_); refine' a_load HS ?_) | ((with_reducible refine' q_store ?_); refine' a_store HS ?_; clear HS; intro w_ HS))
      go_ret
      exact ⟨_, _, rfl, ⟨HS.below, Mem.le_trans hg1.le (Mem.le_trans hg2.le hg3.le), Mem.fresh_trans (hg1.fresh.less hs_hg1) (Mem.fresh_trans (hg2.fresh.less hs_hg2) (hg3.fresh.less hs_hg3) (Nat.le_refl _)) (Nat.le_refl _), HS.imm⟩, n3⟩

theorem grown_all : ∀ n, GrownAt n
  | 0 => by
    intro M hG A c m vs l hb hl hm0 hn hm w hi
    obtain rfl : vs = [] := List.eq_nil_of_length_eq_zero (by omega)
    exact grown_step 0 (fun M hG A c m vs l hb hl hm0 hn hm w hi => by
      obtain rfl : vs = [] := List.eq_nil_of_length_eq_zero (by omega)
      cases hl
      subst hm0
      (have HS := St.start hi; go_enter Tryd.func95, Tryd.ntmps95)
      go_wp2_with (first | ((with_reducible refine' q_alloc ?_); refine' a_alloc HS ?_; clear HS; intro b_ w_ HS) | ((with_reducible refine' q_box ?_); refine' a_box HS ?_; clear HS; intro b_ w_ HS) | ((with_reducible refine' q_load ?_); refine' a_load HS ?_) | ((with_reducible refine' q_store ?_); refine' a_store HS ?_; clear HS; intro w_ HS))
      go_ret
      exact ⟨_, M, rfl, ⟨HS.below, Mem.le_refl _, Mem.fresh_refl _ _, HS.imm⟩, .inl ⟨rfl, rfl⟩⟩) M hG A c m [] l hb hl hm0 (by simp) hm w hi
  | n + 1 => grown_step n (grown_all n)

theorem grown_any (M : Mem) (hG : Gl M) (A : Option Addr) (c m : Nat) (vs : List Value) (l : List UInt8) (hb : SL M 1 A m c vs) (hl : Leaves M vs l) (hm0 : m = vs.length) (hm : (l.length : Int) ≤ 268435456) (w : World) (hi : Imm M w) :
    Calls Tryd.prog 95 #[.slice A m c] w fun e w' => ∃ v M', e = .returned v ∧ Grew M M' w w' ∧ NodeN M' v l :=
  grown_all vs.length M hG A c m vs l hb hl hm0 (Nat.le_refl _) hm w hi
theorem NodeN.shape {M : Mem} {v : Value} {l : List UInt8} (n : NodeN M v l) : v = .nilIface ∨ ∃ T x, v = .iface T x :=
  n.elim (fun h => .inl h.1) fun ⟨h, n⟩ => .inr n.shape

theorem NodeN.cells {M : Mem} {v : Value} {l : List UInt8} (n : NodeN M v l) : v.cells = #[v] := by
  rcases n.shape with rfl | ⟨T, x, rfl⟩ <;> rfl

/- A rope that is some bytes. -/
structure RopeAt (M : Mem) (r : Nat) (l : List UInt8) : Prop where
  is : ∃ top, M r = some (.cells [top].toArray 150 (0, 0)) ∧ NodeN M top l
  small : (l.length : Int) ≤ 268435456
theorem RopeAt.mono {M M' : Mem} {r : Nat} {l : List UInt8} (h : RopeAt M r l) (hm : M.le M') : RopeAt M' r l :=
  ⟨h.is.elim fun top h => ⟨top, hm _ _ h.1, h.2.mono hm⟩, h.small⟩

set_option maxHeartbeats 1000000 in
theorem New_any (M : Mem) (hG : Gl M) (A : Option Addr) (c n : Nat) (l : List UInt8) (hb : BS M A c l) (hn : n = l.length) (hm : (l.length : Int) ≤ 268435456) (w : World) (hi : Imm M w) :
    Calls Tryd.prog 56 #[.slice A n c] w fun e w' => ∃ r M', e = .returned (.tuple #[ptr r, .int .i64 0]) ∧ Grew M M' w w' ∧ RopeAt M' r l := by
  subst hn
  have HG := Lib.hid hG; clear hG
  have HB := Lib.hid hb; clear hb
  have HM := Lib.hid hm
  (have HS := St.start hi; go_enter Tryd.func56, Tryd.ntmps56)
  go_wp2_with (first | ((with_reducible refine' q_alloc ?_); refine' a_alloc HS ?_; clear HS; intro b_ w_ HS) | ((with_reducible refine' q_box ?_); refine' a_box HS ?_; clear HS; intro b_ w_ HS) | ((with_reducible refine' q_load ?_); refine' a_load HS ?_) | ((with_reducible refine' q_store ?_); refine' a_store HS ?_; clear HS; intro w_ HS) | (go_at_call 94; (with_reducible refine (Cut_any M HG.out A c l HB.out HM.out _ HS.imm).mono ?_); rintro e w_ ⟨A', n', c', vs, M1, rfl, hg1, hsl, hlv⟩; have HSL := Lib.hid hsl; have HLV := Lib.hid hlv; have hs_hg1 := HS.moved.size; have HS_ := HS.callM hg1.below hg1.fresh hg1.imm; clear HS; have HS := HS_; clear HS_) | (go_at_call 95; (with_reducible refine (grown_any M1 (HG.out.mono hg1.le) A' c' n' vs l HSL.out HLV.out (by have := HSL.out.len; omega) HM.out _ HS.imm).mono ?_); rintro e w_ ⟨v2, M2, rfl, hg2, n2⟩; have hs_hg2 := HS.moved.size; have HS_ := HS.callM hg2.below hg2.fresh hg2.imm; clear HS; have HS := HS_; clear HS_; have N2 := Lib.hid n2; clear n2; rcases N2.out.shape with rfl | ⟨T2, x2, rfl⟩))
  all_goals
    have hb2 := HS.base _ (.head _)
    go_ret2
    exact ⟨b_, M2.add b_ _, rfl, ⟨HS.below, Mem.le_trans hg1.le (Mem.le_trans hg2.le (Mem.le_add hb2.2)), Mem.fresh_trans (hg1.fresh.less hs_hg1) (Mem.fresh_trans (hg2.fresh.less hs_hg2) (Mem.fresh_add hb2.1) (Nat.le_refl _)) (Nat.le_refl _), HS.keep.imm⟩, ⟨⟨_, Mem.add_same _ _ _, N2.out.mono (Mem.le_add hb2.2)⟩, hm⟩⟩

theorem RLen_any (M : Mem) (r : Nat) (l : List UInt8) (hr : RopeAt M r l) (w : World) (hi : Imm M w) :
    Calls Tryd.prog 51 #[ptr r] w fun e w' => e = .returned (.int .i64 l.length) ∧ Below w.heap.size w w' := by
  obtain ⟨⟨top, hM, ⟨rfl, rfl⟩ | ⟨h, n⟩⟩, hs⟩ := hr
  · (have HS := St.start hi; go_enter Tryd.func51, Tryd.ntmps51)
    go_wp2_with (first | ((with_reducible refine' q_alloc ?_); refine' a_alloc HS ?_; clear HS; intro b_ w_ HS) | ((with_reducible refine' q_box ?_); refine' a_box HS ?_; clear HS; intro b_ w_ HS) | ((with_reducible refine' q_load ?_); refine' a_load HS ?_) | ((with_reducible refine' q_store ?_); refine' a_store HS ?_; clear HS; intro w_ HS))
    go_ret
    exact ⟨rfl, HS.below⟩
  · obtain ⟨T, x, rfl⟩ := n.shape
    have NR := Lib.hid n; clear n
    (have HS := St.start hi; go_enter Tryd.func51, Tryd.ntmps51)
    go_wp2_with (first | ((with_reducible refine' q_alloc ?_); refine' a_alloc HS ?_; clear HS; intro b_ w_ HS) | ((with_reducible refine' q_box ?_); refine' a_box HS ?_; clear HS; intro b_ w_ HS) | ((with_reducible refine' q_load ?_); refine' a_load HS ?_) | ((with_reducible refine' q_store ?_); refine' a_store HS ?_; clear HS; intro w_ HS) | ((with_reducible refine' st_method ?hw ?hx (nodeSize M NR.out _ HS.imm) ?_); (case hw => first | rfl | (go_simp; done)); (case hx => first | exact eval_lit rfl | rfl); rintro e w_ ⟨rfl, hb_⟩; have HS_ := HS.call hb_; clear HS hb_; have HS := HS_; clear HS_; refine ⟨_, rfl, ?_⟩))
    go_ret
    exact ⟨rfl, HS.below⟩

theorem RWeld_any (M : Mem) (hG : Gl M) (r : Nat) (l : List UInt8) (hr : RopeAt M r l) (w : World) (hi : Imm M w) :
    Calls Tryd.prog 45 #[ptr r] w fun e w' => e = .returned (weldV l) ∧ Below w.heap.size w w' := by
  obtain ⟨⟨top, hM, ⟨rfl, rfl⟩ | ⟨h, n⟩⟩, hs⟩ := hr
  · have HO := Lib.hid (fun w hi => Of_n M hG none 0 [] [] 0 (BS.none _ _) rfl rfl (by simp) w hi); clear hG
    (have HS := St.start hi; go_enter Tryd.func45, Tryd.ntmps45)
    go_wp2_with (first | ((with_reducible refine' q_alloc ?_); refine' a_alloc HS ?_; clear HS; intro b_ w_ HS) | ((with_reducible refine' q_box ?_); refine' a_box HS ?_; clear HS; intro b_ w_ HS) | ((with_reducible refine' q_load ?_); refine' a_load HS ?_) | ((with_reducible refine' q_store ?_); refine' a_store HS ?_; clear HS; intro w_ HS) | (go_at_call 82; (with_reducible refine (HO.out _ HS.imm).mono ?_); rintro e w_ ⟨rfl, hb_⟩; have HS_ := HS.call hb_; clear HS hb_; have HS := HS_; clear HS_))
    (refine post_cell (p := 2) (T := 87) rfl HS rfl rfl (by (first | (apply Blk.loc; (repeat (first | (with_reducible exact List.mem_cons_self) | apply List.mem_cons_of_mem)); done) | (apply Blk.imm; with_reducible assumption))) (by exact Eq.refl true) ?_)
    exact ⟨rfl, HS.below⟩
  · obtain ⟨T, x, rfl⟩ := n.shape
    have NR := Lib.hid n; clear n
    (have HS := St.start hi; go_enter Tryd.func45, Tryd.ntmps45)
    go_wp2_with (first | ((with_reducible refine' q_alloc ?_); refine' a_alloc HS ?_; clear HS; intro b_ w_ HS) | ((with_reducible refine' q_box ?_); refine' a_box HS ?_; clear HS; intro b_ w_ HS) | ((with_reducible refine' q_load ?_); refine' a_load HS ?_) | ((with_reducible refine' q_store ?_); refine' a_store HS ?_; clear HS; intro w_ HS) | ((with_reducible refine' st_method ?hw ?hx (nodeWeld M NR.out _ HS.imm) ?_); (case hw => first | rfl | (go_simp; done)); (case hx => first | exact eval_lit rfl | rfl); rintro e w_ ⟨rfl, hb_⟩; have HS_ := HS.call hb_; clear HS hb_; have HS := HS_; clear HS_; refine ⟨_, rfl, ?_⟩))
    (refine post_cell (p := 2) (T := 87) rfl HS rfl rfl (by (first | (apply Blk.loc; (repeat (first | (with_reducible exact List.mem_cons_self) | apply List.mem_cons_of_mem)); done) | (apply Blk.imm; with_reducible assumption))) (by exact Eq.refl true) ?_)
    exact ⟨rfl, HS.below⟩

theorem rplace_in (M : Mem) (r : Nat) (l : List UInt8) (hr : RopeAt M r l) (n : Int) (h0 : 0 ≤ n) (h1 : n ≤ l.length) (w : World) (hi : Imm M w) :
    Calls Tryd.prog 84 #[ptr r, .int .i64 n] w fun e w' => e = .returned (.int .i64 0) ∧ Below w.heap.size w w' := by
  have HR := Lib.hid hr; clear hr
  (have HS := St.start hi; go_enter Tryd.func84, Tryd.ntmps84)
  go_wp2_with (first | ((with_reducible refine' q_alloc ?_); refine' a_alloc HS ?_; clear HS; intro b_ w_ HS) | ((with_reducible refine' q_box ?_); refine' a_box HS ?_; clear HS; intro b_ w_ HS) | ((with_reducible refine' q_load ?_); refine' a_load HS ?_) | ((with_reducible refine' q_store ?_); refine' a_store HS ?_; clear HS; intro w_ HS) | (go_at_call 51; (with_reducible refine (RLen_any M r l HR.out _ HS.imm).mono ?_); rintro e w_ ⟨rfl, hb_⟩; have HS_ := HS.call hb_; clear HS hb_; have HS := HS_; clear HS_))
  go_ret
  exact ⟨rfl, HS.below⟩

set_option maxHeartbeats 1000000 in
theorem RJoin_any (M : Mem) (hG : Gl M) (p q : Nat) (a b : List UInt8) (hp : RopeAt M p a) (hq : RopeAt M q b) (hm : ((a.length + b.length : Nat) : Int) ≤ 268435456) (w : World) (hi : Imm M w) :
    Calls Tryd.prog 57 #[ptr p, ptr q] w fun e w' => ∃ r M', e = .returned (.tuple #[ptr r, .int .i64 0]) ∧ Grew M M' w w' ∧ RopeAt M' r (a ++ b) := by
  have HP := Lib.hid hp
  have HQ := Lib.hid hq
  have HG := Lib.hid hG; clear hG
  have i1 : (a.length : Int) + b.length ≤ 268435456 := by omega
  have HM := Lib.hid hm
  obtain ⟨⟨t1, hM1, n1⟩, _⟩ := hp
  obtain ⟨⟨t2, hM2, n2⟩, _⟩ := hq
  have N1 := Lib.hid n1; clear n1
  have N2 := Lib.hid n2; clear n2
  (have HS := St.start hi; go_enter Tryd.func57, Tryd.ntmps57)
  go_wp2_with (first | ((with_reducible refine' q_alloc ?_); refine' a_alloc HS ?_; clear HS; intro b_ w_ HS) | ((with_reducible refine' q_box ?_); refine' a_box HS ?_; clear HS; intro b_ w_ HS) | ((with_reducible refine' q_load ?_); refine' a_load HS ?_) | ((with_reducible refine' q_store ?_); refine' a_store HS ?_; clear HS; intro w_ HS) | (go_at_call 51; (with_reducible refine (RLen_any M p a HP.out _ HS.imm).mono ?_); rintro e w_ ⟨rfl, hb_⟩; have HS_ := HS.call hb_; clear HS hb_; have HS := HS_; clear HS_) | (go_at_call 51; (with_reducible refine (RLen_any M q b HQ.out _ HS.imm).mono ?_); rintro e w_ ⟨rfl, hb_⟩; have HS_ := HS.call hb_; clear HS hb_; have HS := HS_; clear HS_))
  refine wp_region_plan [] [(true, 0), (true, 1), (true, 2), (true, 3), (true, 4), (true, 5), (true, 6), (true, 7), (false, 8), (true, 9), (false, 10), (true, 11), (true, 12)] (fun W_ => St _ _ W_ _ _) (by kernel_rfl) (by kernel_rfl) rfl (by kernel_rfl) (HS).drew ?_
  have HS_ := HS.drew; clear HS; have HS := HS_; clear HS_
  refine' a_dSoft rfl ?_
  (try simp only [Act.put, List.setIfInBounds_toArray, List.set_cons_zero, List.set_cons_succ])
  refine' a_dSoft rfl ?_
  (try simp only [Act.put, List.setIfInBounds_toArray, List.set_cons_zero, List.set_cons_succ])
  refine' a_dSoft rfl ?_
  (try simp only [Act.put, List.setIfInBounds_toArray, List.set_cons_zero, List.set_cons_succ])
  (first | refine' a_dLoad rfl (fun w_ hw_ => hw_) ?_ | refine' a_dLoadC rfl (fun w_ hw_ => hw_) ?_)
  (try simp only [Act.put, List.setIfInBounds_toArray, List.set_cons_zero, List.set_cons_succ])
  refine' a_dSoft rfl ?_
  (try simp only [Act.put, List.setIfInBounds_toArray, List.set_cons_zero, List.set_cons_succ])
  refine' a_dSoft rfl ?_
  (try simp only [Act.put, List.setIfInBounds_toArray, List.set_cons_zero, List.set_cons_succ])
  refine' a_dSoft rfl ?_
  (try simp only [Act.put, List.setIfInBounds_toArray, List.set_cons_zero, List.set_cons_succ])
  (first | refine' a_dLoad rfl (fun w_ hw_ => hw_) ?_ | refine' a_dLoadC rfl (fun w_ hw_ => hw_) ?_)
  (try simp only [Act.put, List.setIfInBounds_toArray, List.set_cons_zero, List.set_cons_succ])
  refine dHard rfl ?_
  refine' st_call ?hw Tryd.func96 (by kernel_rfl) rfl ?hargs (join_any M HG.out N1.out N2.out HM.out _ HS.imm) ?_
  case hw => rfl
  case hargs => first | rfl | (go_simp; done)
  rintro e w_ ⟨v1, M1, rfl, hg1, n3⟩
  have hs_hg1 := HS.moved.size; have HS_ := HS.callM hg1.below hg1.fresh hg1.imm; clear HS; have HS := HS_; clear HS_
  have N3 := Lib.hid n3; clear n3
  refine ⟨_, rfl, ?_⟩
  refine lexD_done (fun _ => HS.less hg1.le) ?_
  (try simp only [Act.put, List.setIfInBounds_toArray, List.set_cons_zero, List.set_cons_succ])
  (refine' dSoft (v := .agg #[v1]) rfl ?hw (fun w_ hw_ => ?hy) ?_; (case hw => first | rfl | go_simp); (case hy => rcases N3.out.shape with rfl | ⟨T2, x2, rfl⟩ <;> first | (go_simp; done) | (go_simp; rfl)))
  refine dHard rfl ?_
  ((with_reducible refine' q_box ?_); refine' a_box HS ?_; clear HS; intro b_ w_ HS)
  refine lexD_done (fun _ => HS.drop.less hg1.le) ?_
  (try simp only [Act.put, List.setIfInBounds_toArray, List.set_cons_zero, List.set_cons_succ])
  refine' a_dSoft rfl ?_
  (try simp only [Act.put, List.setIfInBounds_toArray, List.set_cons_zero, List.set_cons_succ])
  refine' a_dSoft rfl ?_
  (try simp only [Act.put, List.setIfInBounds_toArray, List.set_cons_zero, List.set_cons_succ])
  refine lexD_end ?_
  go_wp2_with (first | ((with_reducible refine' q_alloc ?_); refine' a_alloc HS ?_; clear HS; intro b_ w_ HS) | ((with_reducible refine' q_box ?_); refine' a_box HS ?_; clear HS; intro b_ w_ HS) | ((with_reducible refine' q_load ?_); refine' a_load HS ?_) | ((with_reducible refine' q_store ?_); refine' a_store HS ?_; clear HS; intro w_ HS))
  have hb2 := HS.base _ (.head _)
  go_ret2
  exact ⟨b_, M1.add b_ _, rfl, ⟨HS.below, Mem.le_trans hg1.le (Mem.le_add hb2.2), Mem.fresh_trans (hg1.fresh.less hs_hg1) (Mem.fresh_add hb2.1) (Nat.le_refl _), HS.keep.imm⟩, ⟨⟨_, Mem.add_same _ _ _, N3.out.mono (Mem.le_add hb2.2)⟩, by rw [List.length_append]; exact hm⟩⟩
end Go.Proofs.YtbogoehjoglneaaDoor

/- rope.Before: the measure of a rope's first bytes. -/
namespace Go.Proofs.YtbogoehjoglneaaDoor
open Go.RowKit
set_option linter.unusedVariables false
set_option linter.unusedSimpArgs false
set_option maxRecDepth 100000
attribute [local go_sem] byt_drop byt_tail Int.toNat_natCast sOf_size asFork asForkYes asForkNo asTip asTipYes asTipNo

abbrev weldL (l : List UInt8) : List Value := [.int .i64 l.length, .int .i64 (runesN l), .int .i64 (unitsN l), .int .i64 (endsN false l), .string (sOf (l.take 3)), .string (sOf (l.drop (l.length - 3)))]
abbrev zeroW : List Value := [.int .i64 0, .int .i64 0, .int .i64 0, .int .i64 0, .string ByteArray.empty, .string ByteArray.empty]
theorem LBefore_n (M : Mem) (hG : Gl M) (p : Nat) (l : List UInt8) (hp : LeafAt M p l) (hm : (l.length : Int) ≤ 268435456) (n : Nat) (h1 : n ≤ l.length) (w : World) (hi : Imm M w) :
    Calls Tryd.prog 100 #[.pointer (some ⟨p, 0, none⟩), .int .i64 n] w fun e w' => e = .returned (.tuple #[weldV (l.take n), .int .i64 0]) ∧ Below w.heap.size w w' := by
  have := LBefore_any M hG p l hp hm n (by omega) (by omega) w hi
  rwa [Int.toNat_natCast] at this

set_option maxHeartbeats 4000000 in
theorem RBefore_any (M : Mem) (hG : Gl M) (r : Nat) (l : List UInt8) (hr : RopeAt M r l) (k : Nat) (hk : k ≤ l.length) (w : World) (hi : Imm M w) :
    Calls Tryd.prog 73 #[ptr r, .int .i64 k] w fun e w' => e = .returned (.tuple #[weldV (l.take k), .int .i64 0]) ∧ Below w.heap.size w w' := by
  have HG := Lib.hid hG
  have HR := Lib.hid hr
  have hO := fun w hi => Of_n M hG none 0 [] [] 0 (BS.none _ _) rfl rfl (by simp) w hi
  have HO := Lib.hid hO
  clear hG hO
  obtain ⟨⟨top, hM, n0⟩, hs⟩ := hr
  have hs' := hs
  obtain ⟨h0, hn0⟩ : ∃ h0, 0 < k → Node M top l h0 := by
    rcases n0 with ⟨_, rfl⟩ | ⟨h, n⟩
    · exact ⟨0, fun h => by simp at hk; omega⟩
    · exact ⟨h, fun _ => n⟩
  have HSM := Lib.hid hs; clear hs
  (have HS := St.start hi; go_enter Tryd.func73, Tryd.ntmps73)
  go_wp2_with (first | ((with_reducible refine' q_alloc ?_); refine' a_alloc HS ?_; clear HS; intro b_ w_ HS) | ((with_reducible refine' q_box ?_); refine' a_box HS ?_; clear HS; intro b_ w_ HS) | ((with_reducible refine' q_load ?_); refine' a_load HS ?_) | ((with_reducible refine' q_store ?_); refine' a_store HS ?_; clear HS; intro w_ HS) | (go_at_call 84; (with_reducible refine (rplace_in M r l HR.out k (by omega) (by omega) _ HS.imm).mono ?_); rintro e w_ ⟨rfl, hb_⟩; have HS_ := HS.call hb_; clear HS hb_; have HS := HS_; clear HS_) | (go_at_call 82; (with_reducible refine (HO.out _ HS.imm).mono ?_); rintro e w_ ⟨rfl, hb_⟩; have HS_ := HS.call hb_; clear HS hb_; have HS := HS_; clear HS_))
  refine wp_loop_st (σ := Nat) (fun h a w1 => ∃ v l' k' pre bR bW, (∃ g2 g3 g6 g9 g10 g11 g12 g13 g14 g15 g16 g17 g18 g19 g20 g21 g22 g23 g24 g25 g26 g27 g28 g29 g30 g31 g32 g33 g34 g35 g36 g37 g38 g39 g40 g41 g42 g43 g44 g45 g46 g47 g48 g49 g50 g51 g52 g53 g54 g55 g56 g57 g58 g59 g60 g61 g62 g63 g64 g65 g66 g67 g68 g69 g70 g71 g72 g73 : Value, a = { tmps := #[ptr r, .int .i64 (k' : Nat), g2, g3, ptr bR, .int .i64 0, g6, ptr bW, v, g9, g10, g11, g12, g13, g14, g15, g16, g17, g18, g19, g20, g21, g22, g23, g24, g25, g26, g27, g28, g29, g30, g31, g32, g33, g34, g35, g36, g37, g38, g39, g40, g41, g42, g43, g44, g45, g46, g47, g48, g49, g50, g51, g52, g53, g54, g55, g56, g57, g58, g59, g60, g61, g62, g63, g64, g65, g66, g67, g68, g69, g70, g71, g72, g73], defers := [] }) ∧ pre ++ l'.take k' = l.take k ∧ k' ≤ l'.length ∧ (0 < k' → Node M v l' h) ∧
    St (fun k => w.heap.size ≤ k) w w1 M [(bW, .cells (weldL pre).toArray 87 (0, 0)), (bR, .cells zeroW.toArray 87 (0, 0))]) (fun h => h) h0
    ⟨top, l, k, [], _, _, ⟨_, _, _, _, _, _, _, _, _, _, _, _, _, _, _, _, _, _, _, _, _, _, _, _, _, _, _, _, _, _, _, _, _, _, _, _, _, _, _, _, _, _, _, _, _, _, _, _, _, _, _, _, _, _, _, _, _, _, _, _, _, _, _, _, _, _, _, _, rfl⟩, rfl, hk, hn0, HS⟩ ?_
  clear HS hn0 n0
  rintro h a w1 ⟨v, l', k', pre, bR, bW, ⟨g2, g3, g6, g9, g10, g11, g12, g13, g14, g15, g16, g17, g18, g19, g20, g21, g22, g23, g24, g25, g26, g27, g28, g29, g30, g31, g32, g33, g34, g35, g36, g37, g38, g39, g40, g41, g42, g43, g44, g45, g46, g47, g48, g49, g50, g51, g52, g53, g54, g55, g56, g57, g58, g59, g60, g61, g62, g63, g64, g65, g66, g67, g68, g69, g70, g71, g72, g73, rfl⟩, hpre, hk', hnode, HS⟩
  have hlen : pre.length + k' = k := by
    have := congrArg List.length hpre
    rw [List.length_append, List.length_take, List.length_take] at this; omega
  by_cases h0k : 0 < (k' : Int)
  · have n := hnode (by omega)
    clear hnode
    cases n with
    | tip p l' hp q0 q1 =>
      have hl9 : (l'.length : Int) ≤ 268435456 := by omega
      obtain ⟨m, hm⟩ : ∃ m, m = l'.take k' := ⟨_, rfl⟩
      rw [← hm] at hpre
      have hbm : ((pre.length + m.length : Nat) : Int) ≤ 268435456 := by rw [hm, List.length_take]; omega
      have hF := fun w hi => LBefore_n M HG.out p l' hp hl9 k' hk' w hi
      rw [← hm] at hF
      have HF := Lib.hid hF; clear hF hm
      have HB := Lib.hid hbm; clear hbm
      have HPre := Lib.hid hpre; clear hpre
      go_wp2_with (first | ((with_reducible refine' q_alloc ?_); refine' a_alloc HS ?_; clear HS; intro b_ w_ HS) | ((with_reducible refine' q_box ?_); refine' a_box HS ?_; clear HS; intro b_ w_ HS) | ((with_reducible refine' q_load ?_); refine' a_load HS ?_) | ((with_reducible refine' q_store ?_); refine' a_store HS ?_; clear HS; intro w_ HS) | (go_at_call 100; (with_reducible refine (HF.out _ HS.imm).mono ?_); rintro e w_ ⟨rfl, hb_⟩; have HS_ := HS.call hb_; clear HS hb_; have HS := HS_; clear HS_) | (go_at_call 101; (with_reducible refine (rboth_any M HG.out pre m HB.out _ HS.imm).mono ?_); rintro e w_ ⟨rfl, hb_⟩; have HS_ := HS.call hb_; clear HS hb_; have HS := HS_; clear HS_))
      (refine post_cell_tmp (p := 4) (T := 87) rfl HS rfl rfl (by (first | (apply Blk.loc; (repeat (first | (with_reducible exact List.mem_cons_self) | apply List.mem_cons_of_mem)); done) | (apply Blk.imm; with_reducible assumption))) (by exact Eq.refl true) ?_)
      exact ⟨by rw [← HPre.out]; rfl, HS.below⟩
    | fork p x1 x2 a1 a2 g1 g2 n1 n2 hM1 =>
      have N1 := Lib.hid n1
      by_cases hlt : (k' : Int) < a1.length
      · have HPre := Lib.hid hpre; clear hpre
        go_wp2_with (first | ((with_reducible refine' q_alloc ?_); refine' a_alloc HS ?_; clear HS; intro b_ w_ HS) | ((with_reducible refine' q_box ?_); refine' a_box HS ?_; clear HS; intro b_ w_ HS) | ((with_reducible refine' q_load ?_); refine' a_load HS ?_) | ((with_reducible refine' q_store ?_); refine' a_store HS ?_; clear HS; intro w_ HS) | ((with_reducible refine' st_method ?hw ?hx (nodeSize M N1.out _ HS.imm) ?_); (case hw => first | rfl | (go_simp; done)); (case hx => first | exact eval_lit rfl | rfl); rintro e w_ ⟨rfl, hb_⟩; have HS_ := HS.call hb_; clear HS hb_; have HS := HS_; clear HS_; refine ⟨_, rfl, ?_⟩))
        refine ⟨g1, ⟨x1, a1, k', pre, _, _, ⟨_, _, _, _, _, _, _, _, _, _, _, _, _, _, _, _, _, _, _, _, _, _, _, _, _, _, _, _, _, _, _, _, _, _, _, _, _, _, _, _, _, _, _, _, _, _, _, _, _, _, _, _, _, _, _, _, _, _, _, _, _, _, _, _, _, _, _, _, rfl⟩, ?_, by omega, fun _ => n1, HS⟩, by omega⟩
        rw [← HPre.out, List.take_append_of_le_length (by omega)]
      · have HPre := Lib.hid hpre; clear hpre
        have hl2 : (a1 ++ a2).length = a1.length + a2.length := List.length_append
        have hbm : ((pre.length + a1.length : Nat) : Int) ≤ 268435456 := by omega
        have HB := Lib.hid hbm; clear hbm
        go_wp2_with (first | ((with_reducible refine' q_alloc ?_); refine' a_alloc HS ?_; clear HS; intro b_ w_ HS) | ((with_reducible refine' q_box ?_); refine' a_box HS ?_; clear HS; intro b_ w_ HS) | ((with_reducible refine' q_load ?_); refine' a_load HS ?_) | ((with_reducible refine' q_store ?_); refine' a_store HS ?_; clear HS; intro w_ HS) | ((with_reducible refine' st_method ?hw ?hx (nodeSize M N1.out _ HS.imm) ?_); (case hw => first | rfl | (go_simp; done)); (case hx => first | exact eval_lit rfl | rfl); rintro e w_ ⟨rfl, hb_⟩; have HS_ := HS.call hb_; clear HS hb_; have HS := HS_; clear HS_; refine ⟨_, rfl, ?_⟩))
        refine wp_region_plan [7] [(true, 0), (true, 1), (true, 2), (true, 3), (true, 4), (false, 5), (false, 6), (false, 7)] (fun W_ => St _ _ W_ _ _) (by kernel_rfl) (by kernel_rfl) rfl (by kernel_rfl) (HS).drew ?_
        have HS_ := HS.drew; clear HS; have HS := HS_; clear HS_
        (first | refine' a_dLoad rfl (fun w_ hw_ => hw_) ?_ | refine' a_dLoadC rfl (fun w_ hw_ => hw_) ?_)
        (try simp only [Act.put, List.setIfInBounds_toArray, List.set_cons_zero, List.set_cons_succ])
        refine' a_dSoft rfl ?_
        (try simp only [Act.put, List.setIfInBounds_toArray, List.set_cons_zero, List.set_cons_succ])
        refine' a_dSoft rfl ?_
        (try simp only [Act.put, List.setIfInBounds_toArray, List.set_cons_zero, List.set_cons_succ])
        refine' a_dSoft rfl ?_
        (try simp only [Act.put, List.setIfInBounds_toArray, List.set_cons_zero, List.set_cons_succ])
        (first | refine' a_dLoad rfl (fun w_ hw_ => hw_) ?_ | refine' a_dLoadC rfl (fun w_ hw_ => hw_) ?_)
        (try simp only [Act.put, List.setIfInBounds_toArray, List.set_cons_zero, List.set_cons_succ])
        refine dHard rfl ?_
        refine' st_method ?hw ?hx (nodeWeld M N1.out _ HS.imm) ?_
        case hw => first | rfl | (go_simp; done)
        case hx => first | exact eval_lit rfl | rfl
        rintro e w_ ⟨rfl, hb_⟩
        (have HS_ := HS.call hb_; clear HS hb_; have HS := HS_; clear HS_)
        refine ⟨_, rfl, ?_⟩
        refine lexD_done (fun _ => HS) ?_
        (try simp only [Act.put, List.setIfInBounds_toArray, List.set_cons_zero, List.set_cons_succ])
        refine dHard rfl ?_
        refine' st_call ?hw Tryd.func101 (by kernel_rfl) rfl ?hargs (rboth_any M HG.out pre a1 HB.out _ HS.imm) ?_
        case hw => rfl
        case hargs => first | rfl | (go_simp; done)
        rintro e w_ ⟨rfl, hb_⟩
        (have HS_ := HS.call hb_; clear HS hb_; have HS := HS_; clear HS_)
        refine ⟨_, rfl, ?_⟩
        refine lexD_done (fun _ => HS) ?_
        (try simp only [Act.put, List.setIfInBounds_toArray, List.set_cons_zero, List.set_cons_succ])
        refine dHard rfl ?_
        ((with_reducible refine' q_store ?_); refine' a_store HS ?_; clear HS; intro w_ HS)
        refine lexD_done (fun h => absurd h (by decide)) ?_
        (try simp only [Act.put, List.setIfInBounds_toArray, List.set_cons_zero, List.set_cons_succ])
        refine lexD_end ?_
        go_wp2_with (first | ((with_reducible refine' q_alloc ?_); refine' a_alloc HS ?_; clear HS; intro b_ w_ HS) | ((with_reducible refine' q_box ?_); refine' a_box HS ?_; clear HS; intro b_ w_ HS) | ((with_reducible refine' q_load ?_); refine' a_load HS ?_) | ((with_reducible refine' q_store ?_); refine' a_store HS ?_; clear HS; intro w_ HS))
        have ek : (k' : Int) - a1.length = ((k' - a1.length : Nat) : Int) := by omega
        rw [ek]
        refine ⟨g2, ⟨x2, a2, k' - a1.length, pre ++ a1, _, _, ⟨_, _, _, _, _, _, _, _, _, _, _, _, _, _, _, _, _, _, _, _, _, _, _, _, _, _, _, _, _, _, _, _, _, _, _, _, _, _, _, _, _, _, _, _, _, _, _, _, _, _, _, _, _, _, _, _, _, _, _, _, _, _, _, _, _, _, _, _, rfl⟩, ?_, by omega, fun _ => n2, HS⟩, by omega⟩
        · rw [← HPre.out, List.append_assoc]; congr 1
          rw [List.take_append, List.take_of_length_le (l := a1) (by omega)]
  · obtain rfl : k' = 0 := by omega
    rw [List.take_zero, List.append_nil] at hpre
    subst hpre
    go_wp2_with (first | ((with_reducible refine' q_alloc ?_); refine' a_alloc HS ?_; clear HS; intro b_ w_ HS) | ((with_reducible refine' q_box ?_); refine' a_box HS ?_; clear HS; intro b_ w_ HS) | ((with_reducible refine' q_load ?_); refine' a_load HS ?_) | ((with_reducible refine' q_store ?_); refine' a_store HS ?_; clear HS; intro w_ HS))
    (refine post_cell_tmp (p := 4) (T := 87) rfl HS rfl rfl (by (first | (apply Blk.loc; (repeat (first | (with_reducible exact List.mem_cons_self) | apply List.mem_cons_of_mem)); done) | (apply Blk.imm; with_reducible assumption))) (by exact Eq.refl true) ?_)
    exact ⟨rfl, HS.below⟩
end Go.Proofs.YtbogoehjoglneaaDoor

/- rope.forwards: a node's bytes in pieces, handed to a yield. -/
namespace Go.Proofs.YtbogoehjoglneaaDoor
open Go.RowKit
set_option linter.unusedVariables false
set_option linter.unusedSimpArgs false
set_option maxRecDepth 100000
attribute [local go_sem] byt_drop byt_tail Int.toNat_natCast sOf_size asFork asForkYes asForkNo asTip asTipYes asTipNo

section
variable {P : Program} {ops : Array Oper} {rest : List Oper} {a : Act} {Q : Exit → Act → World → Prop} {w w0 : World} {B : Nat → Prop} {M : Mem} {L : List (Nat × Obj)}
/- string to []byte, the new block one's own. -/
theorem st_conv_sb2 {d : Option Tmp} {S D e ty : TypeId} {x : Operand} {ps : String} {af : Array Edge} {g : Option (Nat × Bool)} {l : List UInt8}
    (hw : Region.wanted { dst := d, op := .convert S D x, type := ty, pos := ps, after := af, guard := g } (yielded ops a.tmps) = true)
    (hs : P.underlying S = some .string) (hd : P.underlying D = some (.slice e)) (he : P.underlying e = some (.int .u8))
    (HS : St B w0 w M L) (hx : a.eval x = .string (sOf l))
    (k : ∀ (b c : Nat) (o : Obj) (w' : World), St B w0 w' M ((b, o) :: L) → w.heap.size ≤ b → (∀ M' : Mem, M' b = some o → BS M' (some ⟨b, 0, none⟩) c l) → wpList P ops Q rest (a.put d (.slice (some ⟨b, 0, none⟩) l.length c)) w') :
    wpList P ops Q ({ dst := d, op := .convert S D x, type := ty, pos := ps, after := af, guard := g } :: rest) a w := by
  refine wpList_ok (v := .slice (some ⟨w.heap.size, 0, none⟩) l.length (grownCap w (sOf l).size 0 e)) (w' := Lib.bytesWorld w e (sOf l)) hw ?_
    (k _ _ (.cells (Lib.bytesCells w e (sOf l)) e ((Lib.bytesCells w e (sOf l)).size, (Lib.bytesCells w e (sOf l)).size + 1)) _ ((HS.call (bytesWorld_below w e _)).newRow HS (Nat.le_refl _) (Lib.bytesWorld_at_new w e _)) (Nat.le_refl _)
      (fun M' h => ⟨?_, (fun h => by cases h), fun ad h' => ?_⟩))
  · simp only [execOp, hx, Sem.run_bind, Lib.run_convert_string_bytes w S D e (sOf l) hs hd he, Result.andThen, Sem.run_pure]
    rw [sOf_size]
  · unfold grownCap Question.cut; rw [sOf_size]; dsimp only; omega
  · cases h'
    refine ⟨rfl, fun i hi => ?_⟩
    unfold cellM
    rw [h]
    simp only [Nat.zero_add, Lib.bytesCells]
    rw [Array.getElem?_append_left (by simp [sOf]; exact hi)]
    simp [sOf, ub, hi]
end

theorem LBytes_own (M : Mem) (p : Nat) (l : List UInt8) (hp : LeafAt M p l) (w : World) (hi : Imm M w) :
    Calls Tryd.prog 126 #[.pointer (some ⟨p, 0, none⟩)] w fun e w' => ∃ b c o, e = .returned (.slice (some ⟨b, 0, none⟩) l.length c) ∧ Below w.heap.size w w' ∧ w.heap.size ≤ b ∧ w'.heap[b]? = some o ∧ ∀ M' : Mem, M' b = some o → BS M' (some ⟨b, 0, none⟩) c l := by
  unfold LeafAt at hp
  (have HS := St.start hi; go_enter Tryd.func126, Tryd.ntmps126)
  go_wp2_with (first | ((with_reducible refine' q_alloc ?_); refine' a_alloc HS ?_; clear HS; intro b_ w_ HS) | ((with_reducible refine' q_box ?_); refine' a_box HS ?_; clear HS; intro b_ w_ HS) | ((with_reducible refine' q_load ?_); refine' a_load HS ?_) | ((with_reducible refine' q_store ?_); refine' a_store HS ?_; clear HS; intro w_ HS) | ((with_reducible refine' st_conv_sb2 (S := 9) (D := 28) (e := 5) ?hw Tryd.underlying9 Tryd.underlying28 Tryd.underlying5 HS ?hx ?_); (case hw => rfl); (case hx => rfl); intro b_ c_ o_ w_ HS_ hb_ hbs_; clear HS; have HS := HS_; clear HS_))
  go_ret
  exact ⟨b_, c_, o_, rfl, HS.below, hb_, HS.loc _ (.head _), hbs_⟩

/- A piece: a slice of new bytes. -/
abbrev Piece := List UInt8
def pieceV : List Piece → Piece → Array Value → List (Nat × Obj) → Prop := fun _ x vs Fr => ∃ b o A c, vs = #[.slice A x.length c] ∧ Fr = [(b, o)] ∧ ∀ M : Mem, M b = some o → BS M A c x

/- A call that hands xs to a yield; true: it may go on. -/
def Gives (M : Mem) (f : Nat) (args : Value → Array Value) (xs : List Piece) : Prop :=
  ∀ (l : Nat) (J Jx : List Piece → (Nat → Prop) → World → Prop) (pre0 : List Piece) (O0 : Nat → Prop) (W0 W : World), Imm M W → (∀ s O W, J s O W → Imm M W) → (∀ s O W, Jx s O W → Imm M W) → J pre0 O0 W0 → Moves O0 W0 W →
    (∀ pre x vs Fr O0 O1 W0 W1, (pre ++ [x]) <+: pre0 ++ xs → J pre O0 W0 → Moves O0 W0 W1 → Grown O0 O1 W0 W1 → pieceV pre x vs Fr → Fresh Fr O1 W0 W1 →
      YieldAt Fence.wide 0 Tryd.prog l vs W1 fun e W' => (e = .returned (.bool true) ∧ J (pre ++ [x]) O1 W' ∧ Keeps O1 W1 W') ∨ (e = .returned (.bool false) ∧ Jx (pre ++ [x]) O1 W')) →
    Calls Tryd.prog f (args (.func (.yield l) #[] #[])) W fun e W' => (e = .returned (.bool true) ∧ ∃ O1 W1, Moves O1 W1 W' ∧ J (pre0 ++ xs) O1 W1 ∧ Imm M W') ∨ (e = .returned (.bool false) ∧ ∃ pre O1 W1, pre <+: pre0 ++ xs ∧ Moves O1 W1 W' ∧ Jx pre O1 W1 ∧ Imm M W')

theorem Mem.one_le {M : Mem} {b : Nat} {o : Obj} (h : M b = some o) : (Mem.add (fun _ => none) b o).le M := fun k x e => by
  unfold Mem.add at e
  split at e
  · rename_i hk; subst hk; rw [h]; exact e
  · cases e
theorem St.ofMoves {O : Nat → Prop} {W W' : World} {M : Mem} (h : Moves O W W') (hi : Imm M W') : St (fun k => O k ∨ W.heap.size ≤ k) W W' M [] :=
  ⟨h.more fun k _ ho => .inl ho, hi, fun _ h => (by cases h), fun _ h => (by cases h), List.nodup_nil, fun _ h => .inr h⟩

set_option maxHeartbeats 4000000 in
theorem fwd_tip (M : Mem) (p : Nat) (l : List UInt8) (hp : LeafAt M p l) (f : Nat) (hm : (l.length : Int) ≤ 268435456) (hf : (f : Int) ≤ 268435456) :
    Gives M 106 (fun y => #[.iface 182 (.agg #[ptr p]), .int .i64 f, y]) (if f < l.length then [l.drop f] else []) := by
  intro l0 J Jx pre0 O0 W0 W hi hJi hJxi hJ hM hY
  have HP := Lib.hid hp; clear hp
  have HY := Lib.hid hY; clear hY
  have HJi := Lib.hid hJi; clear hJi
  have HS := St.ofMoves hM hi
  by_cases hlt : (f : Int) < l.length
  · have hlt' : f < l.length := by omega
    rw [if_pos hlt'] at HY ⊢
    go_enter Tryd.func106, Tryd.ntmps106
    repeat' (first | ((with_reducible refine' wp_region_yield (id := 5) 9 ?hd ?hno ?_); (case hd => rfl); (case hno => (rintro ⟨_, _, h⟩; first | exact (h : False) | exact (h : (∃ v, Ending.outgrown = Ending.returned v) ∧ _).1.elim (fun v hv => nomatch hv) | exact (h : Ending.outgrown = Ending.returned _ ∧ _).1.elim | exact (h : (Ending.outgrown = Ending.returned _ ∧ _) ∨ (Ending.outgrown = Ending.returned _ ∧ _)).elim (fun h => nomatch h.1) (fun h => nomatch h.1))); intro K_ hK_; simp only [List.take_succ_cons, List.take_zero, List.drop_succ_cons, List.drop_zero] at hK_ ⊢) | ((with_reducible refine' q_alloc ?_); refine' a_alloc HS ?_; clear HS; intro b_ w_ HS) | ((with_reducible refine' q_box ?_); refine' a_box HS ?_; clear HS; intro b_ w_ HS) | ((with_reducible refine' q_load ?_); refine' a_load HS ?_) | ((with_reducible refine' q_store ?_); refine' a_store HS ?_; clear HS; intro w_ HS) | ((with_reducible refine' st_slice_bs (S := 28) (e := 5) (i := f) (j := l.length) ?hw Tryd.underlying28 (by kernel_rfl) ?hx ?hb ?hn ?hij ?_); (case hw => first | rfl | (go_simp; done)); (case hx => first | exact eval_lit rfl | rfl); (case hb => assumption); (case hn => (first | rfl | omega | (simp; done) | (simp; omega))); (case hij => first | exact ⟨rfl, rfl, by omega, by omega⟩ | fail); intro A_ hA_) | (go_at_call 126; (with_reducible refine (LBytes_own M p l HP.out _ HS.imm).mono ?_); rintro e w_ ⟨b, c, o, rfl, hb1, hb2, hb3, hb4⟩; have hs1 := HS.moved.size; have HS_ := (HS.call hb1).newRow HS hb2 hb3; clear HS; have HS := HS_; clear HS_; have hbs := hb4 (Mem.add (fun _ => none) b o) (Mem.add_same _ _ _)) | go_values | go_skip | go_guarded | go_step | go_upon | go_back | (simp only [Int.not_lt, Int.not_le] at *; go_simp) | (go_values <;> (try go_simp)) | (go_ite <;> go_prune <;> (try go_simp)) | (split <;> (first | (rename_i hx; exact (hx _ rfl).elim) | go_prune)))
    rw [List.take_length] at hA_
    have hFr : Fresh [(b, o)] (fun k => k ∈ List.map Prod.fst [(b_, Obj.cells [ptr p].toArray 182 (0, 0))]) W0 w_ :=
      ⟨fun q hq => by
        rw [List.mem_singleton] at hq
        subst hq
        exact ⟨Nat.le_trans hs1 hb2, (List.nodup_cons.1 HS.nodup).1, HS.loc _ (.head _)⟩, by simp⟩
    ((with_reducible refine' st_yield ?hw ?hx ?hargs ?hd ?hno ?hy ?_); (case hw => first | rfl | (go_simp; done)); (case hx => first | exact eval_lit rfl | rfl); (case hy => exact HY.out pre0 (l.drop f) #[.slice A_ (l.length - f) (c - f)] [(b, o)] O0 _ W0 _ (List.prefix_refl _) hJ HS.movesO HS.drop.grown ⟨b, o, A_, c - f, by rw [List.length_drop], rfl, fun M' h => hA_.mono (Mem.one_le h)⟩ hFr); (case hargs => first | (go_simp; done) | rfl); (case hd => rfl); (case hno => (rintro ⟨_, _, h⟩; first | exact (h : False) | exact (h : (∃ v, Ending.outgrown = Ending.returned v) ∧ _).1.elim (fun v hv => nomatch hv) | exact (h : Ending.outgrown = Ending.returned _ ∧ _).1.elim | exact (h : (Ending.outgrown = Ending.returned _ ∧ _) ∨ (Ending.outgrown = Ending.returned _ ∧ _)).elim (fun h => nomatch h.1) (fun h => nomatch h.1))))
    rintro e W' (⟨rfl, hJ', hK⟩ | ⟨rfl, hJx⟩)
    · refine ⟨_, rfl, ?_⟩
      go_wp2_with fail
      go_ret
      exact .inl ⟨rfl, _, _, Moves.refl _ _, hJ', HJi.out _ _ _ hJ'⟩
    · refine ⟨_, rfl, ?_⟩
      go_wp2_with fail
      go_ret
      exact .inr ⟨by simp [show ¬ l.length ≤ f from by omega], _, _, _, List.prefix_refl _, Moves.refl _ _, hJx, hJxi _ _ _ hJx⟩
  · rw [if_neg (by omega)] at HY ⊢
    go_enter Tryd.func106, Tryd.ntmps106
    go_wp2_with (first | ((with_reducible refine' q_alloc ?_); refine' a_alloc HS ?_; clear HS; intro b_ w_ HS) | ((with_reducible refine' q_box ?_); refine' a_box HS ?_; clear HS; intro b_ w_ HS) | ((with_reducible refine' q_load ?_); refine' a_load HS ?_) | ((with_reducible refine' q_store ?_); refine' a_store HS ?_; clear HS; intro w_ HS) | (go_at_call 126; (with_reducible refine (LBytes_own M p l HP.out _ HS.imm).mono ?_); rintro e w_ ⟨b, c, o, rfl, hb1, hb2, hb3, hb4⟩; have HS_ := (HS.call hb1); clear HS; have HS := HS_; clear HS_))
    go_ret
    exact .inl ⟨rfl, _, _, HS.movesO, by rw [List.append_nil]; exact hJ, HS.imm⟩

set_option maxHeartbeats 4000000 in
theorem fwd_fork2 (M : Mem) (p : Nat) (va vb : Value) (a b : List UInt8) (ha hb : Nat) (na : Node M va a ha) (nb : Node M vb b hb) (hM : M p = some (.cells (forkC va vb (a ++ b) (1 + max ha hb)).toArray 186 (0, 0))) (hm : ((a ++ b).length : Int) ≤ 268435456) (f : Nat) (hf : (f : Int) ≤ 268435456) (hlt : a.length ≤ f) (x2 : List Piece)
    (g2 : Gives M 106 (fun y => #[vb, .int .i64 (f - a.length : Nat), y]) x2) : Gives M 106 (fun y => #[.iface 184 (ptr p), .int .i64 f, y]) x2 := by
  intro l0 J Jx pre0 O0 W0 W hi hJi hJxi hJ hMv hY
  have ek : ((f - a.length : Nat) : Int) = (f : Int) - a.length := by omega
  have hc := fun W1 hi1 hMv1 => g2 l0 J Jx pre0 O0 W0 W1 hi1 hJi hJxi hJ hMv1 hY
  rw [ek] at hc
  have HC := Lib.hid hc; clear ek
  have NA := Lib.hid na; clear na
  have hl : (a ++ b).length = a.length + b.length := List.length_append
  have h1 : ¬ ((f : Int) < a.length) := by omega
  have h2 : ¬ ((f : Int) - a.length < 0) := by omega
  have h3 : (0 : Int) ≤ (f : Int) - a.length := by omega
  have h4 : (a.length : Int) ≤ 268435456 := by omega
  clear hl hY
  by_cases hz : a.length < f
  · clear hc
    have HS := St.ofMoves hMv hi
    go_enter Tryd.func106, Tryd.ntmps106
    go_wp2_with (first | ((with_reducible refine' q_alloc ?_); refine' a_alloc HS ?_; clear HS; intro b_ w_ HS) | ((with_reducible refine' q_box ?_); refine' a_box HS ?_; clear HS; intro b_ w_ HS) | ((with_reducible refine' q_load ?_); refine' a_load HS ?_) | ((with_reducible refine' q_store ?_); refine' a_store HS ?_; clear HS; intro w_ HS) | ((with_reducible refine' st_method ?hw ?hx (nodeSize M NA.out _ HS.imm) ?_); (case hw => first | rfl | (go_simp; done)); (case hx => first | exact eval_lit rfl | rfl); rintro e w_ ⟨rfl, hb_⟩; have HS_ := HS.call hb_; clear HS hb_; have HS := HS_; clear HS_; refine ⟨_, rfl, ?_⟩) | (go_at_call 106; (with_reducible refine (HC.out _ HS.imm HS.movesO).mono ?_); rintro e w_ (⟨rfl, O1, W1, q1, q2, q3⟩ | ⟨rfl, pre, O1, W1, q1, q2, q3, q4⟩)))
    · go_ret
      exact .inl ⟨rfl, O1, W1, q1, q2, q3⟩
    · go_ret
      exact .inr ⟨rfl, pre, O1, W1, q1, q2, q3, q4⟩
  · have ez : (f : Int) - a.length = 0 := by omega
    rw [ez] at hc
    clear HC; have HC := Lib.hid hc
    clear hc
    have HS := St.ofMoves hMv hi
    go_enter Tryd.func106, Tryd.ntmps106
    go_wp2_with (first | ((with_reducible refine' q_alloc ?_); refine' a_alloc HS ?_; clear HS; intro b_ w_ HS) | ((with_reducible refine' q_box ?_); refine' a_box HS ?_; clear HS; intro b_ w_ HS) | ((with_reducible refine' q_load ?_); refine' a_load HS ?_) | ((with_reducible refine' q_store ?_); refine' a_store HS ?_; clear HS; intro w_ HS) | ((with_reducible refine' st_method ?hw ?hx (nodeSize M NA.out _ HS.imm) ?_); (case hw => first | rfl | (go_simp; done)); (case hx => first | exact eval_lit rfl | rfl); rintro e w_ ⟨rfl, hb_⟩; have HS_ := HS.call hb_; clear HS hb_; have HS := HS_; clear HS_; refine ⟨_, rfl, ?_⟩) | (go_at_call 106; (with_reducible refine (HC.out _ HS.imm HS.movesO).mono ?_); rintro e w_ (⟨rfl, O1, W1, q1, q2, q3⟩ | ⟨rfl, pre, O1, W1, q1, q2, q3, q4⟩)))
    · go_ret
      exact .inl ⟨rfl, O1, W1, q1, q2, q3⟩
    · go_ret
      exact .inr ⟨rfl, pre, O1, W1, q1, q2, q3, q4⟩

set_option maxHeartbeats 4000000 in
theorem fwd_fork1 (M : Mem) (p : Nat) (va vb : Value) (a b : List UInt8) (ha hb : Nat) (na : Node M va a ha) (nb : Node M vb b hb) (hM : M p = some (.cells (forkC va vb (a ++ b) (1 + max ha hb)).toArray 186 (0, 0))) (hm : ((a ++ b).length : Int) ≤ 268435456) (f : Nat) (hlt : f < a.length) (x1 x2 : List Piece)
    (g1 : Gives M 106 (fun y => #[va, .int .i64 f, y]) x1) (g2 : Gives M 106 (fun y => #[vb, .int .i64 0, y]) x2) : Gives M 106 (fun y => #[.iface 184 (ptr p), .int .i64 f, y]) (x1 ++ x2) := by
  intro l0 J Jx pre0 O0 W0 W hi hJi hJxi hJ hMv hY
  have hc1 := fun W1 hi1 hMv1 => g1 l0 J Jx pre0 O0 W0 W1 hi1 hJi hJxi hJ hMv1 (fun pre x vs Fr O0 O1 W0 W1 hp => hY pre x vs Fr O0 O1 W0 W1 (hp.trans (by rw [← List.append_assoc]; exact List.prefix_append _ _)))
  have hc2 := fun O0 W0 W1 hi1 hJ hMv1 => g2 l0 J Jx (pre0 ++ x1) O0 W0 W1 hi1 hJi hJxi hJ hMv1 (by rw [List.append_assoc]; exact hY)
  have HC1 := Lib.hid hc1; clear hc1
  have HC2 := Lib.hid hc2; clear hc2
  have NA := Lib.hid na; clear na
  have hl : (a ++ b).length = a.length + b.length := List.length_append
  have h1 : (f : Int) < a.length := by omega
  have h2 : (f : Int) - a.length < 0 := by omega
  have h4 : (a.length : Int) ≤ 268435456 := by omega
  have HJi := Lib.hid hJi; clear hJi
  clear hl hY hlt
  have HS := St.ofMoves hMv hi
  go_enter Tryd.func106, Tryd.ntmps106
  go_wp2_with (first | ((with_reducible refine' q_alloc ?_); refine' a_alloc HS ?_; clear HS; intro b_ w_ HS) | ((with_reducible refine' q_box ?_); refine' a_box HS ?_; clear HS; intro b_ w_ HS) | ((with_reducible refine' q_load ?_); refine' a_load HS ?_) | ((with_reducible refine' q_store ?_); refine' a_store HS ?_; clear HS; intro w_ HS) | ((with_reducible refine' st_method ?hw ?hx (nodeSize M NA.out _ HS.imm) ?_); (case hw => first | rfl | (go_simp; done)); (case hx => first | exact eval_lit rfl | rfl); rintro e w_ ⟨rfl, hb_⟩; have HS_ := HS.call hb_; clear HS hb_; have HS := HS_; clear HS_; refine ⟨_, rfl, ?_⟩) | (go_at_call 106; (with_reducible refine (HC1.out _ HS.imm HS.movesO).mono ?_); rintro e w_ (⟨rfl, O1, W1, q1, q2, q3⟩ | ⟨rfl, pre, O1, W1, q1, q2, q3, q4⟩); (first | (have HS_ := St.ofMoves q1 q3; clear HS; have HS := HS_; clear HS_) | skip)) | (go_at_call 106; (with_reducible refine (HC2.out O1 W1 _ HS.imm q2 HS.movesO).mono ?_); rintro e w_ (⟨rfl, O2, W2, r1, r2, r3⟩ | ⟨rfl, pre, O2, W2, r1, r2, r3, r4⟩)))
  · go_ret
    exact .inl ⟨rfl, O2, W2, r1, by rw [← List.append_assoc]; exact r2, r3⟩
  · go_ret
    exact .inr ⟨rfl, pre, O2, W2, by rw [← List.append_assoc]; exact r1, r2, r3, r4⟩
  · go_ret
    exact .inr ⟨rfl, pre, O1, W1, q1.trans (by rw [← List.append_assoc]; exact List.prefix_append _ _), q2, q3, q4⟩

theorem fwd_any (M : Mem) {v : Value} {l : List UInt8} {h : Nat} (n : Node M v l h) (hm : (l.length : Int) ≤ 268435456) : ∀ f : Nat, (f : Int) ≤ 268435456 → ∃ xs : List Piece, xs.flatten = l.drop f ∧ (∀ x ∈ xs, x ≠ []) ∧ Gives M 106 (fun y => #[v, .int .i64 f, y]) xs := by
  induction n with
  | tip p l hp h0 h1 =>
    intro f hf
    refine ⟨_, ?_, ?_, fwd_tip M p l hp f hm hf⟩
    · split
      · simp
      · rw [List.drop_of_length_le (by omega)]; rfl
    · split
      · intro x hx
        rw [List.mem_singleton] at hx
        subst hx
        intro e
        have := congrArg List.length e
        simp at this; omega
      · intro x hx; cases hx
  | fork p va vb a b ha hb na nb hM iha ihb =>
    intro f hf
    have hl : (a ++ b).length = a.length + b.length := List.length_append
    by_cases hlt : f < a.length
    · obtain ⟨x1, e1, q1, g1⟩ := iha (by omega) f hf
      obtain ⟨x2, e2, q2, g2⟩ := ihb (by omega) 0 (by omega)
      refine ⟨x1 ++ x2, ?_, fun x hx => (List.mem_append.1 hx).elim (q1 x) (q2 x), fwd_fork1 M p va vb a b ha hb na nb hM hm f hlt x1 x2 g1 g2⟩
      rw [List.flatten_append, e1, e2, List.drop_zero, List.drop_append_of_le_length (by omega)]
    · obtain ⟨x2, e2, q2, g2⟩ := ihb (by omega) (f - a.length) (by omega)
      refine ⟨x2, ?_, q2, fwd_fork2 M p va vb a b ha hb na nb hM hm f hf (by omega) x2 g2⟩
      rw [e2, List.drop_append, List.drop_of_length_le (l := a) (by omega)]; rfl
end Go.Proofs.YtbogoehjoglneaaDoor

/- rope.Pieces, forwards: an iterator over a rope's bytes. -/
namespace Go.Proofs.YtbogoehjoglneaaDoor
open Go.RowKit
set_option linter.unusedVariables false
set_option linter.unusedSimpArgs false
set_option maxRecDepth 100000
theorem asTipNil (w : World) : (Instr.typeAssert .nilIface 148 182 true).run Tryd.prog w = .ok (.tuple #[.agg #[.pointer none], .bool false]) w := by kernel_rfl
theorem asForkNil (w : World) : (Instr.typeAssert .nilIface 148 184 true).run Tryd.prog w = .ok (.tuple #[.pointer none, .bool false]) w := by kernel_rfl
attribute [local go_sem] byt_drop byt_tail Int.toNat_natCast sOf_size asFork asForkYes asForkNo asTip asTipYes asTipNo asTipNil asForkNil

theorem dLoadI {P : Program} {ops : List Oper} {Q : Exit → Act → World → Prop} {S : World → Prop} {brk : Nat → Bool} {r : List (Bool × Nat)} {i : Nat} {a : Act} {w : World} {d : Option Tmp} {T ty : TypeId} {x : Operand} {ps : String} {af : Array Edge} {g : Option (Nat × Bool)} {agg : Bool} {z : List Value} [TI P T agg z] {M : Mem} {b off : Nat} {cl : List Value} {t : TypeId} {fr : Nat × Nat} {v : Value}
    (hi : nth ops i = some { dst := d, op := .load T x, type := ty, pos := ps, after := af, guard := g }) (hw : Region.wanted { dst := d, op := .load T x, type := ty, pos := ps, after := af, guard := g } (yielded ops.toArray a.tmps) = true)
    (HI : ∀ w, S w → Imm M w) (hx : a.eval x = .pointer (some ⟨b, off, Option.none⟩)) (hb : M b = some (.cells cl.toArray t fr)) (hv : ldv agg z.length cl off = some v)
    (k : lexD P ops.toArray Q S brk r (a.put d v) w) : lexD P ops.toArray Q S brk ((true, i) :: r) a w :=
  dSoft hi hw (fun w h => yields_load (St.start (HI w h)) hx (.imm hb) hv) k

theorem fwd_nil (M : Mem) (f : Nat) : Gives M 106 (fun y => #[.nilIface, .int .i64 f, y]) [] := by
  intro l0 J Jx pre0 O0 W0 W hi hJi hJxi hJ hMv hY
  have HS := St.ofMoves hMv hi
  clear hY hJi hJxi
  go_enter Tryd.func106, Tryd.ntmps106
  go_wp2_with (first | ((with_reducible refine' q_alloc ?_); refine' a_alloc HS ?_; clear HS; intro b_ w_ HS) | ((with_reducible refine' q_box ?_); refine' a_box HS ?_; clear HS; intro b_ w_ HS) | ((with_reducible refine' q_load ?_); refine' a_load HS ?_) | ((with_reducible refine' q_store ?_); refine' a_store HS ?_; clear HS; intro w_ HS))
  go_ret
  exact .inl ⟨rfl, O0, W0, HS.movesO, by rw [List.append_nil]; exact hJ, HS.imm⟩

theorem fwdN_any (M : Mem) {v : Value} {l : List UInt8} (n : NodeN M v l) (hm : (l.length : Int) ≤ 268435456) (f : Nat) (hf : (f : Int) ≤ 268435456) : ∃ xs : List Piece, xs.flatten = l.drop f ∧ (∀ x ∈ xs, x ≠ []) ∧ Gives M 106 (fun y => #[v, .int .i64 f, y]) xs := by
  rcases n with ⟨rfl, rfl⟩ | ⟨h, n⟩
  · exact ⟨[], by simp, fun x hx => (by cases hx), fwd_nil M f⟩
  · exact fwd_any M n hm f hf

theorem Pieces1_seq (M : Mem) (r : Nat) (l : List UInt8) (hr : RopeAt M r l) (b1 b2 b3 : Nat) (f : Nat) (hf : f ≤ l.length)
    (h1 : M b1 = some (.cells [ptr r].toArray 27 (0, 0))) (h2 : M b2 = some (.cells [.int .i64 f].toArray 3 (0, 0))) (h3 : M b3 = some (.cells [.bool false].toArray 4 (0, 0))) :
    ∃ xs : List Piece, xs.flatten = l.drop f ∧ (∀ x ∈ xs, x ≠ []) ∧ SeqC Tryd.prog M 104 #[ptr b1, ptr b2, ptr b3] xs pieceV := by
  have HR := Lib.hid hr
  have hfi : (f : Int) ≤ l.length := by omega
  obtain ⟨⟨top, hM, n⟩, hs⟩ := hr
  obtain ⟨xs, e1, e2, g⟩ := fwdN_any M n hs f (by omega)
  refine ⟨xs, e1, e2, ?_⟩
  intro l0 J Jx W hi hJ hJx h0 hY
  refine (callsIn_wide (n := 0)).2 ?_
  have hc := fun W1 hi1 hMv1 => (g l0 J Jx [] (fun _ => False) W W1 hi1 hJ hJx h0 hMv1 hY).mono (R' := fun e W' => ∃ bv, e = .returned (.bool bv) ∧ ∃ O0 W0, Moves O0 W0 W' ∧ (J xs O0 W0 ∨ ∃ pre, pre <+: xs ∧ Jx pre O0 W0) ∧ Imm M W') (by
    rintro e W' (⟨rfl, O1, W1, q1, q2, q3⟩ | ⟨rfl, pre, O1, W1, q1, q2, q3, q4⟩)
    · exact ⟨_, rfl, O1, W1, q1, .inl q2, q3⟩
    · exact ⟨_, rfl, O1, W1, q2, .inr ⟨pre, q1, q3⟩, q4⟩)
  have HC := Lib.hid hc; clear hc hY g
  have HS := St.start' hi
  go_enter Tryd.func104, Tryd.ntmps104
  go_wp2_with (first | ((with_reducible refine' q_alloc ?_); refine' a_alloc HS ?_; clear HS; intro b_ w_ HS) | ((with_reducible refine' q_box ?_); refine' a_box HS ?_; clear HS; intro b_ w_ HS) | ((with_reducible refine' q_load ?_); refine' a_load HS ?_) | ((with_reducible refine' q_store ?_); refine' a_store HS ?_; clear HS; intro w_ HS) | (go_at_call 84; (with_reducible refine (rplace_in M r l HR.out f (by omega) hfi _ HS.imm).mono ?_); rintro e w_ ⟨rfl, hb_⟩; have HS_ := HS.call hb_; clear HS hb_; have HS := HS_; clear HS_))
  refine wp_region_plan [] [(true, 0), (true, 1), (true, 2), (true, 3), (true, 4), (true, 5), (false, 6)] (fun W_ => Imm M W_) (by kernel_rfl) (by kernel_rfl) rfl (by kernel_rfl) (HS).drew.imm ?_
  have HS_ := HS.drew; clear HS; have HS := HS_; clear HS_
  (refine' dLoadI rfl ?hw (fun w_ hw_ => hw_) ?hx ?hM ?hv ?_; (case hw => first | rfl | go_simp); (case hx => first | exact eval_lit rfl | rfl); (case hM => with_reducible assumption); (case hv => (simp only [ldv, List.length_cons, List.length_nil, List.drop_succ_cons, List.drop_zero, List.take_succ_cons, List.take_zero, List.getElem?_cons_succ, List.getElem?_cons_zero, Nat.reduceAdd, Nat.reduceMul, Nat.reduceLeDiff, Int.toNat_natCast, Int.toNat_zero, Int.toNat_one, Int.reduceToNat, Bool.false_eq_true, if_true, if_false, Nat.zero_add, Nat.zero_mul, Nat.one_mul]; exact rfl)))
  refine' a_dSoft rfl ?_
  (try simp only [Act.put, List.setIfInBounds_toArray, List.set_cons_zero, List.set_cons_succ])
  refine' a_dSoft rfl ?_
  (try simp only [Act.put, List.setIfInBounds_toArray, List.set_cons_zero, List.set_cons_succ])
  (refine' dLoadI rfl ?hw (fun w_ hw_ => hw_) ?hx ?hM ?hv ?_; (case hw => first | rfl | go_simp); (case hx => first | exact eval_lit rfl | rfl); (case hM => with_reducible assumption); (case hv => (simp only [ldv, List.length_cons, List.length_nil, List.drop_succ_cons, List.drop_zero, List.take_succ_cons, List.take_zero, List.getElem?_cons_succ, List.getElem?_cons_zero, Nat.reduceAdd, Nat.reduceMul, Nat.reduceLeDiff, Int.toNat_natCast, Int.toNat_zero, Int.toNat_one, Int.reduceToNat, Bool.false_eq_true, if_true, if_false, Nat.zero_add, Nat.zero_mul, Nat.one_mul]; exact rfl)))
  (refine' dLoadI rfl ?hw (fun w_ hw_ => hw_) ?hx ?hM ?hv ?_; (case hw => first | rfl | go_simp); (case hx => first | exact eval_lit rfl | rfl); (case hM => with_reducible assumption); (case hv => (simp only [ldv, List.length_cons, List.length_nil, List.drop_succ_cons, List.drop_zero, List.take_succ_cons, List.take_zero, List.getElem?_cons_succ, List.getElem?_cons_zero, Nat.reduceAdd, Nat.reduceMul, Nat.reduceLeDiff, Int.toNat_natCast, Int.toNat_zero, Int.toNat_one, Int.reduceToNat, Bool.false_eq_true, if_true, if_false, Nat.zero_add, Nat.zero_mul, Nat.one_mul]; exact rfl)))
  refine' a_dSoft rfl ?_
  (try simp only [Act.put, List.setIfInBounds_toArray, List.set_cons_zero, List.set_cons_succ])
  refine dHard rfl ?_
  refine' st_call ?hw Tryd.func106 (by kernel_rfl) rfl ?hargs (HC.out _ HS.imm HS.movesO) ?_
  case hw => rfl
  case hargs => first | rfl | (go_simp; done)
  rintro e w_ ⟨bv, rfl, O0, W0, q1, q2, q3⟩
  refine ⟨_, rfl, ?_⟩
  refine lexD_done (fun _ => q3) ?_
  (try simp only [Act.put, List.setIfInBounds_toArray, List.set_cons_zero, List.set_cons_succ])
  refine lexD_end ?_
  go_wp2_with fail
  go_end0
  exact ⟨⟨_, rfl⟩, O0, W0, q1, q2⟩

theorem Pieces_any (M : Mem) (r : Nat) (f : Nat) (w : World) (hi : Imm M w) :
    Calls Tryd.prog 85 #[ptr r, .int .i64 f, .bool false] w fun e w' => ∃ b1 b2 b3 M', e = .returned (.func (.func 104) #[] #[ptr b1, ptr b2, ptr b3]) ∧ Grew M M' w w' ∧
      M' b1 = some (.cells [ptr r].toArray 27 (0, 0)) ∧ M' b2 = some (.cells [.int .i64 f].toArray 3 (0, 0)) ∧ M' b3 = some (.cells [.bool false].toArray 4 (0, 0)) := by
  (have HS := St.start hi; go_enter Tryd.func85, Tryd.ntmps85)
  go_wp2_with (first | ((with_reducible refine' q_alloc ?_); refine' a_alloc HS ?_; clear HS; intro b_ w_ HS) | ((with_reducible refine' q_box ?_); refine' a_box HS ?_; clear HS; intro b_ w_ HS) | ((with_reducible refine' q_load ?_); refine' a_load HS ?_) | ((with_reducible refine' q_store ?_); refine' a_store HS ?_; clear HS; intro w_ HS))
  have k1 := HS.base _ (.head _)
  have HS1 := HS.keep
  have k2 := HS1.base _ (.head _)
  have HS2 := HS1.keep
  have k3 := HS2.base _ (.head _)
  have HS3 := HS2.keep
  go_ret
  refine ⟨_, _, _, _, rfl, ⟨HS3.below, Mem.le_trans (Mem.le_add k1.2) (Mem.le_trans (Mem.le_add k2.2) (Mem.le_add k3.2)), Mem.fresh_trans (Mem.fresh_add k1.1) (Mem.fresh_trans (Mem.fresh_add k2.1) (Mem.fresh_add k3.1) (Nat.le_refl _)) (Nat.le_refl _), HS3.imm⟩, Mem.add_same _ _ _, Mem.le_add k3.2 _ _ (Mem.add_same _ _ _), Mem.le_add k3.2 _ _ (Mem.le_add k2.2 _ _ (Mem.add_same _ _ _))⟩
end Go.Proofs.YtbogoehjoglneaaDoor

/- rope.Bytes: the bytes between two places. -/
namespace Go.Proofs.YtbogoehjoglneaaDoor
open Go.RowKit
set_option linter.unusedVariables false
set_option linter.unusedSimpArgs false
set_option maxRecDepth 100000
attribute [local go_sem] byt_drop byt_tail Int.toNat_natCast sOf_size

theorem ub_one (l : List UInt8) : ∀ u ∈ l.map ub, u.oneCell' = true := fun u hu => by
  obtain ⟨x, _, rfl⟩ := List.mem_map.1 hu; rfl
theorem flatten_prefix {α : Type} {pre xs : List (List α)} (h : pre <+: xs) : pre.flatten <+: xs.flatten := by
  obtain ⟨t, rfl⟩ := h
  rw [List.flatten_append]; exact List.prefix_append _ _

def BytesF (bo bu bl lo up : Nat) (pre : List Piece) (L : List (Nat × Obj)) : Prop :=
  ∃ v Lx, L = (bo, .cells [v].toArray 28 (0, 0)) :: (bu, .cells [.int .i64 up].toArray 3 (0, 0)) :: (bl, .cells [.int .i64 lo].toArray 3 (0, 0)) :: Lx ∧ Row 5 1 v pre.flatten.length (pre.flatten.map ub) Lx ∧ pre.flatten.length ≤ up - lo
def BytesX (bo bu bl lo up : Nat) (c : Code) (pre : List Piece) (L : List (Nat × Obj)) : Prop :=
  c = .exit 0 ∧ ∃ v Lx, L = (bo, .cells [v].toArray 28 (0, 0)) :: (bu, .cells [.int .i64 up].toArray 3 (0, 0)) :: (bl, .cells [.int .i64 lo].toArray 3 (0, 0)) :: Lx ∧ Row 5 1 v (up - lo) ((pre.flatten.take (up - lo)).map ub) Lx ∧ up - lo ≤ pre.flatten.length

set_option maxHeartbeats 4000000 in
theorem RBytes_any (M : Mem) (r : Nat) (l : List UInt8) (hr : RopeAt M r l) (lo up : Nat) (h1 : lo ≤ up) (h2 : up ≤ l.length) (w : World) (hi : Imm M w) :
    Calls Tryd.prog 50 #[ptr r, .int .i64 lo, .int .i64 up] w fun e w' => ∃ A c M', e = .returned (.tuple #[.slice A (up - lo : Nat) c, .int .i64 0]) ∧ Grew M M' w w' ∧ BS M' A c ((l.take up).drop lo) := by
  have HR := Lib.hid hr
  have hm := hr.small
  clear hr
  have h1' : (lo : Int) ≤ up := by omega
  have h2' : (up : Int) ≤ l.length := by omega
  have HH1 := Lib.hid h1; clear h1
  have HH2 := Lib.hid h2; clear h2
  (have HS := St.start hi; refine calls_of_marks Tryd.func50 rfl ?_; simp only [Tryd.ntmps50, List.size_toArray, List.length_cons, List.length_nil, Nat.reduceAdd, Nat.reduceSub, Array.replicate_succ, Array.replicate_zero, List.push_toArray, List.append_toArray, List.nil_append, List.cons_append])
  go_wp2_with (first | ((with_reducible refine' q_alloc ?_); refine' a_alloc HS ?_; clear HS; intro b_ w_ HS) | ((with_reducible refine' q_box ?_); refine' a_box2 HS ?_; clear HS; intro b_ w_ HS) | ((with_reducible refine' q_load ?_); refine' a_load HS ?_) | ((with_reducible refine' q_store ?_); refine' a_store2 HS ?_; clear HS; intro w_ HS) | (go_at_call 84; (with_reducible refine (rplace_in M r l HR.out up (by omega) (by omega) _ HS.imm).mono ?_); rintro e w_ ⟨rfl, hb_⟩; have HS_ := HS.call hb_; clear HS hb_; have HS := HS_; clear HS_) | (((with_reducible refine' st_make (n := up - lo) HS ?hw ?h1 ?h2 ?h3 ?hm ?_); (case hw => rfl); (case h1 => first | exact eval_lit rfl | rfl); (case h2 => first | exact eval_lit rfl | rfl); (case h3 => omega); (case hm => omega); intro v_ g_ o_ w_ HRow HS_; clear HS; have HS := HS_; clear HS_); obtain ⟨Ar_, cr_, rfl⟩ := HRow.shape) | (go_at_call 85; (with_reducible refine (Pieces_any M r lo _ HS.imm).mono ?_); rintro e w_ ⟨b1, b2, b3, M1, rfl, hg1, q1, q2, q3⟩; have hs_hg1 := HS.moved.size; have HS_ := HS.callM hg1.below hg1.fresh hg1.imm; clear HS; have HS := HS_; clear HS_))
  have HS_ := HS.perm (.cons _ (List.perm_append_comm (l₁ := [_]) (l₂ := [_, _]))); clear HS; have HS := HS_; clear HS_
  rw [List.cons_append, List.cons_append, List.nil_append] at HS
  rename_i bl _ bu _ _ _ _ _ _ _ _
  obtain ⟨xs, hx1, hx2, hseq⟩ := Pieces1_seq M1 r l (HR.out.mono hg1.le) b1 b2 b3 lo (by omega) q1 q2 q3
  have HX := Lib.hid hx1; clear hx1
  have hM1 := hg1.le
  refine' wp_rangeC HS rfl (enters_of Tryd.func104 (by kernel_rfl) rfl) hseq ?hps
    (BytesF b_ bu bl lo up) (BytesX b_ bu bl lo up) ?h0 ?hround ?hdone ?hstop
  case h0 => exact ⟨_, _, rfl, HRow, Nat.zero_le _⟩
  case hps => rintro _ _ _ _ ⟨b, o, A, c, rfl, _⟩; rfl
  case hround =>
    clear HS HRow
    intro lp D o1 o2 pre x vs Fr L' M2 W K hpre hΦ hV hle1 HS hK
    obtain ⟨bp, op, Ap, cp, rfl, rfl, hbs⟩ := hV
    obtain ⟨v, Lx, rfl, HRow, hlen⟩ := hΦ
    obtain ⟨Ar_, cr_, rfl⟩ := HRow.shape
    have HS1 := HS.perm (List.Perm.trans (.cons _ (.swap _ _ _)) (.swap _ _ _))
    have kb := (HS1.base _ (.head _)).2
    have HS_ := HS1.keep; clear HS HS1; have HS := HS_; clear HS_
    have hb3 := hbs _ (Mem.add_same M2 bp op)
    have hle3 := Mem.le_add (o := op) kb
    clear hbs kb
    obtain ⟨M3, hM3⟩ : ∃ M3, M3 = M2.add bp op := ⟨_, rfl⟩
    rw [← hM3] at HS hb3 hle3
    clear hM3
    obtain ⟨ys, hys⟩ : ∃ ys, ys = pre.flatten := ⟨_, rfl⟩
    have hys2 : (pre ++ [x]).flatten = ys ++ x := by rw [hys]; simp
    rw [← hys] at HRow hlen HS
    clear hys
    simp only [List.append] at HS
    simp only [List.zip_toArray, List.foldl_toArray, List.zip_cons_cons, List.zip_nil_right, List.foldl_cons, List.foldl_nil, List.setIfInBounds_toArray, List.set_cons_succ, List.set_cons_zero, List.size_toArray, List.length_cons, List.length_nil, List.foldl_toArray']
    repeat' (first | ((with_reducible refine' q_alloc ?_); refine' a_alloc HS ?_; clear HS; intro b_ w_ HS) | ((with_reducible refine' q_box ?_); refine' a_box HS ?_; clear HS; intro b_ w_ HS) | ((with_reducible refine' q_load ?_); refine' a_load HS ?_) | ((with_reducible refine' q_store ?_); refine' a_store HS ?_; clear HS; intro w_ HS) | ((with_reducible refine' wpIn_region_plain ?hd ?hno ?_); (case hd => rfl); (case hno => (rintro ⟨_, _, h⟩; first | exact (h : False) | exact (h : (∃ v, Ending.outgrown = Ending.returned v) ∧ _).1.elim (fun v hv => nomatch hv) | exact (h : Ending.outgrown = Ending.returned _ ∧ _).1.elim | exact (h : (Ending.outgrown = Ending.returned _ ∧ _) ∨ (Ending.outgrown = Ending.returned _ ∧ _)).elim (fun h => nomatch h.1) (fun h => nomatch h.1)))) | go_values | go_skip | go_guarded | go_step | go_upon | gi_step | (simp only [Int.not_lt, Int.not_le] at *; go_simp) | (go_values <;> (try go_simp)) | (go_ite <;> go_prune <;> (try go_simp)) | (split <;> (first | (rename_i hx; exact (hx _ rfl).elim) | go_prune)))
    refine hK _ _ _ _ hle3 HS ?_
    clear hK HS
    intro o3 W3 HS
    have HY2 := Lib.hid hys2; clear hys2
    have hlen' : (ys.length : Int) ≤ (up : Int) - lo := by omega
    by_cases hc : (x.length : Int) < (up : Int) - lo - ys.length
    · have hc1 : ¬ ((ys.length : Int) + x.length = (up : Int) - lo) := by omega
      repeat' (first | ((with_reducible refine' q_alloc ?_); refine' a_alloc HS ?_; clear HS; intro b_ w_ HS) | ((with_reducible refine' q_box ?_); refine' a_box2 HS ?_; clear HS; intro b_ w_ HS) | ((with_reducible refine' q_load ?_); refine' a_load HS ?_) | ((with_reducible refine' q_store ?_); refine' a_store2 HS ?_; clear HS; intro w_ HS) | ((with_reducible refine' st_slice_bs (S := 28) (e := 5) (i := 0) (j := x.length) ?hw Tryd.underlying28 (by kernel_rfl) ?hx ?hb ?hn ?hij ?_); (case hw => first | rfl | (go_simp; done)); (case hx => first | exact eval_lit rfl | rfl); (case hb => assumption); (case hn => (first | rfl | omega | (simp; done) | (simp; omega))); (case hij => first | exact ⟨rfl, rfl, by omega, by omega⟩ | fail); intro A_ hA_) | (((with_reducible refine' st_append (F := fun y => _ :: _ :: _ :: _ :: _ :: y) HRow HS ?hF ?hw ?h1 ?h2 ?hs ?hm ?_); (case hF => repeat (first | exact Pre.nil | apply Pre.cons)); (case hw => rfl); (case h1 => first | exact eval_lit rfl | rfl); (case h2 => first | exact eval_lit rfl | rfl); (case hs => (exact Src.bs' hA_ (by simp only [List.length_drop, List.length_take]; omega))); (case hm => omega); intro v_ Lx_ w_ HR_ HS_; clear HRow; have HRow := HR_; clear HR_; clear HS; have HS := HS_; clear HS_); obtain ⟨Ar_, cr_, rfl⟩ := HRow.shape) | ((with_reducible refine' wpIn_region_plain ?hd ?hno ?_); (case hd => rfl); (case hno => (rintro ⟨_, _, h⟩; first | exact (h : False) | exact (h : (∃ v, Ending.outgrown = Ending.returned v) ∧ _).1.elim (fun v hv => nomatch hv) | exact (h : Ending.outgrown = Ending.returned _ ∧ _).1.elim | exact (h : (Ending.outgrown = Ending.returned _ ∧ _) ∨ (Ending.outgrown = Ending.returned _ ∧ _)).elim (fun h => nomatch h.1) (fun h => nomatch h.1)))) | go_values | go_skip | go_guarded | go_step | go_upon | gi_step | (simp only [Int.not_lt, Int.not_le] at *; go_simp) | (go_values <;> (try go_simp)) | (go_ite <;> go_prune <;> (try go_simp)) | (split <;> (first | (rename_i hx; exact (hx _ rfl).elim) | go_prune)))
      refine ⟨M3, _, hle3, HS, ?_⟩
      unfold BytesF
      rw [HY2.out]
      rw [List.take_length, List.drop_zero, ← List.map_append] at HRow
      exact ⟨_, Lx_, rfl, by rw [List.length_append]; exact HRow, by rw [List.length_append]; omega⟩
    · obtain ⟨j, hj⟩ : ∃ j, j = up - lo - ys.length := ⟨_, rfl⟩
      have hjx : j ≤ x.length := by omega
      have hc1 : (ys.length : Int) + j = (up : Int) - lo := by omega
      have hj2 : (up : Int) - lo - ys.length = j := by omega
      have HJ := Lib.hid hj; clear hj
      repeat' (first | ((with_reducible refine' q_alloc ?_); refine' a_alloc HS ?_; clear HS; intro b_ w_ HS) | ((with_reducible refine' q_box ?_); refine' a_box2 HS ?_; clear HS; intro b_ w_ HS) | ((with_reducible refine' q_load ?_); refine' a_load HS ?_) | ((with_reducible refine' q_store ?_); refine' a_store2 HS ?_; clear HS; intro w_ HS) | ((with_reducible refine' st_slice_bs (S := 28) (e := 5) (i := 0) (j := j) ?hw Tryd.underlying28 (by kernel_rfl) ?hx ?hb ?hn ?hij ?_); (case hw => first | rfl | (go_simp; done)); (case hx => first | exact eval_lit rfl | rfl); (case hb => assumption); (case hn => (first | rfl | omega | (simp; done) | (simp; omega))); (case hij => first | exact ⟨rfl, rfl, by omega, by omega⟩ | (refine ⟨rfl, ?_, by omega, by omega⟩; (refine congrArg (Value.int IntKind.i64) ?_; omega))); intro A_ hA_) | (((with_reducible refine' st_append (F := fun y => _ :: _ :: _ :: _ :: _ :: y) HRow HS ?hF ?hw ?h1 ?h2 ?hs ?hm ?_); (case hF => repeat (first | exact Pre.nil | apply Pre.cons)); (case hw => rfl); (case h1 => first | exact eval_lit rfl | rfl); (case h2 => first | exact eval_lit rfl | rfl); (case hs => (exact Src.bs' hA_ (by simp only [List.length_drop, List.length_take]; omega))); (case hm => omega); intro v_ Lx_ w_ HR_ HS_; clear HRow; have HRow := HR_; clear HR_; clear HS; have HS := HS_; clear HS_); obtain ⟨Ar_, cr_, rfl⟩ := HRow.shape) | ((with_reducible refine' wpIn_region_plain ?hd ?hno ?_); (case hd => rfl); (case hno => (rintro ⟨_, _, h⟩; first | exact (h : False) | exact (h : (∃ v, Ending.outgrown = Ending.returned v) ∧ _).1.elim (fun v hv => nomatch hv) | exact (h : Ending.outgrown = Ending.returned _ ∧ _).1.elim | exact (h : (Ending.outgrown = Ending.returned _ ∧ _) ∨ (Ending.outgrown = Ending.returned _ ∧ _)).elim (fun h => nomatch h.1) (fun h => nomatch h.1)))) | go_values | go_skip | go_guarded | go_step | go_upon | gi_step | (simp only [Int.not_lt, Int.not_le] at *; go_simp) | (go_values <;> (try go_simp)) | (go_ite <;> go_prune <;> (try go_simp)) | (split <;> (first | (rename_i hx; exact (hx _ rfl).elim) | go_prune)))
      all_goals
        have hn : up - lo = ys.length + j := by have := HJ.out; omega
        rw [List.drop_zero, ← List.map_append] at HRow
        refine ⟨M3, _, hle3, HS, rfl, _, Lx_, rfl, ?_, ?_⟩
        · rw [HY2.out, List.take_append, List.take_of_length_le (l := ys) (by omega), ← HJ.out, hn]; exact HRow
        · rw [HY2.out, List.length_append]; omega
  case hdone =>
    clear HS HRow
    intro D W L' HS hΦ
    obtain ⟨v, Lx, rfl, HRow, hlen⟩ := hΦ
    obtain ⟨Ar_, cr_, rfl⟩ := HRow.shape
    have hx : xs.flatten = l.drop lo := HX.out
    have hl : xs.flatten.length = up - lo := by
      have := hlen; rw [hx, List.length_drop] at this ⊢; omega
    have hlo : l.length - lo = up - lo := by have := hl; rw [hx, List.length_drop] at this; exact this
    go_wp2_with (first | ((with_reducible refine' q_alloc ?_); refine' a_alloc HS ?_; clear HS; intro b_ w_ HS) | ((with_reducible refine' q_box ?_); refine' a_box HS ?_; clear HS; intro b_ w_ HS) | ((with_reducible refine' q_load ?_); refine' a_load HS ?_) | ((with_reducible refine' q_store ?_); refine' a_store HS ?_; clear HS; intro w_ HS))
    ((refine' leaves_mark HS rfl ?hm ?_); (case hm => repeat (first | exact Rep1.head _ | apply Rep1.tail)); intro w_ HS_; clear HS; have HS := HS_; clear HS_)
    refine leaves_plain ?_
    obtain ⟨A', c', M3, e3, hle3, hfr3, HS3, hsl⟩ := HS.keepRow (F := fun y => _ :: _ :: _ :: _ :: y) (.cons (.cons (.cons (.cons .nil)))) HRow (ub_one _) (fun _ h _ => h)
    cases e3
    have e : xs.flatten = (l.take up).drop lo := by rw [List.drop_take, List.take_of_length_le (by rw [← hx, hl]; exact Nat.le_refl _), hx]
    rw [e] at hsl hl
    rw [hl] at hsl
    have hsl2 : SL M3 1 Ar_ ((l.take up).drop lo).length cr_ (((l.take up).drop lo).map ub) := by rw [hl]; exact hsl
    go_ret2
    exact ⟨Ar_, cr_, M3, rfl, ⟨HS3.below, Mem.le_trans hg1.le hle3, Mem.fresh_trans (hg1.fresh.less hs_hg1) hfr3 (Nat.le_refl _), HS3.imm⟩, BS.of_sl hsl2⟩
  case hstop =>
    clear HS HRow
    rintro D W L' c pre hpre HS ⟨rfl, v, Lx, rfl, HRow, hlen⟩
    obtain ⟨Ar_, cr_, rfl⟩ := HRow.shape
    go_wp2_with (first | ((with_reducible refine' q_alloc ?_); refine' a_alloc HS ?_; clear HS; intro b_ w_ HS) | ((with_reducible refine' q_box ?_); refine' a_box HS ?_; clear HS; intro b_ w_ HS) | ((with_reducible refine' q_load ?_); refine' a_load HS ?_) | ((with_reducible refine' q_store ?_); refine' a_store HS ?_; clear HS; intro w_ HS))
    ((refine' leaves_mark HS rfl ?hm ?_); (case hm => repeat (first | exact Rep1.head _ | apply Rep1.tail)); intro w_ HS_; clear HS; have HS := HS_; clear HS_)
    refine leaves_plain ?_
    obtain ⟨A', c', M3, e3, hle3, hfr3, HS3, hsl⟩ := HS.keepRow (F := fun y => _ :: _ :: _ :: _ :: y) (.cons (.cons (.cons (.cons .nil)))) HRow (ub_one _) (fun _ h _ => h)
    cases e3
    have hx : xs.flatten = l.drop lo := HX.out
    obtain ⟨t, ht⟩ := flatten_prefix hpre
    have e : pre.flatten.take (up - lo) = (l.take up).drop lo := by rw [List.drop_take, ← hx, ← ht, List.take_append_of_le_length hlen]
    have hl : ((l.take up).drop lo).length = up - lo := by rw [List.length_drop, List.length_take]; omega
    rw [e] at hsl
    have hsl2 : SL M3 1 Ar_ ((l.take up).drop lo).length cr_ (((l.take up).drop lo).map ub) := by rw [hl]; exact hsl
    go_ret2
    exact ⟨Ar_, cr_, M3, rfl, ⟨HS3.below, Mem.le_trans hg1.le hle3, Mem.fresh_trans (hg1.fresh.less hs_hg1) hfr3 (Nat.le_refl _), HS3.imm⟩, BS.of_sl hsl2⟩
end Go.Proofs.YtbogoehjoglneaaDoor
