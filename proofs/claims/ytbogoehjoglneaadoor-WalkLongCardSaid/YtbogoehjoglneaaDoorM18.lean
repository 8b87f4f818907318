/- The walk laws' few, forth, back. -/
import Derived.Test.YtbogoehjoglneaaDoorM12
import Derived.Test.YtbogoehjoglneaaDoorM8
import Derived.Test.YtbogoehjoglneaaDoorM15
import Derived.Test.YtbogoehjoglneaaDoorM5
set_option linter.unusedVariables false
set_option linter.unusedSimpArgs false
set_option linter.unnecessarySimpa false
set_option linter.unusedSectionVars false
namespace Go.Proofs.YtbogoehjoglneaaDoor
open Go.RowKit
set_option linter.unusedVariables false
set_option linter.unusedSimpArgs false
set_option maxRecDepth 100000
attribute [local go_sem] byt_drop byt_tail Int.toNat_natCast sOf_size

def FewF (bo bm : Nat) (most : Nat) (pre : List (Nat × Stp)) (L : List (Nat × Obj)) : Prop :=
  pre.length ≤ most ∧ ∃ v Lx, L = (bo, .cells [v].toArray 37 (0, 0)) :: (bm, .cells [.int .i64 (most : Nat)].toArray 3 (0, 0)) :: Lx ∧ Row 47 4 v pre.length (pre.flatMap atC) Lx
def FewX (bo bm : Nat) (most : Nat) (c : Code) (pre : List (Nat × Stp)) (L : List (Nat × Obj)) : Prop :=
  c = .exit 0 ∧ ∃ p0 x, pre = p0 ++ [x] ∧ p0.length = most ∧ ∃ v Lx, L = (bo, .cells [v].toArray 37 (0, 0)) :: (bm, .cells [.int .i64 (most : Nat)].toArray 3 (0, 0)) :: Lx ∧ Row 47 4 v p0.length (p0.flatMap atC) Lx

set_option maxHeartbeats 2000000 in
theorem few_any (M : Mem) (g : Nat) (lb : Array Value) (xs : List (Nat × Stp)) (hseq : SeqC Tryd.prog M g lb xs stepV) (hg : ∀ args w, (callFunc g args).run Tryd.prog w = .ok (.enter g args) w) (hx : (xs.length : Int) ≤ 268435456) (most : Nat) (w : World) (hi : Imm M w) :
    Calls Tryd.prog 32 #[.func (.func g) #[] lb, .int .i64 (most : Nat)] w fun e w' => ∃ A c M', e = .returned (.slice A (xs.take most).length c) ∧ Grew M M' w w' ∧ SL M' 4 A (xs.take most).length c ((xs.take most).flatMap atC) := by
  have HSEQ := Lib.hid hseq; clear hseq
  have HG := Lib.hid hg; clear hg
  refine calls_shut fun R hR => ?_
  have HRR := Lib.hid hR; clear hR
  (have HS := St.start hi; refine calls_of_marks Tryd.func32 rfl ?_; simp only [Tryd.ntmps32, List.size_toArray, List.length_cons, List.length_nil, Nat.reduceAdd, Nat.reduceSub, Array.replicate_succ, Array.replicate_zero, List.push_toArray, List.append_toArray, List.nil_append, List.cons_append])
  go_wp2_with (first | ((with_reducible refine' q_alloc ?_); refine' a_alloc HS ?_; clear HS; intro b_ w_ HS) | ((with_reducible refine' q_box ?_); refine' a_box2 HS ?_; clear HS; intro b_ w_ HS) | ((with_reducible refine' q_load ?_); refine' a_load HS ?_) | ((with_reducible refine' q_store ?_); refine' a_store2 HS ?_; clear HS; intro w_ HS))
  rename_i bm _ _ _
  refine' wp_rangeC HS rfl HG.out HSEQ.out ?hps (FewF b_ bm most) (FewX b_ bm most) ?h0 ?hround ?hdone ?hstop
  case h0 => exact ⟨Nat.zero_le _, _, [], rfl, Row.nil _ _⟩
  case hps => rintro _ _ _ _ ⟨rfl, rfl⟩; rfl
  case hround =>
    clear HS
    intro lp D o1 o2 pre x vs Fr L' M1 W K hpre hΦ hV hle1 HS hK
    obtain ⟨rfl, rfl⟩ := hV
    obtain ⟨hm, v, Lx, rfl, HRow⟩ := hΦ
    have hlen := hpre.length_le
    rw [List.length_append, List.length_singleton] at hlen
    rw [List.nil_append] at HS
    simp only [List.zip_toArray, List.foldl_toArray, List.zip_cons_cons, List.zip_nil_right, List.foldl_cons, List.foldl_nil, List.setIfInBounds_toArray, List.set_cons_succ, List.set_cons_zero, List.size_toArray, List.length_cons, List.length_nil, List.foldl_toArray']
    repeat' (first | ((with_reducible refine' q_alloc ?_); refine' a_alloc HS ?_; clear HS; intro b_ w_ HS) | ((with_reducible refine' q_box ?_); refine' a_box HS ?_; clear HS; intro b_ w_ HS) | ((with_reducible refine' q_load ?_); refine' a_load HS ?_) | ((with_reducible refine' q_store ?_); refine' a_store HS ?_; clear HS; intro w_ HS) | ((with_reducible refine' wpIn_region_plain ?hd ?hno ?_); (case hd => rfl); (case hno => (rintro ⟨_, _, h⟩; first | exact (h : False) | exact (h : (∃ v, Ending.outgrown = Ending.returned v) ∧ _).1.elim (fun v hv => nomatch hv) | exact (h : Ending.outgrown = Ending.returned _ ∧ _).1.elim | exact (h : (Ending.outgrown = Ending.returned _ ∧ _) ∨ (Ending.outgrown = Ending.returned _ ∧ _)).elim (fun h => nomatch h.1) (fun h => nomatch h.1)))) | go_values | go_skip | go_guarded | go_step | go_upon | gi_step | (simp only [Int.not_lt, Int.not_le] at *; go_simp) | (go_values <;> (try go_simp)) | (go_ite <;> go_prune <;> (try go_simp)) | (split <;> (first | (rename_i hx; exact (hx _ rfl).elim) | go_prune)))
    refine hK _ _ _ _ (Mem.le_refl _) HS.sink ?_
    clear hK HS
    intro o3 W2 HS
    obtain ⟨Ar_, cr_, rfl⟩ := HRow.shape
    by_cases hc : most ≤ pre.length
    · have hc' : (most : Int) ≤ pre.length := by omega
      repeat' (first | ((with_reducible refine' q_alloc ?_); refine' a_alloc HS ?_; clear HS; intro b_ w_ HS) | ((with_reducible refine' q_box ?_); refine' a_box2 HS ?_; clear HS; intro b_ w_ HS) | ((with_reducible refine' q_load ?_); refine' a_load HS ?_) | ((with_reducible refine' q_store ?_); refine' a_store2 HS ?_; clear HS; intro w_ HS) | ((with_reducible refine' wpIn_region_plain ?hd ?hno ?_); (case hd => rfl); (case hno => (rintro ⟨_, _, h⟩; first | exact (h : False) | exact (h : (∃ v, Ending.outgrown = Ending.returned v) ∧ _).1.elim (fun v hv => nomatch hv) | exact (h : Ending.outgrown = Ending.returned _ ∧ _).1.elim | exact (h : (Ending.outgrown = Ending.returned _ ∧ _) ∨ (Ending.outgrown = Ending.returned _ ∧ _)).elim (fun h => nomatch h.1) (fun h => nomatch h.1)))) | go_values | go_skip | go_guarded | go_step | go_upon | gi_step | (simp only [Int.not_lt, Int.not_le] at *; go_simp) | (go_values <;> (try go_simp)) | (go_ite <;> go_prune <;> (try go_simp)) | (split <;> (first | (rename_i hx; exact (hx _ rfl).elim) | go_prune)))
      exact ⟨M1, _, Mem.le_refl _, HS.drop3, rfl, pre, x, rfl, by omega, _, Lx, rfl, HRow⟩
    · have hc' : ¬ (most : Int) ≤ pre.length := by omega
      repeat' (first | ((with_reducible refine' q_alloc ?_); refine' a_alloc HS ?_; clear HS; intro b_ w_ HS) | ((with_reducible refine' q_box ?_); refine' a_box2 HS ?_; clear HS; intro b_ w_ HS) | ((with_reducible refine' q_load ?_); refine' a_load HS ?_) | ((with_reducible refine' q_store ?_); refine' a_store2 HS ?_; clear HS; intro w_ HS) | ((with_reducible refine' st_build (cl := [.int .i64 x.1, .int .i32 x.2.r, .int .i64 x.2.w, .bool x.2.ok]) ?hw HS ?hl ?h0 ?hf ?_); (case hw => rfl); (case hl => rfl); (case h0 => rfl); (case hf => first | (go_simp; done) | rfl | (simp [Instr.fill]; done)); intro b_ w_ HS_; clear HS; have HS := HS_; clear HS_) | (((with_reducible refine' st_append (F := fun y => _ :: _ :: _ :: _ :: _ :: _ :: y) HRow HS ?hF ?hw ?h1 ?h2 ?hs ?hm ?_); (case hF => repeat (first | exact Pre.nil | apply Pre.cons)); (case hw => rfl); (case h1 => first | exact eval_lit rfl | rfl); (case h2 => first | exact eval_lit rfl | rfl); (case hs => (exact Src.own (by repeat (first | (with_reducible exact List.mem_cons_self) | apply List.mem_cons_of_mem)) rfl rfl)); (case hm => omega); intro v_ Lx_ w_ HR_ HS_; clear HRow; have HRow := HR_; clear HR_; clear HS; have HS := HS_; clear HS_); obtain ⟨Ar_, cr_, rfl⟩ := HRow.shape) | ((with_reducible refine' wpIn_region_plain ?hd ?hno ?_); (case hd => rfl); (case hno => (rintro ⟨_, _, h⟩; first | exact (h : False) | exact (h : (∃ v, Ending.outgrown = Ending.returned v) ∧ _).1.elim (fun v hv => nomatch hv) | exact (h : Ending.outgrown = Ending.returned _ ∧ _).1.elim | exact (h : (Ending.outgrown = Ending.returned _ ∧ _) ∨ (Ending.outgrown = Ending.returned _ ∧ _)).elim (fun h => nomatch h.1) (fun h => nomatch h.1)))) | go_values | go_skip | go_guarded | go_step | go_upon | gi_step | (simp only [Int.not_lt, Int.not_le] at *; go_simp) | (go_values <;> (try go_simp)) | (go_ite <;> go_prune <;> (try go_simp)) | (split <;> (first | (rename_i hx; exact (hx _ rfl).elim) | go_prune)))
      refine ⟨M1, _, Mem.le_refl _, HS.drop.drop3, ?_, _, Lx_, rfl, ?_⟩
      · rw [List.length_append, List.length_singleton]; omega
      · rw [List.length_append, List.flatMap_append]
        exact HRow
  case hdone =>
    clear HS
    rintro D W L' HS ⟨hm, v, Lx, rfl, HRow⟩
    obtain ⟨Ar_, cr_, rfl⟩ := HRow.shape
    go_wp2_with (first | ((with_reducible refine' q_alloc ?_); refine' a_alloc HS ?_; clear HS; intro b_ w_ HS) | ((with_reducible refine' q_box ?_); refine' a_box HS ?_; clear HS; intro b_ w_ HS) | ((with_reducible refine' q_load ?_); refine' a_load HS ?_) | ((with_reducible refine' q_store ?_); refine' a_store HS ?_; clear HS; intro w_ HS))
    ((refine' leaves_mark HS rfl ?hm ?_); (case hm => repeat (first | exact Rep1.head _ | apply Rep1.tail)); intro w_ HS_; clear HS; have HS := HS_; clear HS_)
    refine leaves_plain ?_
    obtain ⟨A', c', M3, e3, hle3, hfr3, HS3, hsl⟩ := HS.keepRow (F := fun y => _ :: _ :: _ :: y) (.cons (.cons (.cons .nil))) HRow (atC_one _) (fun _ h _ => h)
    cases e3
    (try go_ret)
    refine HRR.out _ _ ?_
    rw [List.take_of_length_le hm]
    exact ⟨_, _, M3, rfl, ⟨HS3.below, hle3, hfr3, HS3.imm⟩, hsl⟩
  case hstop =>
    clear HS
    rintro D W L' c pre hpre HS ⟨rfl, p0, x, rfl, rfl, v, Lx, rfl, HRow⟩
    obtain ⟨Ar_, cr_, rfl⟩ := HRow.shape
    have ht : xs.take p0.length = p0 := by
      obtain ⟨t, rfl⟩ := hpre
      rw [List.append_assoc, List.take_append_of_le_length (by omega), List.take_of_length_le (by omega)]
    have HT := Lib.hid ht
    clear ht
    go_wp2_with (first | ((with_reducible refine' q_alloc ?_); refine' a_alloc HS ?_; clear HS; intro b_ w_ HS) | ((with_reducible refine' q_box ?_); refine' a_box HS ?_; clear HS; intro b_ w_ HS) | ((with_reducible refine' q_load ?_); refine' a_load HS ?_) | ((with_reducible refine' q_store ?_); refine' a_store HS ?_; clear HS; intro w_ HS))
    ((refine' leaves_mark HS rfl ?hm ?_); (case hm => repeat (first | exact Rep1.head _ | apply Rep1.tail)); intro w_ HS_; clear HS; have HS := HS_; clear HS_)
    refine leaves_plain ?_
    obtain ⟨A', c', M3, e3, hle3, hfr3, HS3, hsl⟩ := HS.keepRow (F := fun y => _ :: _ :: _ :: y) (.cons (.cons (.cons .nil))) HRow (atC_one _) (fun _ h _ => h)
    cases e3
    (try go_ret)
    refine HRR.out _ _ ?_
    rw [HT.out]
    exact ⟨_, _, M3, rfl, ⟨HS3.below, hle3, hfr3, HS3.imm⟩, hsl⟩

set_option maxHeartbeats 2000000 in
theorem forth_any (M : Mem) (A : Option Addr) (c n : Nat) (l : List UInt8) (hb : BS M A c l) (hn : n = l.length) (hl : l.length ≤ 268435456) (p : Nat) (hp : p ≤ l.length) (h0 : inside l p = 0) (most : Nat) (w : World) (hi : Imm M w) :
    Calls Tryd.prog 33 #[.slice A n c, .int .i64 p, .int .i64 (most : Nat)] w fun e w' => ∃ A' c' M', e = .returned (.slice A' ((steps (l.drop p) p).take most).length c') ∧ Grew M M' w w' ∧ SL M' 4 A' ((steps (l.drop p) p).take most).length c' (((steps (l.drop p) p).take most).flatMap atC) := by
  subst hn
  have HB := Lib.hid hb; clear hb
  refine calls_shut fun R hR => ?_
  have HRR := Lib.hid hR; clear hR
  (have HS := St.start hi; go_enter Tryd.func33, Tryd.ntmps33)
  go_wp2
  refine wp_loop_i (σ := Nat) (fun q a w1 => q ≤ l.length ∧ inside l q = 0 ∧ ∃ pre v Lx, steps (l.drop p) p = pre ++ steps (l.drop q) q ∧ pre.length ≤ most ∧ pre.length + p ≤ q ∧ Row 47 4 v pre.length (pre.flatMap atC) Lx ∧
    St (fun k => w.heap.size ≤ k) w w1 M Lx ∧ (∃ g : Nat → Value, a = { tmps := #[.slice A (List.length (α := UInt8) l) c, .int .i64 (q : Nat), .int .i64 (most : Nat), g 3, g 4, g 5, g 6, v, g 8, g 9, g 10, g 11, g 12, g 13, g 14, g 15, g 16, g 17, g 18, g 19, g 20, g 21, g 22, g 23, g 24, g 25, g 26, g 27, g 28, g 29, g 30, g 31, g 32], defers := [] })) (fun q => l.length - q) p
    ⟨hp, h0, [], _, [], rfl, Nat.zero_le _, by simp, Row.nil _ _, HS, actg rfl⟩ ?_
  clear HS hi hp h0
  rintro J hJ q a w1 ⟨hq, hq0, pre, v, Lx, hpre, hm, hpq, HRow, HS, ⟨g, rfl⟩⟩
  obtain ⟨Ar_, cr_, rfl⟩ := HRow.shape
  by_cases hlt : pre.length < most
  · by_cases hlt2 : q < l.length
    · have hx := AtStep.rest hlt2
      have HO := Lib.hid (fun w hi => rOf_any M A c l.length l HB.out rfl hl q hlt2 w hi)
      have hne := edge_next hq0
      have hw4 := stp_w (l.drop q)
      have hwl := stp_len (l := l.drop q) (fun e => by have := congrArg List.length e; simp at this; omega)
      rw [List.length_drop] at hwl
      have hmn : pre.length ≤ l.length := by omega
      generalize stp (l.drop q) = s at *
      have HX := Lib.hid hx
      have HP := Lib.hid hpre
      have HN := Lib.hid hne
      clear hx hpre hne
      have h1 : (pre.length : Int) < most := by omega
      have h2 : (q : Int) < l.length := by omega
      go_wp2_with (first | ((with_reducible refine' q_alloc ?_); refine' a_alloc HS ?_; clear HS; intro b_ w_ HS) | ((with_reducible refine' q_box ?_); refine' a_box2 HS ?_; clear HS; intro b_ w_ HS) | ((with_reducible refine' q_load ?_); refine' a_load HS ?_) | ((with_reducible refine' q_store ?_); refine' a_store2 HS ?_; clear HS; intro w_ HS) | (go_at_call 60; (with_reducible refine (HO.out _ HS.imm).mono ?_); rintro e w_ ⟨rfl, hb_⟩; have HS_ := HS.call hb_; clear HS hb_; have HS := HS_; clear HS_) | ((with_reducible refine' st_build (cl := [.int .i64 (q : Nat), .int .i32 (s.r : Nat), .int .i64 (s.w : Nat), .bool s.ok]) ?hw HS ?hl ?h0 ?hf ?_); (case hw => rfl); (case hl => rfl); (case h0 => rfl); (case hf => first | (go_simp; done) | rfl | (simp [Instr.fill]; done)); intro b_ w_ HS_; clear HS; have HS := HS_; clear HS_) | (((with_reducible refine' st_append (F := fun y => _ :: _ :: y) HRow HS ?hF ?hw ?h1 ?h2 ?hs ?hm ?_); (case hF => repeat (first | exact Pre.nil | apply Pre.cons)); (case hw => rfl); (case h1 => first | exact eval_lit rfl | rfl); (case h2 => first | exact eval_lit rfl | rfl); (case hs => (exact Src.own (.head _) rfl rfl)); (case hm => omega); intro v_ Lx_ w_ HR_ HS_; clear HRow; have HRow := HR_; clear HR_; clear HS; have HS := HS_; clear HS_); obtain ⟨Ar_, cr_, rfl⟩ := HRow.shape))
      rw [show (q : Int) + s.w = ((q + s.w : Nat) : Int) from by omega]
      refine ⟨q + s.w, hJ _ _ _ ⟨by omega, HN.out, pre ++ [(q, s)], _, Lx_, ?_, ?_, ?_, ?_, HS.drop.drop, actg rfl⟩, by omega⟩
      · rw [HP.out, HX.out]; simp
      · rw [List.length_append, List.length_singleton]; omega
      · rw [List.length_append, List.length_singleton]; omega
      · rw [List.length_append, List.flatMap_append]
        exact HRow
    · obtain rfl : q = l.length := by omega
      have h1 : (pre.length : Int) < most := by omega
      rw [List.drop_length, steps_nil, List.append_nil] at hpre
      have HP := Lib.hid hpre
      clear hpre
      go_wp2
      obtain ⟨A', c', M3, e3, hle3, hfr3, HS3, hsl⟩ := HS.keepRow (F := fun y => y) .nil HRow (atC_one _) (fun _ h _ => h)
      cases e3
      (try go_ret)
      refine HRR.out _ _ ?_
      rw [HP.out, List.take_of_length_le hm]
      exact ⟨_, _, M3, rfl, ⟨HS3.below, hle3, hfr3, HS3.imm⟩, hsl⟩
  · have h1 : ¬ (pre.length : Int) < most := by omega
    have ht : (steps (l.drop p) p).take most = pre := by rw [hpre, List.take_append_of_le_length (by omega), List.take_of_length_le (by omega)]
    have HT := Lib.hid ht
    clear hpre ht
    go_wp2
    obtain ⟨A', c', M3, e3, hle3, hfr3, HS3, hsl⟩ := HS.keepRow (F := fun y => y) .nil HRow (atC_one _) (fun _ h _ => h)
    cases e3
    (try go_ret)
    refine HRR.out _ _ ?_
    rw [HT.out]
    exact ⟨_, _, M3, rfl, ⟨HS3.below, hle3, hfr3, HS3.imm⟩, hsl⟩

set_option maxHeartbeats 2000000 in
theorem back_any (M : Mem) (A : Option Addr) (c n : Nat) (l : List UInt8) (hb : BS M A c l) (hn : n = l.length) (hl : l.length ≤ 268435456) (p : Nat) (hp : p ≤ l.length) (h0 : inside l p = 0) (most : Nat) (w : World) (hi : Imm M w) :
    Calls Tryd.prog 34 #[.slice A n c, .int .i64 p, .int .i64 (most : Nat)] w fun e w' => ∃ A' c' M', e = .returned (.slice A' ((backF l p).take most).length c') ∧ Grew M M' w w' ∧ SL M' 4 A' ((backF l p).take most).length c' (((backF l p).take most).flatMap atC) := by
  subst hn
  have HB := Lib.hid hb; clear hb
  refine calls_shut fun R hR => ?_
  have HRR := Lib.hid hR; clear hR
  (have HS := St.start hi; go_enter Tryd.func34, Tryd.ntmps34)
  go_wp2
  refine wp_loop_i (σ := Nat) (fun q a w1 => q ≤ l.length ∧ inside l q = 0 ∧ ∃ pre v Lx, backF l p = pre ++ backF l q ∧ pre.length ≤ most ∧ pre.length + q ≤ l.length ∧ Row 47 4 v pre.length (pre.flatMap atC) Lx ∧
    St (fun k => w.heap.size ≤ k) w w1 M Lx ∧ (∃ g : Nat → Value, a = { tmps := #[.slice A (List.length (α := UInt8) l) c, .int .i64 (q : Nat), .int .i64 (most : Nat), g 3, g 4, g 5, g 6, v, g 8, g 9, g 10, g 11, g 12, g 13, g 14, g 15, g 16, g 17, g 18, g 19, g 20, g 21, g 22, g 23, g 24, g 25, g 26, g 27, g 28, g 29, g 30, g 31, g 32, g 33, g 34], defers := [] })) (fun q => q) p
    ⟨hp, h0, [], _, [], rfl, Nat.zero_le _, by simpa using hp, Row.nil _ _, HS, actg rfl⟩ ?_
  clear HS hi hp h0
  rintro J hJ q a w1 ⟨hq, hq0, pre, v, Lx, hpre, hm, hpq, HRow, HS, ⟨g, rfl⟩⟩
  obtain ⟨Ar_, cr_, rfl⟩ := HRow.shape
  by_cases hlt : pre.length < most
  · by_cases hlt2 : 0 < q
    · have hx := backF_cons hq0 hlt2 hq
      have HO := Lib.hid (fun w hi => rBefore_in M A c l.length l HB.out rfl hl q hlt2 hq hq0 w hi)
      have hpe := prev_edge hq0 hlt2 hq
      have hne := floor_edge l (q - 1)
      have hw4 := stp_w (l.drop (floorN l (q - 1)))
      have hfl := floor_le l (q - 1)
      generalize floorN l (q - 1) = u at *
      generalize stp (l.drop u) = s at *
      have HX := Lib.hid hx
      have HP := Lib.hid hpre
      have HN := Lib.hid hne
      clear hx hpre hne
      have h1 : (pre.length : Int) < most := by omega
      have h2 : 0 < (q : Int) := by omega
      have h3 : (q : Int) - s.w = u := by omega
      go_wp2_with (first | ((with_reducible refine' q_alloc ?_); refine' a_alloc HS ?_; clear HS; intro b_ w_ HS) | ((with_reducible refine' q_box ?_); refine' a_box2 HS ?_; clear HS; intro b_ w_ HS) | ((with_reducible refine' q_load ?_); refine' a_load HS ?_) | ((with_reducible refine' q_store ?_); refine' a_store2 HS ?_; clear HS; intro w_ HS) | (go_at_call 66; (with_reducible refine (HO.out _ HS.imm).mono ?_); rintro e w_ ⟨rfl, hb_⟩; have HS_ := HS.call hb_; clear HS hb_; have HS := HS_; clear HS_) | ((with_reducible refine' st_build (cl := [.int .i64 (u : Nat), .int .i32 (s.r : Nat), .int .i64 (s.w : Nat), .bool s.ok]) ?hw HS ?hl ?h0 ?hf ?_); (case hw => rfl); (case hl => rfl); (case h0 => rfl); (case hf => first | (go_simp; done) | rfl | (simp [Instr.fill]; done)); intro b_ w_ HS_; clear HS; have HS := HS_; clear HS_) | (((with_reducible refine' st_append (F := fun y => _ :: _ :: y) HRow HS ?hF ?hw ?h1 ?h2 ?hs ?hm ?_); (case hF => repeat (first | exact Pre.nil | apply Pre.cons)); (case hw => rfl); (case h1 => first | exact eval_lit rfl | rfl); (case h2 => first | exact eval_lit rfl | rfl); (case hs => (exact Src.own (.head _) rfl rfl)); (case hm => omega); intro v_ Lx_ w_ HR_ HS_; clear HRow; have HRow := HR_; clear HR_; clear HS; have HS := HS_; clear HS_); obtain ⟨Ar_, cr_, rfl⟩ := HRow.shape))
      refine ⟨u, hJ _ _ _ ⟨by omega, HN.out, pre ++ [(u, s)], _, Lx_, ?_, ?_, ?_, ?_, HS.drop.drop, actg rfl⟩, by omega⟩
      · rw [HP.out, HX.out]; simp
      · rw [List.length_append, List.length_singleton]; omega
      · rw [List.length_append, List.length_singleton]; omega
      · rw [List.length_append, List.flatMap_append]
        exact HRow
    · obtain rfl : q = 0 := by omega
      have h1 : (pre.length : Int) < most := by omega
      rw [backF_zero, List.append_nil] at hpre
      have HP := Lib.hid hpre
      clear hpre
      go_wp2
      obtain ⟨A', c', M3, e3, hle3, hfr3, HS3, hsl⟩ := HS.keepRow (F := fun y => y) .nil HRow (atC_one _) (fun _ h _ => h)
      cases e3
      (try go_ret)
      refine HRR.out _ _ ?_
      rw [HP.out, List.take_of_length_le hm]
      exact ⟨_, _, M3, rfl, ⟨HS3.below, hle3, hfr3, HS3.imm⟩, hsl⟩
  · have h1 : ¬ (pre.length : Int) < most := by omega
    have ht : (backF l p).take most = pre := by rw [hpre, List.take_append_of_le_length (by omega), List.take_of_length_le (by omega)]
    have HT := Lib.hid ht
    clear hpre ht
    go_wp2
    obtain ⟨A', c', M3, e3, hle3, hfr3, HS3, hsl⟩ := HS.keepRow (F := fun y => y) .nil HRow (atC_one _) (fun _ h _ => h)
    cases e3
    (try go_ret)
    refine HRR.out _ _ ?_
    rw [HT.out]
    exact ⟨_, _, M3, rfl, ⟨HS3.below, hle3, hfr3, HS3.imm⟩, hsl⟩
end Go.Proofs.YtbogoehjoglneaaDoor

/- WalkLong returns true. -/
namespace Go.Proofs.YtbogoehjoglneaaDoor
open Go.RowKit
set_option linter.unusedVariables false
set_option linter.unusedSimpArgs false
set_option maxRecDepth 100000
attribute [local go_sem] byt_drop byt_tail Int.toNat_natCast sOf_size fnNil

theorem AtStep.inj {l : List UInt8} {i p q : Nat} (h : AtStep l i p) (k : AtStep l i q) : p = q := by
  have h1 := h.edge_at
  rw [k.edge_at] at h1
  exact (Option.some.inj h1).symm
theorem take_at {l : List UInt8} {i q m t : Nat} {x : Nat × Stp} (h : AtStep l i q) (hx : ((steps (l.drop q) q).take m)[t]? = some x) : AtStep l (i + t) x.1 ∧ x.2 = stp (l.drop x.1) ∧ x.1 < l.length := by
  obtain ⟨pre, e, hl, _⟩ := h.pre
  rw [List.getElem?_take] at hx
  split at hx
  · have h1 : (steps l 0)[i + t]? = some x := by rw [e, List.getElem?_append_right (by omega), show i + t - pre.length = t from by omega]; exact hx
    obtain ⟨q', hq'⟩ := AtStep.at_ (l := l) (i + t) (by have := (List.getElem?_eq_some_iff.1 h1).1; omega)
    obtain ⟨e1, e2, e3⟩ := hq'.place (q := x.1) (s := x.2) h1
    rw [e1]
    exact ⟨hq', e2, e3⟩
  · cases hx
theorem take_cnt {l : List UInt8} {i q m : Nat} (h : AtStep l i q) : ((steps (l.drop q) q).take m).length = min m ((steps l 0).length - i) := by
  obtain ⟨pre, e, hl, _⟩ := h.pre
  have := congrArg List.length e
  rw [List.length_append] at this
  rw [List.length_take]; omega

set_option maxHeartbeats 8000000 in
theorem WLong_any (M : Mem) (hG : Gl M) (A0 : Option Addr) (n0 c0 : Nat) (vs : List Value) (tt : Bool) (hp : PsAt M A0 n0 c0 vs) (hn : (n0 : Int) ≤ 9223372036854775807) (z : Int) (w : World) (hi : Imm M w) :
    Calls Tryd.prog 6 #[.agg #[.slice A0 n0 c0, .bool tt], .int .i64 z] w fun e w' => e = .returned (.bool true) ∧ Below w.heap.size w w' := by
  have HG := Lib.hid hG
  have HPS := Lib.hid hp
  have HFX := Lib.hid (fun w hi => fixed_any M hG w hi)
  clear hG hp
  (refine calls_shut fun R hR => ?_; have HRR := Lib.hid hR; clear hR)
  (have HS := St.start hi; go_enter Tryd.func6, Tryd.ntmps6)
  go_wp2_with (first | ((with_reducible refine' q_alloc ?_); refine' a_alloc HS ?_; clear HS; intro b_ w_ HS) | ((with_reducible refine' q_box ?_); refine' a_box2 HS ?_; clear HS; intro b_ w_ HS) | ((with_reducible refine' q_load ?_); refine' a_load HS ?_) | ((with_reducible refine' q_store ?_); refine' a_store2 HS ?_; clear HS; intro w_ HS) | (go_at_call 14; (with_reducible refine (HFX.out _ HS.imm).mono ?_); rintro e w_ ⟨rfl, hb_⟩; have HS_ := HS.call hb_; clear HS hb_; have HS := HS_; clear HS_) | (go_at_call 15; (with_reducible refine (made_any' M HG.out A0 n0 c0 vs tt HPS.out hn _ HS.imm).mono ?_); rintro e w_ ⟨r, A, c, M1, l, rfl, hg1, hr, hb, hl⟩; have HR := Lib.hid hr; have HB := Lib.hid hb; have HGM := Lib.hid (HG.out.mono hg1.le); have hs_hg1 := HS.moved.size; have HS_ := HS.callM hg1.below hg1.fresh hg1.imm; clear HS; have HS := HS_; clear HS_))
  all_goals first | exact HRR.out _ _ ⟨rfl, HS.below⟩ | skip
  obtain ⟨hz0, hz1⟩ : 0 ≤ z ∧ z ≤ (l.length : Int) := by first | assumption | (constructor <;> omega)
  clear hr hb hg1 hs_hg1 HG HPS HFX
  refine wp_loop_i (σ := Int) (fun x a w1 => z - 8 ≤ x ∧ x ≤ z + 9 ∧ ∃ M2, M1.le M2 ∧ St (fun k => w.heap.size ≤ k) w w1 M2 [] ∧ (a.defers = [] ∧ a.tmps.toList.length = 181 ∧ nthV a.tmps.toList 1 = .int .i64 z ∧ nthV a.tmps.toList 5 = ptr r ∧ nthV a.tmps.toList 6 = .slice A (List.length (α := UInt8) l) c ∧ nthV a.tmps.toList 7 = .int .i64 x)) (fun x => (z + 9 - x).toNat) (z - 8)
    ⟨Int.le_refl _, by omega, M1, Mem.le_refl _, HS.drop, ⟨rfl, rfl, rfl, rfl, rfl, rfl⟩⟩ ?_
  clear HS hi
  rintro J1 hJ1 x a w1 ⟨hx1, hx2, M2, hle2, HS, hF_⟩
  (obtain ⟨hd_, hn_, h1_, h5_, h6_, h7_⟩ := hF_; obtain ⟨g, hg_, e_⟩ := frame_open hd_ hn_; rw [hg_] at h1_; rw [hg_] at h5_; rw [hg_] at h6_; rw [hg_] at h7_; have e2_ : litL g 181 [] = [g 0, g 1, g 2, g 3, g 4, g 5, g 6, g 7, g 8, g 9, g 10, g 11, g 12, g 13, g 14, g 15, g 16, g 17, g 18, g 19, g 20, g 21, g 22, g 23, g 24, g 25, g 26, g 27, g 28, g 29, g 30, g 31, g 32, g 33, g 34, g 35, g 36, g 37, g 38, g 39, g 40, g 41, g 42, g 43, g 44, g 45, g 46, g 47, g 48, g 49, g 50, g 51, g 52, g 53, g 54, g 55, g 56, g 57, g 58, g 59, g 60, g 61, g 62, g 63, g 64, g 65, g 66, g 67, g 68, g 69, g 70, g 71, g 72, g 73, g 74, g 75, g 76, g 77, g 78, g 79, g 80, g 81, g 82, g 83, g 84, g 85, g 86, g 87, g 88, g 89, g 90, g 91, g 92, g 93, g 94, g 95, g 96, g 97, g 98, g 99, g 100, g 101, g 102, g 103, g 104, g 105, g 106, g 107, g 108, g 109, g 110, g 111, g 112, g 113, g 114, g 115, g 116, g 117, g 118, g 119, g 120, g 121, g 122, g 123, g 124, g 125, g 126, g 127, g 128, g 129, g 130, g 131, g 132, g 133, g 134, g 135, g 136, g 137, g 138, g 139, g 140, g 141, g 142, g 143, g 144, g 145, g 146, g 147, g 148, g 149, g 150, g 151, g 152, g 153, g 154, g 155, g 156, g 157, g 158, g 159, g 160, g 161, g 162, g 163, g 164, g 165, g 166, g 167, g 168, g 169, g 170, g 171, g 172, g 173, g 174, g 175, g 176, g 177, g 178, g 179, g 180] := rfl; rw [h1_, h5_, h6_, h7_] at e2_; rw [e2_] at e_; clear hd_ hn_ hg_ e2_ h1_ h5_ h6_ h7_; subst e_)
  by_cases hxe : ¬ x ≤ z + 8
  · go_wp2
    (try go_ret)
    exact HRR.out _ _ ⟨rfl, HS.below⟩
  have hxe' : x ≤ z + 8 := by omega
  clear hxe
  by_cases hin : ¬ (0 ≤ x ∧ x ≤ l.length)
  · have HF := Lib.hid (fun w hi => rFloor_out M2 A c l.length x (by omega) w hi)
    go_wp2_with (first | (go_at_call 17; (with_reducible refine (HF.out _ HS.imm).mono ?_); rintro e w_ ⟨rfl, hb_⟩; have HS_ := HS.call hb_; clear HS hb_; have HS := HS_; clear HS_))
    exact ⟨x + 1, hJ1 _ _ _ ⟨by omega, by omega, M2, hle2, HS, ⟨rfl, rfl, rfl, rfl, rfl, rfl⟩⟩, by omega⟩
  obtain ⟨hxa, hxb⟩ := Classical.not_not.1 hin
  clear hin
  obtain ⟨p, rfl⟩ : ∃ p : Nat, x = p := ⟨x.toNat, by omega⟩
  have hpl : p ≤ l.length := by omega
  have hfl := floor_le l p
  have hfe := floor_edge l p
  have hf9 := fun w hi => rFloor_in M2 A c l.length l (HB.out.mono hle2) rfl (by omega) p hpl w hi
  have hn9 := fun (M' : Mem) (h : M2.le M') w hi => WNew_in M' (HGM.out.mono (Mem.le_trans hle2 h)) r l (HR.out.mono (Mem.le_trans hle2 h)) p hpl w hi
  have hsI : stepsI l p = steps (l.drop (floorN l p)) (floorN l p) := by unfold stepsI; rw [if_pos ⟨by omega, by omega⟩]; rfl
  have hbI : backI l p = backF l (floorN l p) := by unfold backI; rw [if_pos ⟨by omega, by omega⟩, backF_floor]; rfl
  obtain ⟨i, hat⟩ := AtStep.of_edge (l := l) (q := floorN l p) (by omega) hfe
  generalize floorN l p = q at *
  obtain ⟨X, hX⟩ : ∃ X, X = (steps (l.drop q) q).take 6 := ⟨_, rfl⟩
  obtain ⟨Y, hY⟩ : ∃ Y, Y = (backF l q).take 6 := ⟨_, rfl⟩
  obtain ⟨Z, hZ⟩ : ∃ Z, Z = (steps (l.drop q) q).take 3 := ⟨_, rfl⟩
  have hX6 : X.length ≤ 6 := by rw [hX]; exact List.length_take_le _ _
  have hY6 : Y.length ≤ 6 := by rw [hY]; exact List.length_take_le _ _
  have hZc : Z.length = min 3 ((steps l 0).length - i) := by rw [hZ]; exact take_cnt hat
  have hZa : ∀ t x, Z[t]? = some x → AtStep l (i + t) x.1 ∧ x.2 = stp (l.drop x.1) ∧ x.1 < l.length := fun t x h => take_at hat (by rw [← hZ]; exact h)
  have hfw1 := fun (M' : Mem) (h : M2.le M') (b1 b2 : Nat) (h1 : M' b1 = some (.cells [.int .i64 p].toArray 3 (0, 0))) (h2 : M' b2 = some (.cells [ptr r].toArray 27 (0, 0))) w hi => few_any M' 64 #[ptr b1, ptr b2] (stepsI l p) (Steps1_any M' (HGM.out.mono (Mem.le_trans hle2 h)) r l (HR.out.mono (Mem.le_trans hle2 h)) b1 b2 p h1 h2) (enters_of Tryd.func64 (by kernel_rfl) rfl) (by have := stepsI_len l p; omega) 6 w hi
  have hfw2 := fun (M' : Mem) (h : M2.le M') (b1 b2 : Nat) (h1 : M' b1 = some (.cells [ptr r].toArray 27 (0, 0))) (h2 : M' b2 = some (.cells [.int .i64 p].toArray 3 (0, 0))) w hi => few_any M' 65 #[ptr b1, ptr b2] (backI l p) (Back1_any M' (HGM.out.mono (Mem.le_trans hle2 h)) r l (HR.out.mono (Mem.le_trans hle2 h)) b1 b2 p h1 h2) (enters_of Tryd.func65 (by kernel_rfl) rfl) (by have := backI_len l p; omega) 6 w hi
  have hfo6 := fun (M' : Mem) (h : M2.le M') w hi => forth_any M' A c l.length l (HB.out.mono (Mem.le_trans hle2 h)) rfl (by omega) q (by omega) hfe 6 w hi
  have hba6 := fun (M' : Mem) (h : M2.le M') w hi => back_any M' A c l.length l (HB.out.mono (Mem.le_trans hle2 h)) rfl (by omega) q (by omega) hfe 6 w hi
  have hfo3 := fun (M' : Mem) (h : M2.le M') w hi => forth_any M' A c l.length l (HB.out.mono (Mem.le_trans hle2 h)) rfl (by omega) q (by omega) hfe 3 w hi
  rw [hsI, ← hX, show ((6 : Nat) : Int) = 6 from rfl] at hfw1
  rw [hbI, ← hY, show ((6 : Nat) : Int) = 6 from rfl] at hfw2
  rw [← hX, show ((6 : Nat) : Int) = 6 from rfl] at hfo6
  rw [← hY, show ((6 : Nat) : Int) = 6 from rfl] at hba6
  rw [← hZ, show ((3 : Nat) : Int) = 3 from rfl] at hfo3
  have HF := Lib.hid hf9; have HN := Lib.hid hn9; have HFW1 := Lib.hid hfw1; have HFW2 := Lib.hid hfw2; have HFO6 := Lib.hid hfo6; have HBA6 := Lib.hid hba6; have HFO3 := Lib.hid hfo3; have HZA := Lib.hid hZa; have HZC := Lib.hid hZc; have HAT := Lib.hid hat; have HFE := Lib.hid hfe
  have HPL := Lib.hid (fun (M' : Mem) (h : M2.le M') (c1 : Nat) (hM : M' c1 = none) (u : Int) (h1 : 1 ≤ u) (h3 : u ≤ 3) (w : World) (hi : Imm M' w) (hc : w.heap[c1]? = some (curC (q : Nat) r)) => Place_edge M' (HGM.out.mono (Mem.le_trans hle2 h)) r l (HR.out.mono (Mem.le_trans hle2 h)) c1 q (by omega) HFE.out u h1 h3 hM w hi hc)
  have HRP := Lib.hid (fun (M' : Mem) (h : M2.le M') (u : Int) (h1 : 1 ≤ u ∧ u ≤ 3) w hi => by have := rPlace_any M' A c l.length l (HB.out.mono (Mem.le_trans hle2 h)) rfl (by omega) q (by omega) u w hi; rewrite [if_pos h1] at this; exact this)
  have HQ25 : q ≤ 25000 := by omega
  clear hsI hbI hX hY hZ hZc hZa hat hfe hf9 hn9 hfw1 hfw2 hfo6 hba6 hfo3
  have hle := Mem.le_refl M2
  go_wp2_with (first | (go_at_call 17; (with_reducible refine (HF.out _ HS.imm).mono ?_); rintro e w_ ⟨rfl, hb_⟩; have HS_ := HS.call hb_; clear HS hb_; have HS := HS_; clear HS_) | (go_at_call 25; (with_reducible refine (Steps_any M2 r p _ HS.imm).mono ?_); rintro e w_ ⟨b1, b2, M3, rfl, hg3, q1, q2⟩; have HLE := Lib.hid hg3.le; have hs_hg3 := HS.moved.size; have HS_ := HS.callM hg3.below hg3.fresh hg3.imm; clear HS; have HS := HS_; clear HS_) | (go_at_call 28; (with_reducible refine (Back_any M3 r p _ HS.imm).mono ?_); rintro e w_ ⟨b3, b4, M4, rfl, hg4, q3, q4⟩; have HLE4 := Lib.hid (Mem.le_trans HLE.out hg4.le); have Q1 := Lib.hid (hg4.le _ _ q1); have Q2 := Lib.hid (hg4.le _ _ q2); have Q3 := Lib.hid q3; have Q4 := Lib.hid q4; clear q1 q2 q3 q4; have hs_hg4 := HS.moved.size; have HS_ := HS.callM hg4.below hg4.fresh hg4.imm; clear HS; have HS := HS_; clear HS_) | (go_at_call 16; (with_reducible refine (HN.out M4 HLE4.out _ HS.imm).mono ?_); rintro e w_ ⟨c1, rfl, hb1, hb2, hb3⟩; have HS_ := (HS.call hb1).newRow HS hb2 hb3; clear HS hb1 hb2 hb3; have HS := HS_; clear HS_) | (go_at_call 32; (with_reducible refine (HFW1.out M4 HLE4.out b1 b2 Q1.out Q2.out _ HS.imm).mono ?_); rintro e w_ ⟨A5, c5, M5, rfl, hg5, hs5⟩; have HLE5 := Lib.hid (Mem.le_trans HLE4.out hg5.le); have Q3_ := Lib.hid (hg5.le _ _ Q3.out); have Q4_ := Lib.hid (hg5.le _ _ Q4.out); clear Q3 Q4; have hs_hg5 := HS.moved.size; have HS_ := HS.callM hg5.below hg5.fresh hg5.imm; clear HS; have HS := HS_; clear HS_) | (go_at_call 33; (with_reducible refine (HFO6.out M5 HLE5.out _ HS.imm).mono ?_); rintro e w_ ⟨A6, c6, M6, rfl, hg6, hs6⟩; have HLE6 := Lib.hid (Mem.le_trans HLE5.out hg6.le); have H5 := Lib.hid (hs5.mono hg6.le); have H6 := Lib.hid hs6; have Q3 := Lib.hid (hg6.le _ _ Q3_.out); have Q4 := Lib.hid (hg6.le _ _ Q4_.out); clear Q3_ Q4_ hs5 hs6; have hs_hg6 := HS.moved.size; have HS_ := HS.callM hg6.below hg6.fresh hg6.imm; clear HS; have HS := HS_; clear HS_) | (go_at_call 31; (with_reducible refine (same_any M6 X A5 A6 c5 c6 _ _ rfl rfl H5.out H6.out (by omega) _ HS.imm).mono ?_); rintro e w_ ⟨rfl, hb_⟩; have HS_ := HS.call hb_; clear HS hb_; have HS := HS_; clear HS_) | (go_at_call 32; (with_reducible refine (HFW2.out M6 HLE6.out b3 b4 Q3.out Q4.out _ HS.imm).mono ?_); rintro e w_ ⟨A7, c7, M7, rfl, hg7, hs7⟩; have HLE7 := Lib.hid (Mem.le_trans HLE6.out hg7.le); clear Q3 Q4; have hs_hg7 := HS.moved.size; have HS_ := HS.callM hg7.below hg7.fresh hg7.imm; clear HS; have HS := HS_; clear HS_) | (go_at_call 34; (with_reducible refine (HBA6.out M7 HLE7.out _ HS.imm).mono ?_); rintro e w_ ⟨A8, c8, M8, rfl, hg8, hs8⟩; have HLE8 := Lib.hid (Mem.le_trans HLE7.out hg8.le); have H7 := Lib.hid (hs7.mono hg8.le); have H8 := Lib.hid hs8; clear hs7 hs8; have hs_hg8 := HS.moved.size; have HS_ := HS.callM hg8.below hg8.fresh hg8.imm; clear HS; have HS := HS_; clear HS_) | (go_at_call 31; (with_reducible refine (same_any M8 Y A7 A8 c7 c8 _ _ rfl rfl H7.out H8.out (by omega) _ HS.imm).mono ?_); rintro e w_ ⟨rfl, hb_⟩; have HS_ := HS.call hb_; clear HS hb_; have HS := HS_; clear HS_))
  have hM1 := (HS.base _ (.head _)).2
  simp only at hM1
  clear hg3 hg4 hg5 hg6 hg7 hg8 hs_hg3 hs_hg4 hs_hg5 hs_hg6 hs_hg7 hs_hg8 Q1 Q2 H5 H6 H7 H8 HLE HLE4 HLE5 HLE6 HLE7 HFW1 HFW2 HFO6 HBA6 HF HN
  refine wp_loop_i (σ := Nat) (fun u a w2 => 1 ≤ u ∧ u ≤ 4 ∧ St (fun k => w.heap.size ≤ k) w w2 M8 [(c1, curC (q : Nat) r)] ∧ (a.defers = [] ∧ a.tmps.toList.length = 181 ∧ nthV a.tmps.toList 1 = .int .i64 z ∧ nthV a.tmps.toList 5 = ptr r ∧ nthV a.tmps.toList 6 = .slice A (List.length (α := UInt8) l) c ∧ nthV a.tmps.toList 7 = .int .i64 (p : Nat) ∧ nthV a.tmps.toList 8 = .int .i64 (q : Nat) ∧ nthV a.tmps.toList 12 = ptr c1 ∧ nthV a.tmps.toList 14 = .int .i64 (u : Nat))) (fun u => 4 - u) 1
    ⟨Nat.le_refl _, by omega, HS, ⟨rfl, rfl, rfl, rfl, rfl, rfl, rfl, rfl, rfl⟩⟩ ?_
  clear HS
  rintro J2 hJ2 u a w2 ⟨hu1, hu4, HS, hF_⟩
  (obtain ⟨hd_, hn_, h1_, h5_, h6_, h7_, h8_, h12_, h14_⟩ := hF_; obtain ⟨g, hg_, e_⟩ := frame_open hd_ hn_; rw [hg_] at h1_; rw [hg_] at h5_; rw [hg_] at h6_; rw [hg_] at h7_; rw [hg_] at h8_; rw [hg_] at h12_; rw [hg_] at h14_; have e2_ : litL g 181 [] = [g 0, g 1, g 2, g 3, g 4, g 5, g 6, g 7, g 8, g 9, g 10, g 11, g 12, g 13, g 14, g 15, g 16, g 17, g 18, g 19, g 20, g 21, g 22, g 23, g 24, g 25, g 26, g 27, g 28, g 29, g 30, g 31, g 32, g 33, g 34, g 35, g 36, g 37, g 38, g 39, g 40, g 41, g 42, g 43, g 44, g 45, g 46, g 47, g 48, g 49, g 50, g 51, g 52, g 53, g 54, g 55, g 56, g 57, g 58, g 59, g 60, g 61, g 62, g 63, g 64, g 65, g 66, g 67, g 68, g 69, g 70, g 71, g 72, g 73, g 74, g 75, g 76, g 77, g 78, g 79, g 80, g 81, g 82, g 83, g 84, g 85, g 86, g 87, g 88, g 89, g 90, g 91, g 92, g 93, g 94, g 95, g 96, g 97, g 98, g 99, g 100, g 101, g 102, g 103, g 104, g 105, g 106, g 107, g 108, g 109, g 110, g 111, g 112, g 113, g 114, g 115, g 116, g 117, g 118, g 119, g 120, g 121, g 122, g 123, g 124, g 125, g 126, g 127, g 128, g 129, g 130, g 131, g 132, g 133, g 134, g 135, g 136, g 137, g 138, g 139, g 140, g 141, g 142, g 143, g 144, g 145, g 146, g 147, g 148, g 149, g 150, g 151, g 152, g 153, g 154, g 155, g 156, g 157, g 158, g 159, g 160, g 161, g 162, g 163, g 164, g 165, g 166, g 167, g 168, g 169, g 170, g 171, g 172, g 173, g 174, g 175, g 176, g 177, g 178, g 179, g 180] := rfl; rw [h1_, h5_, h6_, h7_, h8_, h12_, h14_] at e2_; rw [e2_] at e_; clear hd_ hn_ hg_ e2_ h1_ h5_ h6_ h7_ h8_ h12_ h14_; subst e_)
  by_cases hu3 : u ≤ 3
  · have HP1 := Lib.hid (fun (w : World) (hi : Imm M8 w) (hc : w.heap[c1]? = some (curC (q : Nat) r)) => HPL.out M8 HLE8.out c1 hM1 u (by omega) (by omega) w hi hc)
    have HR1 := Lib.hid (fun w hi => HRP.out M8 HLE8.out u (by omega) w hi)
    generalize zN u (l.take q) = zz at HP1 HR1
    have hu3' : (u : Int) ≤ 3 := by omega
    go_wp2_with (first | (go_at_call 23; (with_reducible refine (HP1.out _ HS.imm HS.at0).mono ?_); rintro e w_ ⟨rfl, hb_⟩; (have HS_ := HS.call hb_; clear HS hb_; have HS := HS_; clear HS_)) | (go_at_call 24; (with_reducible refine (HR1.out _ HS.imm).mono ?_); rintro e w_ ⟨rfl, hb_⟩; have HS_ := HS.call hb_; clear HS hb_; have HS := HS_; clear HS_))
    exact ⟨u + 1, hJ2 _ _ _ ⟨by omega, by omega, HS, ⟨rfl, rfl, rfl, rfl, rfl, rfl, rfl, rfl, rfl⟩⟩, by omega⟩
  obtain rfl : u = 4 := by omega
  clear hu1 hu4 hu3
  obtain ⟨j2, q2, k, haq, hjk, hSk⟩ := Skip_at M8 (HGM.out.mono (Mem.le_trans hle2 HLE8.out)) r l (HR.out.mono (Mem.le_trans hle2 HLE8.out)) c1 i q HAT.out 3 (by decide) (by decide) hM1
  have hkZ : k = Z.length ∧ j2 = i + k := by
    have := HZC.out
    rcases hjk with ⟨_, h1, h2⟩ | ⟨h1, _⟩
    · exact ⟨by rw [this]; exact h2, h1⟩
    · omega
  obtain ⟨hk1, hk2⟩ := hkZ
  subst hk1
  have HSK := Lib.hid hSk
  have hq2 := haq.le
  have HPL2 := Lib.hid (fun (M' : Mem) (h : M8.le M') (hM : M' c1 = none) (w : World) (hi : Imm M' w) (hc : w.heap[c1]? = some (curC (q2 : Nat) r)) => by have := Place_edge M' (HGM.out.mono (Mem.le_trans (Mem.le_trans hle2 HLE8.out) h)) r l (HR.out.mono (Mem.le_trans (Mem.le_trans hle2 HLE8.out) h)) c1 q2 hq2 haq.edge 1 (by decide) (by decide) hM w hi hc; rewrite [zN_one hq2] at this; exact this)
  have HAQ := Lib.hid haq
  have HJ2 := Lib.hid hk2
  have HLR := Lib.hid (Mem.le_refl M8)
  have HM1 := Lib.hid hM1
  have hq25 : q2 ≤ 25000 := by omega
  have hZ3 : Z.length ≤ 3 := by have := HZC.out; omega
  clear hSk hjk haq hk2 hM1
  go_wp2_with (first | (go_at_call 21; (with_reducible refine (HSK.out _ HS.imm HS.at0).mono ?_); rintro e w_ ⟨rfl, ht⟩; have HS_ := HS.turn (.head _) ht; clear HS; have HS := HS_; clear HS_) | (go_at_call 23; (with_reducible refine (HPL2.out M8 HLR.out HM1.out _ HS.imm HS.at0).mono ?_); rintro e w_ ⟨rfl, hb_⟩; (have HS_ := HS.call hb_; clear HS hb_; have HS := HS_; clear HS_)) | (go_at_call 33; (with_reducible refine (HFO3.out M8 HLE8.out _ HS.imm).mono ?_); rintro e w_ ⟨A9, c9, M9, rfl, hg9, hs9⟩; have HLE9 := Lib.hid hg9.le; have hs_hg9 := HS.moved.size; have HS_ := HS.callM hg9.below hg9.fresh hg9.imm; clear HS; have HS := HS_; clear HS_))
  have hM9 := (HS.base _ (.head _)).2
  simp only at hM9
  clear hg9 hs_hg9
  refine wp_loop_i (σ := Nat) (fun t a w2 => t ≤ Z.length ∧ ∃ to : Nat, AtStep l (i + t) to ∧ St (fun k => w.heap.size ≤ k) w w2 M9 [(c1, curC (q2 : Nat) r)] ∧ (a.defers = [] ∧ a.tmps.toList.length = 181 ∧ nthV a.tmps.toList 1 = .int .i64 z ∧ nthV a.tmps.toList 5 = ptr r ∧ nthV a.tmps.toList 6 = .slice A (List.length (α := UInt8) l) c ∧ nthV a.tmps.toList 7 = .int .i64 (p : Nat) ∧ nthV a.tmps.toList 8 = .int .i64 (q : Nat) ∧ nthV a.tmps.toList 12 = ptr c1 ∧ nthV a.tmps.toList 19 = .int .i64 (Z.length : Nat) ∧ nthV a.tmps.toList 20 = .int .i64 (q2 : Nat) ∧ nthV a.tmps.toList 22 = .slice A9 Z.length c9 ∧ nthV a.tmps.toList 23 = .int .i64 (to : Nat) ∧ nthV a.tmps.toList 141 = .slice A9 Z.length c9 ∧ nthV a.tmps.toList 142 = .int .i64 (Z.length : Nat) ∧ nthV a.tmps.toList 143 = .int .i64 (t : Nat))) (fun t => Z.length - t) 0
    ⟨Nat.zero_le _, q, HAT.out, HS, ⟨rfl, rfl, rfl, rfl, rfl, rfl, rfl, rfl, rfl, rfl, rfl, rfl, rfl, rfl, rfl⟩⟩ ?_
  clear HS
  rintro J3 hJ3 t a w2 ⟨ht, to, hto, HS, hF_⟩
  (obtain ⟨hd_, hn_, h1_, h5_, h6_, h7_, h8_, h12_, h19_, h20_, h22_, h23_, h141_, h142_, h143_⟩ := hF_; obtain ⟨g, hg_, e_⟩ := frame_open hd_ hn_; rw [hg_] at h1_; rw [hg_] at h5_; rw [hg_] at h6_; rw [hg_] at h7_; rw [hg_] at h8_; rw [hg_] at h12_; rw [hg_] at h19_; rw [hg_] at h20_; rw [hg_] at h22_; rw [hg_] at h23_; rw [hg_] at h141_; rw [hg_] at h142_; rw [hg_] at h143_; have e2_ : litL g 181 [] = [g 0, g 1, g 2, g 3, g 4, g 5, g 6, g 7, g 8, g 9, g 10, g 11, g 12, g 13, g 14, g 15, g 16, g 17, g 18, g 19, g 20, g 21, g 22, g 23, g 24, g 25, g 26, g 27, g 28, g 29, g 30, g 31, g 32, g 33, g 34, g 35, g 36, g 37, g 38, g 39, g 40, g 41, g 42, g 43, g 44, g 45, g 46, g 47, g 48, g 49, g 50, g 51, g 52, g 53, g 54, g 55, g 56, g 57, g 58, g 59, g 60, g 61, g 62, g 63, g 64, g 65, g 66, g 67, g 68, g 69, g 70, g 71, g 72, g 73, g 74, g 75, g 76, g 77, g 78, g 79, g 80, g 81, g 82, g 83, g 84, g 85, g 86, g 87, g 88, g 89, g 90, g 91, g 92, g 93, g 94, g 95, g 96, g 97, g 98, g 99, g 100, g 101, g 102, g 103, g 104, g 105, g 106, g 107, g 108, g 109, g 110, g 111, g 112, g 113, g 114, g 115, g 116, g 117, g 118, g 119, g 120, g 121, g 122, g 123, g 124, g 125, g 126, g 127, g 128, g 129, g 130, g 131, g 132, g 133, g 134, g 135, g 136, g 137, g 138, g 139, g 140, g 141, g 142, g 143, g 144, g 145, g 146, g 147, g 148, g 149, g 150, g 151, g 152, g 153, g 154, g 155, g 156, g 157, g 158, g 159, g 160, g 161, g 162, g 163, g 164, g 165, g 166, g 167, g 168, g 169, g 170, g 171, g 172, g 173, g 174, g 175, g 176, g 177, g 178, g 179, g 180] := rfl; rw [h1_, h5_, h6_, h7_, h8_, h12_, h19_, h20_, h22_, h23_, h141_, h142_, h143_] at e2_; rw [e2_] at e_; clear hd_ hn_ hg_ e2_ h1_ h5_ h6_ h7_ h8_ h12_ h19_ h20_ h22_ h23_ h141_ h142_ h143_; subst e_)
  by_cases hlt : t < Z.length
  · obtain ⟨x, hx⟩ : ∃ x, Z[t]? = some x := ⟨_, List.getElem?_eq_getElem hlt⟩
    obtain ⟨h1, h2, h3⟩ := HZA.out t x hx
    obtain rfl : x.1 = to := h1.inj hto
    have hnx := (h1.next h3).1
    rw [← h2] at hnx
    have hw4 : x.2.w ≤ 4 := by rw [h2]; exact (stp_w _).2
    have HX := Lib.hid hx
    have HNX := Lib.hid hnx
    have hlt' : (t : Int) < Z.length := by omega
    clear hx hnx h1 h2 hto hlt
    go_wp2_with (first | ((with_reducible refine' q_alloc ?_); refine' a_alloc HS ?_; clear HS; intro b_ w_ HS) | ((with_reducible refine' q_box ?_); refine' a_box2 HS ?_; clear HS; intro b_ w_ HS) | ((with_reducible refine' q_load ?_); refine' a_load HS ?_) | ((with_reducible refine' q_store ?_); refine' a_store2 HS ?_; clear HS; intro w_ HS) | (((with_reducible refine' st_idx_sl ?hw ?hx ?hb ?hi ?hj ?_); (case hw => rfl); (case hx => first | exact eval_lit rfl | rfl); (case hb => assumption); (case hi => first | exact eval_lit rfl | rfl); (case hj => first | omega | (simp; omega)); intro b_ o_ hc_); have hcA := at_cells hc_ (x := x) (by simpa using HX.out); clear hc_) | ((with_reducible refine' st_load_aggM (vs := [.int .i64 (x.1 : Nat), .int .i32 (x.2.r : Nat), .int .i64 (x.2.w : Nat), .bool x.2.ok]) ?hw HS ?hx ?hc ?hl ?_); (case hw => first | rfl | (go_simp; done)); (case hx => first | exact eval_lit rfl | rfl); (case hc => exact hcA); (case hl => rfl)))
    rw [show (x.1 : Int) + x.2.w = ((x.1 + x.2.w : Nat) : Int) from by omega]
    exact ⟨t + 1, hJ3 _ _ _ ⟨by omega, x.1 + x.2.w, by rw [← Nat.add_assoc]; exact HNX.out, HS.drop, ⟨rfl, rfl, rfl, rfl, rfl, rfl, rfl, rfl, rfl, rfl, rfl, rfl, rfl, rfl, rfl⟩⟩, by omega⟩
  obtain rfl : t = Z.length := by omega
  obtain rfl : to = q2 := hto.inj (by rw [← HJ2.out]; exact HAQ.out)
  obtain ⟨j3, q3, k3, haq3, hjk3, hSk3⟩ := Skip_at M9 (HGM.out.mono (Mem.le_trans (Mem.le_trans hle2 HLE8.out) HLE9.out)) r l (HR.out.mono (Mem.le_trans (Mem.le_trans hle2 HLE8.out) HLE9.out)) c1 j2 to HAQ.out (-(Z.length : Int)) (by omega) (by omega) hM9
  have hk3 : k3 = Z.length ∧ j3 = i := by
    have := HJ2.out
    rcases hjk3 with ⟨_, h1, h2⟩ | ⟨_, h1, h2⟩ <;> constructor <;> omega
  obtain ⟨rfl, rfl⟩ := hk3
  obtain rfl : q3 = q := haq3.inj HAT.out
  have HSK3 := Lib.hid hSk3
  have HPL3 := Lib.hid (fun (w : World) (hi : Imm M9 w) (hc : w.heap[c1]? = some (curC (q3 : Nat) r)) => by have := Place_edge M9 (HGM.out.mono (Mem.le_trans (Mem.le_trans hle2 HLE8.out) HLE9.out)) r l (HR.out.mono (Mem.le_trans (Mem.le_trans hle2 HLE8.out) HLE9.out)) c1 q3 haq3.le haq3.edge 1 (by decide) (by decide) hM9 w hi hc; rewrite [zN_one haq3.le] at this; exact this)
  clear hjk3 hSk3 haq3 hto ht hlt
  go_wp2_with (first | (go_at_call 21; (with_reducible refine (HSK3.out _ HS.imm HS.at0).mono ?_); rintro e w_ ⟨rfl, ht⟩; have HS_ := HS.turn (.head _) ht; clear HS; have HS := HS_; clear HS_) | (go_at_call 23; (with_reducible refine (HPL3.out _ HS.imm HS.at0).mono ?_); rintro e w_ ⟨rfl, hb_⟩; (have HS_ := HS.call hb_; clear HS hb_; have HS := HS_; clear HS_)))
  exact ⟨(p : Int) + 1, hJ1 _ _ _ ⟨by omega, by omega, M9, Mem.le_trans hle2 (Mem.le_trans HLE8.out HLE9.out), HS.drop, ⟨rfl, rfl, rfl, rfl, rfl, rfl⟩⟩, by omega⟩
end Go.Proofs.YtbogoehjoglneaaDoor
