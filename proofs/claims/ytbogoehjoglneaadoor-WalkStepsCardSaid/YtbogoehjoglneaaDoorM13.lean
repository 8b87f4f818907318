/- WalkSteps returns true. -/
import Derived.Test.YtbogoehjoglneaaDoorM12
set_option linter.unusedVariables false
set_option linter.unusedSimpArgs false
set_option linter.unnecessarySimpa false
set_option linter.unusedSectionVars false
namespace Go.Proofs.YtbogoehjoglneaaDoor
open Go.RowKit
set_option linter.unusedVariables false
set_option linter.unusedSimpArgs false
set_option maxRecDepth 100000
attribute [local go_sem] byt_drop byt_tail Int.toNat_natCast sOf_size fnNil

set_option maxHeartbeats 8000000 in
theorem WSteps_any (M : Mem) (hG : Gl M) (A0 : Option Addr) (n0 c0 : Nat) (vs : List Value) (tt : Bool) (hp : PsAt M A0 n0 c0 vs) (hn : (n0 : Int) ≤ 9223372036854775807) (x y : Int) (w : World) (hi : Imm M w) :
    Calls Tryd.prog 5 #[.agg #[.slice A0 n0 c0, .bool tt], .int .i64 x, .int .i64 y] w fun e w' => e = .returned (.bool true) ∧ Below w.heap.size w w' := by
  have HG := Lib.hid hG
  have HPS := Lib.hid hp
  have HFX := Lib.hid (fun w hi => fixed_any M hG w hi)
  clear hG hp
  (have HS := St.start hi; refine calls_of_marks Tryd.func5 rfl ?_; simp only [Tryd.ntmps5, List.size_toArray, List.length_cons, List.length_nil, Nat.reduceAdd, Nat.reduceSub, Array.replicate_succ, Array.replicate_zero, List.push_toArray, List.append_toArray, List.nil_append, List.cons_append])
  go_wp2_with (first | ((with_reducible refine' st_alloc ?hw HS ?_); (case hw => rfl); intro b_ w_ HS_; clear HS; have HS := HS_; clear HS_) | ((with_reducible refine' st_box ?hw HS ?hx ?_); (case hw => rfl); (case hx => first | (go_simp; exact rfl) | rfl); intro b_ w_ HS_; clear HS; have HS := HS_; clear HS_) | ((with_reducible refine' st_load ?hw HS ?hx ?hb ?hv ?_); (case hw => first | rfl | (go_simp; done)); (case hx => rfl); (case hb => (first | (apply Blk.loc; (repeat (first | (with_reducible exact List.mem_cons_self) | apply List.mem_cons_of_mem)); done) | (apply Blk.imm; with_reducible assumption))); (case hv => (simp only [ldv, List.length_cons, List.length_nil, List.drop_succ_cons, List.drop_zero, List.take_succ_cons, List.take_zero, List.getElem?_cons_succ, List.getElem?_cons_zero, Nat.reduceAdd, Nat.reduceMul, Nat.reduceLeDiff, Int.toNat_natCast, Int.toNat_zero, Int.toNat_one, Int.reduceToNat, Bool.false_eq_true, if_true, if_false, Nat.zero_add, Nat.zero_mul, Nat.one_mul]; exact rfl))) | ((with_reducible refine' st_store ?hw HS ?hx ?hy ?hr ?hl ?ho ?hoff ?hc ?_); (case hw => rfl); (case hx => rfl); (case hy => first | (go_simp; exact rfl) | rfl); (case hr => repeat (first | exact Rep1.head _ | apply Rep1.tail)); (case hl => rfl); (case ho => rfl); (case hoff => exact Nat.le_of_ble_eq_true rfl); (case hc => (simp only [ovw, List.length_cons, List.length_nil, List.drop_succ_cons, List.drop_zero, List.take_succ_cons, List.take_zero, List.drop_nil, List.append_nil, List.nil_append, List.cons_append, Nat.reduceAdd, Nat.zero_add]; exact rfl)); intro w_ HS_; clear HS; have HS := HS_; clear HS_) | (go_at_call 14; (with_reducible refine (HFX.out _ HS.imm).mono ?_); rintro e w_ ⟨rfl, hb_⟩; have HS_ := HS.call hb_; clear HS hb_; have HS := HS_; clear HS_) | (go_at_call 15; (with_reducible refine (made_any' M HG.out A0 n0 c0 vs tt HPS.out hn _ HS.imm).mono ?_); rintro e w_ ⟨r, A, c, M1, l, rfl, hg1, hr, hb, hl⟩; have HR := Lib.hid hr; have HB := Lib.hid hb; have HGM := Lib.hid (HG.out.mono hg1.le); have hs_hg1 := HS.moved.size; have HS_ := HS.callM hg1.below hg1.fresh hg1.imm; clear HS; have HS := HS_; clear HS_) | (go_at_call 25; (with_reducible refine (Steps_any M1 r x _ HS.imm).mono ?_); rintro e w_ ⟨b1, b2, M2, rfl, hg2, q1, q2⟩; have hs_hg2 := HS.moved.size; have HS_ := HS.callM hg2.below hg2.fresh hg2.imm; clear HS; have HS := HS_; clear HS_) | (go_at_call 28; (with_reducible refine (Back_any M2 r x _ HS.imm).mono ?_); rintro e w_ ⟨b3, b4, M3, rfl, hg3, q3, q4⟩; have hs_hg3 := HS.moved.size; have HS_ := HS.callM hg3.below hg3.fresh hg3.imm; clear HS; have HS := HS_; clear HS_) | (go_at_call 29; (with_reducible refine (rSteps_any M3 A c l.length l (HB.out.mono (Mem.le_trans hg2.le hg3.le)) rfl (by omega) x _ HS.imm).mono ?_); rintro e w_ ⟨A4, c4, M4, rfl, hg4, hs4⟩; have hs_hg4 := HS.moved.size; have HS_ := HS.callM hg4.below hg4.fresh hg4.imm; clear HS; have HS := HS_; clear HS_) | (go_at_call 30; (with_reducible refine (rBack_any M4 A c l.length l (HB.out.mono (Mem.le_trans hg2.le (Mem.le_trans hg3.le hg4.le))) rfl (by omega) x _ HS.imm).mono ?_); rintro e w_ ⟨A5, c5, M5, rfl, hg5, hs5⟩; have hs_hg5 := HS.moved.size; have HS_ := HS.callM hg5.below hg5.fresh hg5.imm; clear HS; have HS := HS_; clear HS_))
  rename_i bt _ be _ _ _ _ _ _ _ _ _ _
  have le15 : M1.le M5 := Mem.le_trans hg2.le (Mem.le_trans hg3.le (Mem.le_trans hg4.le hg5.le))
  have le25 : M2.le M5 := Mem.le_trans hg3.le (Mem.le_trans hg4.le hg5.le)
  have le35 : M3.le M5 := Mem.le_trans hg4.le hg5.le
  have hnf := stepsI_len l x
  have hnb := backI_len l x
  have hF := fun (M' : Mem) (h : M5.le M') => Steps1_any M' (HGM.out.mono (Mem.le_trans le15 h)) r l (HR.out.mono (Mem.le_trans le15 h)) b1 b2 x (h _ _ (le25 _ _ q1)) (h _ _ (le25 _ _ q2))
  have hB := fun (M' : Mem) (h : M5.le M') => Back1_any M' (HGM.out.mono (Mem.le_trans le15 h)) r l (HR.out.mono (Mem.le_trans le15 h)) b3 b4 x (h _ _ (le35 _ _ q3)) (h _ _ (le35 _ _ q4))
  have HGF := Lib.hid (fun (M' : Mem) (h : M5.le M') w hi => gone_any M' _ _ (stepsI l x) (hF M' h) (enters_of Tryd.func64 (by kernel_rfl) rfl) (by omega) w hi)
  have HGB := Lib.hid (fun (M' : Mem) (h : M5.le M') w hi => gone_any M' _ _ (backI l x) (hB M' h) (enters_of Tryd.func65 (by kernel_rfl) rfl) (by omega) w hi)
  have H4 := Lib.hid (hs4.mono hg5.le)
  have H5 := Lib.hid hs5
  have hSEQ := hF M5 (Mem.le_refl _)
  clear hF hB le15 le25 le35 q1 q2 q3 q4 hs4 hs5 hg1 hg2 hg3 hg4 hg5 hs_hg1 hs_hg2 hs_hg3 hs_hg4 hs_hg5 hr hb
  refine wp_join (fun a' w' => ∃ (D k : Nat), ((k : Int) ≤ y ∨ k ≤ 1) ∧ (∃ g : Nat → Value, a' = { tmps := #[g 0, g 1, g 2, g 3, g 4, ptr be, g 6, g 7, g 8, .func (.func 64) #[] #[ptr b1, ptr b2], .func (.func 65) #[] #[ptr b3, ptr b4], .slice A4 (stepsI l x).length c4, .slice A5 (backI l x).length c5, ptr b_, g 14, g 15, g 16, g 17, g 18, g 19, g 20, g 21, g 22, g 23, g 24, g 25, g 26, g 27, g 28, g 29, g 30, g 31, g 32, g 33, g 34, g 35, g 36, g 37, g 38, g 39, g 40, g 41, g 42, g 43, g 44, g 45, g 46, g 47, g 48, g 49, g 50, g 51, g 52, g 53, g 54, g 55, g 56, g 57, g 58, g 59, g 60, g 61, g 62, g 63, g 64, g 65, g 66, g 67, g 68, g 69, g 70, g 71, g 72, g 73, g 74, g 75, g 76], defers := [{ target := .collected D, args := #[] }] }) ∧
    St (fun k => w.heap.size ≤ k) w w' M5 [(D, .deferred (some [])), (b_, .cells [.int .i64 (k : Nat)].toArray 3 (0, 0)), (be, .cells [.int .i64 y].toArray 3 (0, 0)), (bt, .cells [.slice A0 n0 c0, .bool tt].toArray 24 (0, 0))]) ?_ ?_
  · refine' wp_rangeC HS rfl (enters_of Tryd.func64 (by kernel_rfl) rfl) hSEQ ?hps
      (fun pre L' => L' = [(b_, .cells [.int .i64 (pre.length : Nat)].toArray 3 (0, 0)), (be, .cells [.int .i64 y].toArray 3 (0, 0)), (bt, .cells [.slice A0 n0 c0, .bool tt].toArray 24 (0, 0))] ∧ (pre ≠ [] → (pre.length : Int) < y))
      (fun cc pre L' => cc = .exit 0 ∧ L' = [(b_, .cells [.int .i64 (pre.length : Nat)].toArray 3 (0, 0)), (be, .cells [.int .i64 y].toArray 3 (0, 0)), (bt, .cells [.slice A0 n0 c0, .bool tt].toArray 24 (0, 0))] ∧ ((pre.length : Int) ≤ y ∨ pre.length ≤ 1)) ?h0 ?hround ?hdone ?hstop
    case h0 => exact ⟨rfl, fun h => absurd rfl h⟩
    case hps => rintro _ _ _ _ ⟨rfl, rfl⟩; rfl
    case hround =>
      clear HS
      intro lp D o1 o2 pre z vs Fr L' M6 W K hpre hΦ hV hle1 HS hK
      obtain ⟨rfl, rfl⟩ := hV
      obtain ⟨rfl, hpb⟩ := hΦ
      have hlen := hpre.length_le
      rw [List.length_append, List.length_singleton] at hlen
      rw [List.nil_append] at HS
      have HPB := Lib.hid hpb; clear hpb hpre hSEQ
      generalize hpl : pre.length = pl at *
      have HPL := Lib.hid hpl; clear hpl
      simp only [List.zip_toArray, List.foldl_toArray, List.zip_cons_cons, List.zip_nil_right, List.foldl_cons, List.foldl_nil, List.setIfInBounds_toArray, List.set_cons_succ, List.set_cons_zero, List.size_toArray, List.length_cons, List.length_nil, List.foldl_toArray']
      repeat' (first | ((with_reducible refine' st_alloc ?hw HS ?_); (case hw => rfl); intro b_ w_ HS_; clear HS; have HS := HS_; clear HS_) | ((with_reducible refine' st_box ?hw HS ?hx ?_); (case hw => rfl); (case hx => first | (go_simp; exact rfl) | rfl); intro b_ w_ HS_; clear HS; have HS := HS_; clear HS_) | ((with_reducible refine' st_load ?hw HS ?hx ?hb ?hv ?_); (case hw => first | rfl | (go_simp; done)); (case hx => rfl); (case hb => (first | (apply Blk.loc; (repeat (first | (with_reducible exact List.mem_cons_self) | apply List.mem_cons_of_mem)); done) | (apply Blk.imm; with_reducible assumption))); (case hv => (simp only [ldv, List.length_cons, List.length_nil, List.drop_succ_cons, List.drop_zero, List.take_succ_cons, List.take_zero, List.getElem?_cons_succ, List.getElem?_cons_zero, Nat.reduceAdd, Nat.reduceMul, Nat.reduceLeDiff, Int.toNat_natCast, Int.toNat_zero, Int.toNat_one, Int.reduceToNat, Bool.false_eq_true, if_true, if_false, Nat.zero_add, Nat.zero_mul, Nat.one_mul]; exact rfl))) | ((with_reducible refine' st_store ?hw HS ?hx ?hy ?hr ?hl ?ho ?hoff ?hc ?_); (case hw => rfl); (case hx => rfl); (case hy => first | (go_simp; exact rfl) | rfl); (case hr => repeat (first | exact Rep1.head _ | apply Rep1.tail)); (case hl => rfl); (case ho => rfl); (case hoff => exact Nat.le_of_ble_eq_true rfl); (case hc => (simp only [ovw, List.length_cons, List.length_nil, List.drop_succ_cons, List.drop_zero, List.take_succ_cons, List.take_zero, List.drop_nil, List.append_nil, List.nil_append, List.cons_append, Nat.reduceAdd, Nat.zero_add]; exact rfl)); intro w_ HS_; clear HS; have HS := HS_; clear HS_) | ((with_reducible refine' wpIn_region_plain ?hd ?hno ?_); (case hd => rfl); (case hno => (rintro ⟨_, _, h⟩; first | exact (h : False) | exact (h : (∃ v, Ending.outgrown = Ending.returned v) ∧ _).1.elim (fun v hv => nomatch hv) | exact (h : Ending.outgrown = Ending.returned _ ∧ _).1.elim | exact (h : (Ending.outgrown = Ending.returned _ ∧ _) ∨ (Ending.outgrown = Ending.returned _ ∧ _)).elim (fun h => nomatch h.1) (fun h => nomatch h.1)))) | go_values | go_skip | go_guarded | go_step | go_upon | gi_step | (simp only [Int.not_lt, Int.not_le] at *; go_simp) | (go_values <;> (try go_simp)) | (go_ite <;> go_prune <;> (try go_simp)) | (split <;> (first | (rename_i hx; exact (hx _ rfl).elim) | go_prune)))
      refine hK _ _ _ _ (Mem.le_refl _) HS ?_
      clear hK HS
      intro o3 W2 HS
      have hl2 : (pre ++ [z]).length = pl + 1 := by rw [List.length_append, HPL.out]; rfl
      have HL2 := Lib.hid hl2; clear hl2
      by_cases hc : y ≤ (pl : Int) + 1
      · repeat' (first | ((with_reducible refine' st_alloc ?hw HS ?_); (case hw => rfl); intro b_ w_ HS_; clear HS; have HS := HS_; clear HS_) | ((with_reducible refine' st_box ?hw HS ?hx ?_); (case hw => rfl); (case hx => first | (go_simp; exact rfl) | rfl); intro b_ w_ HS_; clear HS; have HS := HS_; clear HS_) | ((with_reducible refine' st_load ?hw HS ?hx ?hb ?hv ?_); (case hw => first | rfl | (go_simp; done)); (case hx => rfl); (case hb => (first | (apply Blk.loc; (repeat (first | (with_reducible exact List.mem_cons_self) | apply List.mem_cons_of_mem)); done) | (apply Blk.imm; with_reducible assumption))); (case hv => (simp only [ldv, List.length_cons, List.length_nil, List.drop_succ_cons, List.drop_zero, List.take_succ_cons, List.take_zero, List.getElem?_cons_succ, List.getElem?_cons_zero, Nat.reduceAdd, Nat.reduceMul, Nat.reduceLeDiff, Int.toNat_natCast, Int.toNat_zero, Int.toNat_one, Int.reduceToNat, Bool.false_eq_true, if_true, if_false, Nat.zero_add, Nat.zero_mul, Nat.one_mul]; exact rfl))) | ((with_reducible refine' st_store ?hw HS ?hx ?hy ?hr ?hl ?ho ?hoff ?hc ?_); (case hw => rfl); (case hx => rfl); (case hy => first | (go_simp; exact rfl) | rfl); (case hr => repeat (first | exact Rep1.head _ | apply Rep1.tail)); (case hl => rfl); (case ho => rfl); (case hoff => exact Nat.le_of_ble_eq_true rfl); (case hc => (simp only [ovw, List.length_cons, List.length_nil, List.drop_succ_cons, List.drop_zero, List.take_succ_cons, List.take_zero, List.drop_nil, List.append_nil, List.nil_append, List.cons_append, Nat.reduceAdd, Nat.zero_add]; exact rfl)); intro w_ HS_; clear HS; have HS := HS_; clear HS_) | ((with_reducible refine' wpIn_region_plain ?hd ?hno ?_); (case hd => rfl); (case hno => (rintro ⟨_, _, h⟩; first | exact (h : False) | exact (h : (∃ v, Ending.outgrown = Ending.returned v) ∧ _).1.elim (fun v hv => nomatch hv) | exact (h : Ending.outgrown = Ending.returned _ ∧ _).1.elim | exact (h : (Ending.outgrown = Ending.returned _ ∧ _) ∨ (Ending.outgrown = Ending.returned _ ∧ _)).elim (fun h => nomatch h.1) (fun h => nomatch h.1)))) | go_values | go_skip | go_guarded | go_step | go_upon | gi_step | (simp only [Int.not_lt, Int.not_le] at *; go_simp) | (go_values <;> (try go_simp)) | (go_ite <;> go_prune <;> (try go_simp)) | (split <;> (first | (rename_i hx; exact (hx _ rfl).elim) | go_prune)))
        refine ⟨M6, _, Mem.le_refl _, HS, rfl, by rw [HL2.out]; rfl, ?_⟩
        rw [HL2.out]
        by_cases hp : pre = []
        · right; have := HPL.out; rw [hp] at this; simp at this; omega
        · left; have := HPB.out hp; omega
      · repeat' (first | ((with_reducible refine' st_alloc ?hw HS ?_); (case hw => rfl); intro b_ w_ HS_; clear HS; have HS := HS_; clear HS_) | ((with_reducible refine' st_box ?hw HS ?hx ?_); (case hw => rfl); (case hx => first | (go_simp; exact rfl) | rfl); intro b_ w_ HS_; clear HS; have HS := HS_; clear HS_) | ((with_reducible refine' st_load ?hw HS ?hx ?hb ?hv ?_); (case hw => first | rfl | (go_simp; done)); (case hx => rfl); (case hb => (first | (apply Blk.loc; (repeat (first | (with_reducible exact List.mem_cons_self) | apply List.mem_cons_of_mem)); done) | (apply Blk.imm; with_reducible assumption))); (case hv => (simp only [ldv, List.length_cons, List.length_nil, List.drop_succ_cons, List.drop_zero, List.take_succ_cons, List.take_zero, List.getElem?_cons_succ, List.getElem?_cons_zero, Nat.reduceAdd, Nat.reduceMul, Nat.reduceLeDiff, Int.toNat_natCast, Int.toNat_zero, Int.toNat_one, Int.reduceToNat, Bool.false_eq_true, if_true, if_false, Nat.zero_add, Nat.zero_mul, Nat.one_mul]; exact rfl))) | ((with_reducible refine' st_store ?hw HS ?hx ?hy ?hr ?hl ?ho ?hoff ?hc ?_); (case hw => rfl); (case hx => rfl); (case hy => first | (go_simp; exact rfl) | rfl); (case hr => repeat (first | exact Rep1.head _ | apply Rep1.tail)); (case hl => rfl); (case ho => rfl); (case hoff => exact Nat.le_of_ble_eq_true rfl); (case hc => (simp only [ovw, List.length_cons, List.length_nil, List.drop_succ_cons, List.drop_zero, List.take_succ_cons, List.take_zero, List.drop_nil, List.append_nil, List.nil_append, List.cons_append, Nat.reduceAdd, Nat.zero_add]; exact rfl)); intro w_ HS_; clear HS; have HS := HS_; clear HS_) | ((with_reducible refine' wpIn_region_plain ?hd ?hno ?_); (case hd => rfl); (case hno => (rintro ⟨_, _, h⟩; first | exact (h : False) | exact (h : (∃ v, Ending.outgrown = Ending.returned v) ∧ _).1.elim (fun v hv => nomatch hv) | exact (h : Ending.outgrown = Ending.returned _ ∧ _).1.elim | exact (h : (Ending.outgrown = Ending.returned _ ∧ _) ∨ (Ending.outgrown = Ending.returned _ ∧ _)).elim (fun h => nomatch h.1) (fun h => nomatch h.1)))) | go_values | go_skip | go_guarded | go_step | go_upon | gi_step | (simp only [Int.not_lt, Int.not_le] at *; go_simp) | (go_values <;> (try go_simp)) | (go_ite <;> go_prune <;> (try go_simp)) | (split <;> (first | (rename_i hx; exact (hx _ rfl).elim) | go_prune)))
        refine ⟨M6, _, Mem.le_refl _, HS, by rw [HL2.out]; rfl, fun _ => ?_⟩
        rw [HL2.out]
        omega
    case hdone =>
      rintro D W L' HS ⟨rfl, hpb⟩
      refine ⟨.inl rfl, D, _, ?_, actg rfl, HS⟩
      by_cases h : stepsI l x = []
      · right; rw [h]; simp
      · left; have := hpb h; omega
    case hstop =>
      rintro D W L' cc pre hpre HS ⟨rfl, rfl, hpb⟩
      refine wp_exit ⟨.inr rfl, D, _, hpb, actg rfl, HS⟩
  · clear HS hSEQ
    rintro a w9 ⟨D, k, hk, ⟨g, rfl⟩, HS⟩
    have HLE := Lib.hid (Mem.le_refl M5)
    rcases Int.lt_trichotomy 1 y with hy | hy | hy
    all_goals
      first
        | (have hk' : (k : Int) ≤ 1 := by omega)
        | (have hk' : (k : Int) ≤ y := by omega)
      clear hk
      go_wp2_with (first | ((with_reducible refine' st_alloc ?hw HS ?_); (case hw => rfl); intro b_ w_ HS_; clear HS; have HS := HS_; clear HS_) | ((with_reducible refine' st_box ?hw HS ?hx ?_); (case hw => rfl); (case hx => first | (go_simp; exact rfl) | rfl); intro b_ w_ HS_; clear HS; have HS := HS_; clear HS_) | ((with_reducible refine' st_load ?hw HS ?hx ?hb ?hv ?_); (case hw => first | rfl | (go_simp; done)); (case hx => rfl); (case hb => (first | (apply Blk.loc; (repeat (first | (with_reducible exact List.mem_cons_self) | apply List.mem_cons_of_mem)); done) | (apply Blk.imm; with_reducible assumption))); (case hv => (simp only [ldv, List.length_cons, List.length_nil, List.drop_succ_cons, List.drop_zero, List.take_succ_cons, List.take_zero, List.getElem?_cons_succ, List.getElem?_cons_zero, Nat.reduceAdd, Nat.reduceMul, Nat.reduceLeDiff, Int.toNat_natCast, Int.toNat_zero, Int.toNat_one, Int.reduceToNat, Bool.false_eq_true, if_true, if_false, Nat.zero_add, Nat.zero_mul, Nat.one_mul]; exact rfl))) | ((with_reducible refine' st_store ?hw HS ?hx ?hy ?hr ?hl ?ho ?hoff ?hc ?_); (case hw => rfl); (case hx => rfl); (case hy => first | (go_simp; exact rfl) | rfl); (case hr => repeat (first | exact Rep1.head _ | apply Rep1.tail)); (case hl => rfl); (case ho => rfl); (case hoff => exact Nat.le_of_ble_eq_true rfl); (case hc => (simp only [ovw, List.length_cons, List.length_nil, List.drop_succ_cons, List.drop_zero, List.take_succ_cons, List.take_zero, List.drop_nil, List.append_nil, List.nil_append, List.cons_append, Nat.reduceAdd, Nat.zero_add]; exact rfl)); intro w_ HS_; clear HS; have HS := HS_; clear HS_) | (go_at_call 26; (with_reducible first | refine (HGF.out _ HLE.out _ HS.imm).mono ?_ | refine (HGB.out _ HLE.out _ HS.imm).mono ?_); rintro e w_ ⟨A6, c6, M6, rfl, hg6, hs6⟩; have hs_hg6 := HS.moved.size; have HS_ := HS.callM hg6.below hg6.fresh hg6.imm; clear HS; have HS := HS_; clear HS_; have HLE_ := Lib.hid (Mem.le_trans HLE.out hg6.le); clear HLE; have HLE := HLE_; clear HLE_; have HS6 := Lib.hid hs6; clear hs6 hg6 hs_hg6) | (go_at_call 31; (with_reducible first | refine (same_any _ (stepsI l x) _ _ _ _ _ _ rfl rfl HS6.out (H4.out.mono HLE.out) (by omega) _ HS.imm).mono ?_ | refine (same_any _ (backI l x) _ _ _ _ _ _ rfl rfl HS6.out (H5.out.mono HLE.out) (by omega) _ HS.imm).mono ?_); rintro e w_ ⟨rfl, hb_⟩; (have HS_ := HS.call hb_; clear HS hb_; have HS := HS_; clear HS_); clear HS6))
      ((refine' leaves_mark HS rfl ?hm ?_); (case hm => repeat (first | exact Rep1.head _ | apply Rep1.tail)); intro w_ HS_; clear HS; have HS := HS_; clear HS_)
      refine leaves_plain ?_
      go_ret
      exact ⟨rfl, HS.below⟩
end Go.Proofs.YtbogoehjoglneaaDoor
