/- octet: classes of bytes, encodings, runes: what the Go functions answer. -/
import Derived.Lib.Strings
import Derived.Test.YtbogoehjoglneaaDoorM1
set_option linter.unusedVariables false
set_option linter.unusedSimpArgs false
set_option linter.unnecessarySimpa false
set_option linter.unusedSectionVars false
namespace Go.Proofs.YtbogoehjoglneaaDoor
open Go.RowKit
set_option linter.unusedVariables false
set_option linter.unusedSimpArgs false
set_option maxRecDepth 100000

def i3 (a b c : Nat) : List Value := [.int .i64 a, .int .i64 b, .int .i64 c]
/- The program's tables, as they lie in memory. -/
structure Gl (M : Mem) : Prop where
  spans : ∃ t fr, M 3 = some (.cells [Value.int .i64 0, .int .i64 127, .int .i64 1, .int .i64 128, .int .i64 191, .int .i64 2, .int .i64 192, .int .i64 193, .int .i64 6, .int .i64 194, .int .i64 223, .int .i64 3, .int .i64 224, .int .i64 239, .int .i64 4, .int .i64 240, .int .i64 244, .int .i64 5, .int .i64 245, .int .i64 255, .int .i64 6].toArray t fr)
  needs : ∃ t fr, M 2 = some (.cells [Value.int .i64 0, .int .i64 1, .int .i64 0, .int .i64 2, .int .i64 3, .int .i64 4, .int .i64 0].toArray t fr)
  masks : ∃ t fr, M 1 = some (.cells [Value.int .u8 0, .int .u8 127, .int .u8 31, .int .u8 15, .int .u8 7].toArray t fr)
  bad : ∃ t fr, M 0 = some (.cells [Value.int .i32 65533, .int .i64 1, .bool false].toArray t fr)

theorem Gl.mono {M M' : Mem} (h : Gl M) (hm : M.le M') : Gl M' :=
  ⟨let ⟨t, fr, e⟩ := h.spans; ⟨t, fr, hm _ _ e⟩, let ⟨t, fr, e⟩ := h.needs; ⟨t, fr, hm _ _ e⟩, let ⟨t, fr, e⟩ := h.masks; ⟨t, fr, hm _ _ e⟩, let ⟨t, fr, e⟩ := h.bad; ⟨t, fr, hm _ _ e⟩⟩

def clsN (x : Nat) : Nat := if x ≤ 127 then 1 else if x ≤ 191 then 2 else if x ≤ 193 then 6 else if x ≤ 223 then 3 else if x ≤ 239 then 4 else if x ≤ 244 then 5 else 6
def needN (x : Nat) : Nat := if x ≤ 127 then 1 else if x ≤ 193 then 0 else if x ≤ 223 then 2 else if x ≤ 239 then 3 else if x ≤ 244 then 4 else 0
/- What spans 0 to i - 1 leave. -/
def spanLo (i : Nat) : Nat := [0, 128, 192, 194, 224, 240, 245, 256].getD i 256

theorem ret_bool {a b : Bool} (h : a = b) : Ending.returned (.bool a) = .returned (.bool b) := by rw [h]
theorem ret_int {k : IntKind} {a b : Int} (h : a = b) : Ending.returned (.int k a) = .returned (.int k b) := by rw [h]

set_option maxHeartbeats 1000000 in
theorem Class_any (M : Mem) (hG : Gl M) (x : Nat) (hx : x < 256) (w : World) (hi : Imm M w) :
    Calls Tryd.prog 145 #[.int .u8 x] w fun e w' => e = .returned (.int .i64 (clsN x)) ∧ Below w.heap.size w w' := by
  obtain ⟨t3, fr3, g3⟩ := hG.spans
  have G3 := Lib.hid g3; clear g3
  have HS := St.start hi
  have h256 : (x : Int) < 256 := by omega
  have h0 : (0 : Int) ≤ x := by omega
  go_enter Tryd.func145, Tryd.ntmps145
  go_wp2_with ((with_reducible refine' st_load ?hw HS ?hx ?hb ?hv ?_); (case hw => rfl); (case hx => rfl); (case hb => exact Blk.imm G3.out); (case hv => exact rfl))
  go_loopw [6] (fun i wr => ∃ k : Nat, k ≤ 7 ∧ i = .int .i64 k ∧ spanLo k ≤ x ∧ St (fun k => w.heap.size ≤ k) w wr M []) (fun i _ => 7 - (intOf i).toNat)
  case atStart => exact ⟨0, by omega, rfl, Nat.zero_le _, HS⟩
  case round =>
    clear HS
    obtain ⟨k, hk, rfl, hlo, HS⟩ := hrel
    obtain rfl | rfl | rfl | rfl | rfl | rfl | rfl | rfl : k = 0 ∨ k = 1 ∨ k = 2 ∨ k = 3 ∨ k = 4 ∨ k = 5 ∨ k = 6 ∨ k = 7 := by omega
    · have hlo2 : (0 : Int) ≤ x := by have : spanLo 0 = 0 := rfl; omega
      go_wp2_with (first | ((with_reducible refine' q_alloc ?_); refine' a_alloc HS ?_; clear HS; intro b_ w_ HS) | ((with_reducible refine' q_box ?_); refine' a_box HS ?_; clear HS; intro b_ w_ HS) | ((with_reducible refine' q_load ?_); refine' a_load HS ?_) | ((with_reducible refine' q_store ?_); refine' a_store HS ?_; clear HS; intro w_ HS) | ((with_reducible refine' st_index_arr (T := 232) (n := 7) (e := 231) ?hw Tryd.underlying232 ?hx ?hi ?hj ?hv ?_); (case hw => rfl); (case hx => first | exact eval_lit rfl | rfl); (case hi => first | exact eval_lit rfl | rfl); (case hj => omega); (case hv => (simp only [ldv, List.length_cons, List.length_nil, List.drop_succ_cons, List.drop_zero, List.take_succ_cons, List.take_zero, List.getElem?_cons_succ, List.getElem?_cons_zero, Nat.reduceAdd, Nat.reduceMul, Nat.reduceLeDiff, Int.toNat_natCast, Int.toNat_zero, Int.toNat_one, Int.reduceToNat, Bool.false_eq_true, if_true, if_false, Nat.zero_add, Nat.zero_mul, Nat.one_mul]; exact rfl))))
      · go_ret
        exact ⟨ret_int (by rw [show clsN x = 1 from by unfold clsN; (repeat' split) <;> omega]; rfl), HS.below⟩
      · go_roundw
        case rel => exact ⟨1, by omega, by rfl, by show 128 ≤ x; omega, HS.drop⟩
        case measure => simp [intOf]
    · have hlo2 : (128 : Int) ≤ x := by have : spanLo 1 = 128 := rfl; omega
      go_wp2_with (first | ((with_reducible refine' q_alloc ?_); refine' a_alloc HS ?_; clear HS; intro b_ w_ HS) | ((with_reducible refine' q_box ?_); refine' a_box HS ?_; clear HS; intro b_ w_ HS) | ((with_reducible refine' q_load ?_); refine' a_load HS ?_) | ((with_reducible refine' q_store ?_); refine' a_store HS ?_; clear HS; intro w_ HS) | ((with_reducible refine' st_index_arr (T := 232) (n := 7) (e := 231) ?hw Tryd.underlying232 ?hx ?hi ?hj ?hv ?_); (case hw => rfl); (case hx => first | exact eval_lit rfl | rfl); (case hi => first | exact eval_lit rfl | rfl); (case hj => omega); (case hv => (simp only [ldv, List.length_cons, List.length_nil, List.drop_succ_cons, List.drop_zero, List.take_succ_cons, List.take_zero, List.getElem?_cons_succ, List.getElem?_cons_zero, Nat.reduceAdd, Nat.reduceMul, Nat.reduceLeDiff, Int.toNat_natCast, Int.toNat_zero, Int.toNat_one, Int.reduceToNat, Bool.false_eq_true, if_true, if_false, Nat.zero_add, Nat.zero_mul, Nat.one_mul]; exact rfl))))
      · go_ret
        exact ⟨ret_int (by rw [show clsN x = 2 from by unfold clsN; (repeat' split) <;> omega]; rfl), HS.below⟩
      · go_roundw
        case rel => exact ⟨2, by omega, by rfl, by show 192 ≤ x; omega, HS.drop⟩
        case measure => simp [intOf]
    · have hlo2 : (192 : Int) ≤ x := by have : spanLo 2 = 192 := rfl; omega
      go_wp2_with (first | ((with_reducible refine' q_alloc ?_); refine' a_alloc HS ?_; clear HS; intro b_ w_ HS) | ((with_reducible refine' q_box ?_); refine' a_box HS ?_; clear HS; intro b_ w_ HS) | ((with_reducible refine' q_load ?_); refine' a_load HS ?_) | ((with_reducible refine' q_store ?_); refine' a_store HS ?_; clear HS; intro w_ HS) | ((with_reducible refine' st_index_arr (T := 232) (n := 7) (e := 231) ?hw Tryd.underlying232 ?hx ?hi ?hj ?hv ?_); (case hw => rfl); (case hx => first | exact eval_lit rfl | rfl); (case hi => first | exact eval_lit rfl | rfl); (case hj => omega); (case hv => (simp only [ldv, List.length_cons, List.length_nil, List.drop_succ_cons, List.drop_zero, List.take_succ_cons, List.take_zero, List.getElem?_cons_succ, List.getElem?_cons_zero, Nat.reduceAdd, Nat.reduceMul, Nat.reduceLeDiff, Int.toNat_natCast, Int.toNat_zero, Int.toNat_one, Int.reduceToNat, Bool.false_eq_true, if_true, if_false, Nat.zero_add, Nat.zero_mul, Nat.one_mul]; exact rfl))))
      · go_ret
        exact ⟨ret_int (by rw [show clsN x = 6 from by unfold clsN; (repeat' split) <;> omega]; rfl), HS.below⟩
      · go_roundw
        case rel => exact ⟨3, by omega, by rfl, by show 194 ≤ x; omega, HS.drop⟩
        case measure => simp [intOf]
    · have hlo2 : (194 : Int) ≤ x := by have : spanLo 3 = 194 := rfl; omega
      go_wp2_with (first | ((with_reducible refine' q_alloc ?_); refine' a_alloc HS ?_; clear HS; intro b_ w_ HS) | ((with_reducible refine' q_box ?_); refine' a_box HS ?_; clear HS; intro b_ w_ HS) | ((with_reducible refine' q_load ?_); refine' a_load HS ?_) | ((with_reducible refine' q_store ?_); refine' a_store HS ?_; clear HS; intro w_ HS) | ((with_reducible refine' st_index_arr (T := 232) (n := 7) (e := 231) ?hw Tryd.underlying232 ?hx ?hi ?hj ?hv ?_); (case hw => rfl); (case hx => first | exact eval_lit rfl | rfl); (case hi => first | exact eval_lit rfl | rfl); (case hj => omega); (case hv => (simp only [ldv, List.length_cons, List.length_nil, List.drop_succ_cons, List.drop_zero, List.take_succ_cons, List.take_zero, List.getElem?_cons_succ, List.getElem?_cons_zero, Nat.reduceAdd, Nat.reduceMul, Nat.reduceLeDiff, Int.toNat_natCast, Int.toNat_zero, Int.toNat_one, Int.reduceToNat, Bool.false_eq_true, if_true, if_false, Nat.zero_add, Nat.zero_mul, Nat.one_mul]; exact rfl))))
      · go_ret
        exact ⟨ret_int (by rw [show clsN x = 3 from by unfold clsN; (repeat' split) <;> omega]; rfl), HS.below⟩
      · go_roundw
        case rel => exact ⟨4, by omega, by rfl, by show 224 ≤ x; omega, HS.drop⟩
        case measure => simp [intOf]
    · have hlo2 : (224 : Int) ≤ x := by have : spanLo 4 = 224 := rfl; omega
      go_wp2_with (first | ((with_reducible refine' q_alloc ?_); refine' a_alloc HS ?_; clear HS; intro b_ w_ HS) | ((with_reducible refine' q_box ?_); refine' a_box HS ?_; clear HS; intro b_ w_ HS) | ((with_reducible refine' q_load ?_); refine' a_load HS ?_) | ((with_reducible refine' q_store ?_); refine' a_store HS ?_; clear HS; intro w_ HS) | ((with_reducible refine' st_index_arr (T := 232) (n := 7) (e := 231) ?hw Tryd.underlying232 ?hx ?hi ?hj ?hv ?_); (case hw => rfl); (case hx => first | exact eval_lit rfl | rfl); (case hi => first | exact eval_lit rfl | rfl); (case hj => omega); (case hv => (simp only [ldv, List.length_cons, List.length_nil, List.drop_succ_cons, List.drop_zero, List.take_succ_cons, List.take_zero, List.getElem?_cons_succ, List.getElem?_cons_zero, Nat.reduceAdd, Nat.reduceMul, Nat.reduceLeDiff, Int.toNat_natCast, Int.toNat_zero, Int.toNat_one, Int.reduceToNat, Bool.false_eq_true, if_true, if_false, Nat.zero_add, Nat.zero_mul, Nat.one_mul]; exact rfl))))
      · go_ret
        exact ⟨ret_int (by rw [show clsN x = 4 from by unfold clsN; (repeat' split) <;> omega]; rfl), HS.below⟩
      · go_roundw
        case rel => exact ⟨5, by omega, by rfl, by show 240 ≤ x; omega, HS.drop⟩
        case measure => simp [intOf]
    · have hlo2 : (240 : Int) ≤ x := by have : spanLo 5 = 240 := rfl; omega
      go_wp2_with (first | ((with_reducible refine' q_alloc ?_); refine' a_alloc HS ?_; clear HS; intro b_ w_ HS) | ((with_reducible refine' q_box ?_); refine' a_box HS ?_; clear HS; intro b_ w_ HS) | ((with_reducible refine' q_load ?_); refine' a_load HS ?_) | ((with_reducible refine' q_store ?_); refine' a_store HS ?_; clear HS; intro w_ HS) | ((with_reducible refine' st_index_arr (T := 232) (n := 7) (e := 231) ?hw Tryd.underlying232 ?hx ?hi ?hj ?hv ?_); (case hw => rfl); (case hx => first | exact eval_lit rfl | rfl); (case hi => first | exact eval_lit rfl | rfl); (case hj => omega); (case hv => (simp only [ldv, List.length_cons, List.length_nil, List.drop_succ_cons, List.drop_zero, List.take_succ_cons, List.take_zero, List.getElem?_cons_succ, List.getElem?_cons_zero, Nat.reduceAdd, Nat.reduceMul, Nat.reduceLeDiff, Int.toNat_natCast, Int.toNat_zero, Int.toNat_one, Int.reduceToNat, Bool.false_eq_true, if_true, if_false, Nat.zero_add, Nat.zero_mul, Nat.one_mul]; exact rfl))))
      · go_ret
        exact ⟨ret_int (by rw [show clsN x = 5 from by unfold clsN; (repeat' split) <;> omega]; rfl), HS.below⟩
      · go_roundw
        case rel => exact ⟨6, by omega, by rfl, by show 245 ≤ x; omega, HS.drop⟩
        case measure => simp [intOf]
    · have hlo2 : (245 : Int) ≤ x := by have : spanLo 6 = 245 := rfl; omega
      go_wp2_with (first | ((with_reducible refine' q_alloc ?_); refine' a_alloc HS ?_; clear HS; intro b_ w_ HS) | ((with_reducible refine' q_box ?_); refine' a_box HS ?_; clear HS; intro b_ w_ HS) | ((with_reducible refine' q_load ?_); refine' a_load HS ?_) | ((with_reducible refine' q_store ?_); refine' a_store HS ?_; clear HS; intro w_ HS) | ((with_reducible refine' st_index_arr (T := 232) (n := 7) (e := 231) ?hw Tryd.underlying232 ?hx ?hi ?hj ?hv ?_); (case hw => rfl); (case hx => first | exact eval_lit rfl | rfl); (case hi => first | exact eval_lit rfl | rfl); (case hj => omega); (case hv => (simp only [ldv, List.length_cons, List.length_nil, List.drop_succ_cons, List.drop_zero, List.take_succ_cons, List.take_zero, List.getElem?_cons_succ, List.getElem?_cons_zero, Nat.reduceAdd, Nat.reduceMul, Nat.reduceLeDiff, Int.toNat_natCast, Int.toNat_zero, Int.toNat_one, Int.reduceToNat, Bool.false_eq_true, if_true, if_false, Nat.zero_add, Nat.zero_mul, Nat.one_mul]; exact rfl))))
      · go_ret
        exact ⟨ret_int (by rw [show clsN x = 6 from by unfold clsN; (repeat' split) <;> omega]; rfl), HS.below⟩
    · exact absurd hlo (by show ¬ 256 ≤ x; omega)

theorem cls_cases (x : Nat) : clsN x = 1 ∨ clsN x = 2 ∨ clsN x = 3 ∨ clsN x = 4 ∨ clsN x = 5 ∨ clsN x = 6 := by unfold clsN; (repeat' split) <;> omega
theorem Class_c (M : Mem) (hG : Gl M) (x : Nat) (hx : x < 256) (c : Nat) (hc : clsN x = c) (w : World) (hi : Imm M w) :
    Calls Tryd.prog 145 #[.int .u8 x] w fun e w' => e = .returned (.int .i64 c) ∧ Below w.heap.size w w' := by subst hc; exact Class_any M hG x hx w hi

set_option maxHeartbeats 1000000 in
theorem Need_any (M : Mem) (hG : Gl M) (x : Nat) (hx : x < 256) (w : World) (hi : Imm M w) :
    Calls Tryd.prog 144 #[.int .u8 x] w fun e w' => e = .returned (.int .i64 (needN x)) ∧ Below w.heap.size w w' := by
  obtain ⟨t3, fr3, g3⟩ := hG.needs
  have G3 := Lib.hid g3; clear g3
  have HG := Lib.hid hG; clear hG
  rcases cls_cases x with h | h | h | h | h | h
  all_goals
    have HC := Lib.hid h; clear h
    (have HS := St.start hi; go_enter Tryd.func144, Tryd.ntmps144)
    go_wp2_with (first | ((with_reducible refine' st_load ?hw HS ?hx ?hb ?hv ?_); (case hw => rfl); (case hx => rfl); (case hb => exact Blk.imm G3.out); (case hv => exact rfl)) | (go_at_call 145; (with_reducible refine (Class_c M HG.out x hx _ HC.out _ HS.imm).mono ?_); rintro e w_ ⟨rfl, hb_⟩; have HS_ := HS.call hb_; clear HS hb_; have HS := HS_; clear HS_))
    go_ret
    exact ⟨ret_int (by have hc := HC.out; unfold clsN at hc; unfold needN; (repeat' split at hc) <;> (repeat' split) <;> omega), HS.below⟩

theorem Need_n (M : Mem) (hG : Gl M) (x : Nat) (hx : x < 256) (n : Nat) (hn : needN x = n) (w : World) (hi : Imm M w) :
    Calls Tryd.prog 144 #[.int .u8 x] w fun e w' => e = .returned (.int .i64 n) ∧ Below w.heap.size w w' := by subst hn; exact Need_any M hG x hx w hi

def secLo (x : Nat) : Nat := if x = 224 then 160 else if x = 237 then 128 else if x = 240 then 144 else if x = 244 then 128 else if 1 < needN x then 128 else 1
def secHi (x : Nat) : Nat := if x = 224 then 191 else if x = 237 then 159 else if x = 240 then 191 else if x = 244 then 143 else if 1 < needN x then 191 else 0

set_option maxHeartbeats 1000000 in
theorem second_any (M : Mem) (hG : Gl M) (x : Nat) (hx : x < 256) (w : World) (hi : Imm M w) :
    Calls Tryd.prog 147 #[.int .u8 x] w fun e w' => e = .returned (.tuple #[.int .u8 (secLo x), .int .u8 (secHi x)]) ∧ Below w.heap.size w w' := by
  have HG := Lib.hid hG; clear hG
  (have HS := St.start hi; go_enter Tryd.func147, Tryd.ntmps147)
  go_wp2_with (first | (go_at_call 144; (with_reducible refine (Need_any M HG.out x hx _ HS.imm).mono ?_); rintro e w_ ⟨rfl, hb_⟩; have HS_ := HS.call hb_; clear HS hb_; have HS := HS_; clear HS_))
  all_goals
    go_ret2
    refine ⟨?_, HS.below⟩
    clear HS hi
    simp only [beq_iff_eq, beq_eq_false_iff_ne, ne_eq] at *
    unfold secLo secHi
    (repeat' split) <;> first | rfl | (exfalso; omega)

/- May y stand behind the lead x? -/
def secB (x y : Nat) : Bool := decide (secLo x ≤ y ∧ y ≤ secHi x)

set_option maxHeartbeats 1000000 in
theorem Second_any (M : Mem) (hG : Gl M) (x y : Nat) (hx : x < 256) (w : World) (hi : Imm M w) :
    Calls Tryd.prog 146 #[.int .u8 x, .int .u8 y] w fun e w' => e = .returned (.bool (secB x y)) ∧ Below w.heap.size w w' := by
  have HG := Lib.hid hG; clear hG
  by_cases h1 : (secLo x : Int) ≤ y
  all_goals
    (have HS := St.start hi; go_enter Tryd.func146, Tryd.ntmps146)
    go_wp2_with (first | (go_at_call 147; (with_reducible refine (second_any M HG.out x hx _ HS.imm).mono ?_); rintro e w_ ⟨rfl, hb_⟩; have HS_ := HS.call hb_; clear HS hb_; have HS := HS_; clear HS_))
    go_ret
    refine ⟨?_, HS.below⟩
    unfold secB
    clear HS hi
    congr 2
    simp
    try omega

end Go.Proofs.YtbogoehjoglneaaDoor

/- octet.Whole, octet.Value. -/
namespace Go.Proofs.YtbogoehjoglneaaDoor
open Go.RowKit
set_option linter.unusedVariables false
set_option linter.unusedSimpArgs false
set_option maxRecDepth 100000
attribute [local go_sem] byt_drop byt_tail Int.toNat_natCast

/- What Whole looks for. -/
def wholeC (l : List UInt8) (i : Nat) : Prop := clsN (byt l (i + 1)) = 2 ∧ (i = 0 → secB (byt l 0) (byt l 1) = true)

set_option maxHeartbeats 4000000 in
theorem whole_iff (l : List UInt8) (h0 : 0 < l.length) : (enc l = l.length ∧ 0 < l.length) ↔ (needN (byt l 0) = l.length ∧ ∀ i, i + 1 < l.length → wholeC l i) := by
  have b00 := (byt_lt h0).2
  have g1 : 1 < l.length → byt l 1 < 256 := fun h => (byt_lt h).2
  have g2 : 2 < l.length → byt l 2 < 256 := fun h => (byt_lt h).2
  have g3 : 3 < l.length → byt l 3 < 256 := fun h => (byt_lt h).2
  have e1 : l.length ≤ 1 → byt l 1 = 256 := byt_ge
  have e2 : l.length ≤ 2 → byt l 2 = 256 := byt_ge
  have e3 : l.length ≤ 3 → byt l 3 = 256 := byt_ge
  have hs := encN_spec (byt l 0) (byt l 1) (byt l 2) (byt l 3)
  have h4 := enc_le l
  have hn : needN (byt l 0) ≤ 4 := by unfold needN; (repeat' split) <;> omega
  constructor
  · rintro ⟨h, _⟩
    have key : needN (byt l 0) = l.length ∧ (1 < l.length → clsN (byt l 1) = 2 ∧ secLo (byt l 0) ≤ byt l 1 ∧ byt l 1 ≤ secHi (byt l 0)) ∧ (2 < l.length → clsN (byt l 2) = 2) ∧ (3 < l.length → clsN (byt l 3) = 2) := by
      unfold enc at h h4
      generalize byt l 0 = x at *
      generalize byt l 1 = y at *
      generalize byt l 2 = z at *
      generalize byt l 3 = v at *
      generalize l.length = n at *
      clear hs
      unfold encN at h
      have cl : ∀ q, 128 ≤ q → q ≤ 191 → clsN q = 2 := fun q h1 h2 => by unfold clsN; (repeat' split) <;> omega
      split at h
      · rename_i c; refine ⟨?_, fun _ => by omega, fun _ => by omega, fun _ => by omega⟩; unfold needN; rw [if_pos c]; omega
      · split at h
        · rename_i _ c
          refine ⟨?_, fun _ => ⟨cl _ (by omega) (by omega), ?_, ?_⟩, fun _ => by omega, fun _ => by omega⟩
          · unfold needN; (repeat' split) <;> omega
          · unfold secLo needN; (repeat' split) <;> omega
          · unfold secHi needN; (repeat' split) <;> omega
        · split at h
          · rename_i _ _ c
            refine ⟨?_, fun _ => ⟨cl _ (by omega) (by omega), ?_, ?_⟩, fun _ => cl _ (by omega) (by omega), fun _ => by omega⟩
            · unfold needN; (repeat' split) <;> omega
            · unfold secLo needN; (repeat' split) <;> omega
            · unfold secHi needN; (repeat' split) <;> omega
          · split at h
            · rename_i _ _ _ c
              refine ⟨?_, fun _ => ⟨cl _ (by omega) (by omega), ?_, ?_⟩, fun _ => cl _ (by omega) (by omega), fun _ => cl _ (by omega) (by omega)⟩
              · unfold needN; (repeat' split) <;> omega
              · unfold secLo needN; (repeat' split) <;> omega
              · unfold secHi needN; (repeat' split) <;> omega
            · omega
    obtain ⟨k0, k1, k2, k3⟩ := key
    refine ⟨k0, fun i hi => ?_⟩
    have hc : i = 0 ∨ i = 1 ∨ i = 2 := by omega
    rcases hc with rfl | rfl | rfl
    · exact ⟨(k1 (by omega)).1, fun _ => by unfold secB; exact decide_eq_true (k1 (by omega)).2⟩
    · exact ⟨k2 (by omega), fun h => by omega⟩
    · exact ⟨k3 (by omega), fun h => by omega⟩
  · rintro ⟨h, hc⟩
    refine ⟨?_, h0⟩
    have c1 : 1 < l.length → clsN (byt l 1) = 2 ∧ secLo (byt l 0) ≤ byt l 1 ∧ byt l 1 ≤ secHi (byt l 0) := fun h => ⟨(hc 0 (by omega)).1, by have := (hc 0 (by omega)).2 rfl; unfold secB at this; exact of_decide_eq_true this⟩
    have c2 : 2 < l.length → clsN (byt l 2) = 2 := fun h => (hc 1 (by omega)).1
    have c3 : 3 < l.length → clsN (byt l 3) = 2 := fun h => (hc 2 (by omega)).1
    have cl : ∀ q, clsN q = 2 → 128 ≤ q ∧ q ≤ 191 := fun q h => by unfold clsN at h; (repeat' split at h) <;> omega
    have d1 := fun h => cl _ (c1 h).1
    have d2 := fun h => cl _ (c2 h)
    have d3 := fun h => cl _ (c3 h)
    unfold enc
    clear hc hs h4
    generalize byt l 0 = x at *
    generalize byt l 1 = y at *
    generalize byt l 2 = z at *
    generalize byt l 3 = v at *
    generalize l.length = n at *
    clear cl c2 c3
    have hn4 : n = 1 ∨ n = 2 ∨ n = 3 ∨ n = 4 := by omega
    rcases hn4 with rfl | rfl | rfl | rfl
    · unfold needN at h; unfold encN; rw [if_pos (by (repeat' split at h) <;> omega)]
    · have hx : 194 ≤ x ∧ x ≤ 223 := by unfold needN at h; (repeat' split at h) <;> omega
      have := d1 (by omega)
      unfold encN; rw [if_neg (by omega), if_pos ⟨hx, this⟩]
    · have hx : 224 ≤ x ∧ x ≤ 239 := by unfold needN at h; (repeat' split at h) <;> omega
      have q1 := c1 (by omega)
      have q2 := d2 (by omega)
      have q3 := d1 (by omega)
      obtain ⟨_, q4, q5⟩ := q1
      unfold secLo at q4; unfold secHi at q5
      unfold encN; rw [if_neg (by omega), if_neg (by omega), if_pos ⟨q2, by (repeat' split at q4) <;> (repeat' split at q5) <;> omega⟩]
    · have hx : 240 ≤ x ∧ x ≤ 244 := by unfold needN at h; (repeat' split at h) <;> omega
      have q1 := c1 (by omega)
      have q2 := d2 (by omega)
      have q3 := d1 (by omega)
      have q6 := d3 (by omega)
      obtain ⟨_, q4, q5⟩ := q1
      unfold secLo at q4; unfold secHi at q5
      unfold encN; rw [if_neg (by omega), if_neg (by omega), if_neg (by omega), if_pos ⟨q2, q6, by (repeat' split at q4) <;> (repeat' split at q5) <;> omega⟩]

set_option maxHeartbeats 2000000 in
theorem Whole_any (M : Mem) (hG : Gl M) (A : Option Addr) (c : Nat) (l : List UInt8) (hb : BS M A c l) (w : World) (hi : Imm M w) :
    Calls Tryd.prog 143 #[.slice A l.length c] w fun e w' => e = .returned (.bool (decide (enc l = l.length ∧ 0 < l.length))) ∧ Below w.heap.size w w' := by
  have HG := Lib.hid hG; clear hG
  by_cases h0 : l.length = 0
  · obtain rfl := List.length_eq_zero_iff.1 h0
    clear h0
    (have HS := St.start hi; go_enter Tryd.func143, Tryd.ntmps143)
    go_wp2_with (first | ((with_reducible refine' q_alloc ?_); refine' a_alloc HS ?_; clear HS; intro b_ w_ HS) | ((with_reducible refine' q_box ?_); refine' a_box HS ?_; clear HS; intro b_ w_ HS) | ((with_reducible refine' q_load ?_); refine' a_load HS ?_) | ((with_reducible refine' q_store ?_); refine' a_store HS ?_; clear HS; intro w_ HS))
    go_ret
    exact ⟨by simp, HS.below⟩
  · have hpos : 0 < l.length := by omega
    have h0' : ((l.length : Int) == 0) = false := by simpa using h0
    have hx := (byt_lt hpos).2
    have HI := Lib.hid (whole_iff l hpos)
    by_cases hn : needN (byt l 0) = l.length
    · have HN := Lib.hid hn
      have hn' : ((needN (byt l 0) : Int) != l.length) = false := by rw [hn]; simp
      have h1 : (1 : Int) ≤ l.length := by omega
      have h4 : (l.length : Int) ≤ 4 := by rw [← hn]; unfold needN; (repeat' split) <;> omega
      clear hn h0
      (have HS := St.start hi; go_enter Tryd.func143, Tryd.ntmps143)
      go_wp2_with (first | ((with_reducible refine' st_indexAddr_bs (T := 28) (e := 5) ?hw Tryd.underlying28 (by kernel_rfl) ?hx ?hb ?hn ?hi ?hj ?_); (case hw => rfl); (case hx => first | exact eval_lit rfl | rfl); (case hb => assumption); (case hn => (first | rfl | omega | (simp; done) | (simp; omega))); (case hi => first | exact eval_lit rfl | rfl); (case hj => first | omega | (simp; omega)); intro b_ o_ hc_) | ((with_reducible refine' st_load_cellM ?hw HS ?hx ?hc ?_); (case hw => rfl); (case hx => first | exact eval_lit rfl | rfl); (case hc => assumption)) | (go_at_call 144; (with_reducible refine (Need_any M HG.out _ hx _ HS.imm).mono ?_); rintro e w_ ⟨rfl, hb_⟩; have HS_ := HS.call hb_; clear HS hb_; have HS := HS_; clear HS_) | ((with_reducible refine' st_slice_bs (S := 28) (e := 5) (i := 1) (j := l.length) ?hw Tryd.underlying28 (by kernel_rfl) ?hx ?hb ?hn ?hij ?_); (case hw => first | rfl | (go_simp; done)); (case hx => first | exact eval_lit rfl | rfl); (case hb => assumption); (case hn => (first | rfl | omega | (simp; done) | (simp; omega))); (case hij => first | exact ⟨rfl, rfl, by omega, by omega⟩ | fail); intro A_ hA_))
      rw [List.take_length] at hA_
      go_loopw [20] (fun i wr => ∃ k : Nat, i = .int .i64 k ∧ k + 1 ≤ l.length ∧ (∀ j, j < k → wholeC l j) ∧ St (fun k => w.heap.size ≤ k) w wr M []) (fun i _ => l.length - (intOf i).toNat)
      case atStart => exact ⟨0, rfl, by omega, fun j h => by omega, HS⟩
      case round =>
        clear HS
        obtain ⟨k, rfl, hk, hc, HS⟩ := hrel
        have hkk : (k : Int) + 1 ≤ l.length := by omega
        by_cases hlt : k + 1 < l.length
        · have hlt' : (k : Int) < (l.length - 1 : Nat) := by omega
          have hy := (byt_lt hlt).2
          have HC := Lib.hid hc; clear hc
          by_cases c2 : clsN (byt l (k + 1)) = 2
          · have c2' : ((clsN (byt l (k + 1)) : Int) != 2) = false := by rw [c2]; rfl
            have C2 := Lib.hid c2; clear c2
            by_cases k0 : k = 0
            · subst k0
              go_wp2_with (first | ((with_reducible refine' st_indexAddr_bs (T := 28) (e := 5) ?hw Tryd.underlying28 (by kernel_rfl) ?hx ?hb ?hn ?hi ?hj ?_); (case hw => rfl); (case hx => first | exact eval_lit rfl | rfl); (case hb => assumption); (case hn => (first | rfl | omega | (simp; done) | (simp; omega))); (case hi => first | exact eval_lit rfl | rfl); (case hj => first | omega | (simp; omega)); intro b_ o_ hc_) | ((with_reducible refine' st_load_cellM ?hw HS ?hx ?hc ?_); (case hw => rfl); (case hx => first | exact eval_lit rfl | rfl); (case hc => assumption)) | (go_at_call 145; (with_reducible refine (Class_any M HG.out _ hy _ HS.imm).mono ?_); rintro e w_ ⟨rfl, hb_⟩; have HS_ := HS.call hb_; clear HS hb_; have HS := HS_; clear HS_) | (go_at_call 146; (with_reducible refine (Second_any M HG.out _ _ hx _ HS.imm).mono ?_); rintro e w_ ⟨rfl, hb_⟩; have HS_ := HS.call hb_; clear HS hb_; have HS := HS_; clear HS_))
              · go_ret
                have hs : secB (byt l 0) (byt l 1) = false := by simpa using ‹(!secB (byt l 0) (byt l 1)) = true›
                refine ⟨ret_bool (decide_eq_false ?_).symm, HS.below⟩
                intro hh
                have := ((HI.out.1 hh).2 0 hlt).2 rfl
                rw [hs] at this; cases this
              · have hs : secB (byt l 0) (byt l 1) = true := by simpa using ‹(!secB (byt l 0) (byt l 1)) = false›
                go_roundw
                case rel => exact ⟨1, rfl, by omega, (fun j hj => by obtain rfl : j = 0 := (by omega); exact ⟨C2.out, fun _ => hs⟩), HS⟩
                case measure => simp [intOf]; omega
            · have k0' : ((k : Int) == 0) = false := by simpa using k0
              have K0 := Lib.hid k0; clear k0
              go_wp2_with (first | ((with_reducible refine' st_indexAddr_bs (T := 28) (e := 5) ?hw Tryd.underlying28 (by kernel_rfl) ?hx ?hb ?hn ?hi ?hj ?_); (case hw => rfl); (case hx => first | exact eval_lit rfl | rfl); (case hb => assumption); (case hn => (first | rfl | omega | (simp; done) | (simp; omega))); (case hi => first | exact eval_lit rfl | rfl); (case hj => first | omega | (simp; omega)); intro b_ o_ hc_) | ((with_reducible refine' st_load_cellM ?hw HS ?hx ?hc ?_); (case hw => rfl); (case hx => first | exact eval_lit rfl | rfl); (case hc => assumption)) | (go_at_call 145; (with_reducible refine (Class_any M HG.out _ hy _ HS.imm).mono ?_); rintro e w_ ⟨rfl, hb_⟩; have HS_ := HS.call hb_; clear HS hb_; have HS := HS_; clear HS_))
              go_roundw
              case rel => exact ⟨k + 1, by go_num, by omega, (fun j hj => by
                by_cases hjk : j < k
                · exact HC.out j hjk
                · obtain rfl : j = k := by omega
                  exact ⟨C2.out, fun h => absurd h K0.out⟩), HS⟩
              case measure => simp [intOf]; omega
          · have c2' : ((clsN (byt l (k + 1)) : Int) != 2) = true := by simp; omega
            have C2 := Lib.hid c2; clear c2
            go_wp2_with (first | ((with_reducible refine' st_indexAddr_bs (T := 28) (e := 5) ?hw Tryd.underlying28 (by kernel_rfl) ?hx ?hb ?hn ?hi ?hj ?_); (case hw => rfl); (case hx => first | exact eval_lit rfl | rfl); (case hb => assumption); (case hn => (first | rfl | omega | (simp; done) | (simp; omega))); (case hi => first | exact eval_lit rfl | rfl); (case hj => first | omega | (simp; omega)); intro b_ o_ hc_) | ((with_reducible refine' st_load_cellM ?hw HS ?hx ?hc ?_); (case hw => rfl); (case hx => first | exact eval_lit rfl | rfl); (case hc => assumption)) | (go_at_call 145; (with_reducible refine (Class_any M HG.out _ hy _ HS.imm).mono ?_); rintro e w_ ⟨rfl, hb_⟩; have HS_ := HS.call hb_; clear HS hb_; have HS := HS_; clear HS_))
            go_ret
            refine ⟨ret_bool (decide_eq_false ?_).symm, HS.below⟩
            intro hh
            exact C2.out ((HI.out.1 hh).2 k hlt).1
        · have hlt' : ¬ ((k : Int) < (l.length - 1 : Nat)) := by omega
          have HC := Lib.hid hc; clear hc
          have HLT := Lib.hid hlt; clear hlt
          go_wp2_with (first | ((with_reducible refine' st_indexAddr_bs (T := 28) (e := 5) ?hw Tryd.underlying28 (by kernel_rfl) ?hx ?hb ?hn ?hi ?hj ?_); (case hw => rfl); (case hx => first | exact eval_lit rfl | rfl); (case hb => assumption); (case hn => (first | rfl | omega | (simp; done) | (simp; omega))); (case hi => first | exact eval_lit rfl | rfl); (case hj => first | omega | (simp; omega)); intro b_ o_ hc_) | ((with_reducible refine' st_load_cellM ?hw HS ?hx ?hc ?_); (case hw => rfl); (case hx => first | exact eval_lit rfl | rfl); (case hc => assumption)))
          go_ret
          refine ⟨ret_bool (decide_eq_true ?_).symm, HS.below⟩
          have hfin := HI.out.2 ⟨HN.out, fun j hj => HC.out j (by have := HLT.out; omega)⟩
          first | exact hfin | exact hfin.1
    · have hn' : ((needN (byt l 0) : Int) != l.length) = true := by simp; omega
      have HN := Lib.hid hn; clear hn
      have H0 := Lib.hid h0; clear h0
      (have HS := St.start hi; go_enter Tryd.func143, Tryd.ntmps143)
      go_wp2_with (first | ((with_reducible refine' st_indexAddr_bs (T := 28) (e := 5) ?hw Tryd.underlying28 (by kernel_rfl) ?hx ?hb ?hn ?hi ?hj ?_); (case hw => rfl); (case hx => first | exact eval_lit rfl | rfl); (case hb => assumption); (case hn => (first | rfl | omega | (simp; done) | (simp; omega))); (case hi => first | exact eval_lit rfl | rfl); (case hj => first | omega | (simp; omega)); intro b_ o_ hc_) | ((with_reducible refine' st_load_cellM ?hw HS ?hx ?hc ?_); (case hw => rfl); (case hx => first | exact eval_lit rfl | rfl); (case hc => assumption)) | (go_at_call 144; (with_reducible refine (Need_any M HG.out _ hx _ HS.imm).mono ?_); rintro e w_ ⟨rfl, hb_⟩; have HS_ := HS.call hb_; clear HS hb_; have HS := HS_; clear HS_) | ((with_reducible refine' st_slice_bs (S := 28) (e := 5) (i := 1) (j := l.length) ?hw Tryd.underlying28 (by kernel_rfl) ?hx ?hb ?hn ?hij ?_); (case hw => first | rfl | (go_simp; done)); (case hx => first | exact eval_lit rfl | rfl); (case hb => assumption); (case hn => (first | rfl | omega | (simp; done) | (simp; omega))); (case hij => first | exact ⟨rfl, rfl, by omega, by omega⟩ | fail); intro A_ hA_))
      go_ret
      refine ⟨ret_bool (decide_eq_false ?_).symm, HS.below⟩
      intro hh
      exact HN.out (HI.out.1 hh).1
end Go.Proofs.YtbogoehjoglneaaDoor

/- octet.Value. -/
namespace Go.Proofs.YtbogoehjoglneaaDoor
open Go.RowKit
set_option linter.unusedVariables false
set_option linter.unusedSimpArgs false
set_option maxRecDepth 100000
attribute [local go_sem] byt_drop byt_tail Int.toNat_natCast

/- What Value answers. -/
def valueI (l : List UInt8) : Int := if enc l = l.length ∧ 0 < l.length then (val l : Int) else -1

def rvk (l : List UInt8) (m : Nat) : Nat → Nat
  | 0 => byt l 0 % m
  | k + 1 => rvk l m k * 64 + byt l (k + 1) % 64

theorem rvk_lt (l : List UInt8) (m : Nat) (hm : 0 < m) (k : Nat) : rvk l m k < m * 64 ^ k := by
  induction k with
  | zero => simpa [rvk] using Nat.mod_lt _ hm
  | succ k ih =>
    have := Nat.mod_lt (byt l (k + 1)) (show 0 < 64 by omega)
    rw [rvk, Nat.pow_succ, ← Nat.mul_assoc]
    omega

def maskN (n : Nat) : Nat := if n = 1 then 128 else if n = 2 then 32 else if n = 3 then 16 else 8

theorem rvk_val (l : List UInt8) (h0 : 0 < l.length) (h : enc l = l.length) : rvk l (maskN l.length) (l.length - 1) = val l := by
  have h4 := enc_le l
  have hs := encN_spec (byt l 0) (byt l 1) (byt l 2) (byt l 3)
  have hc : l.length = 1 ∨ l.length = 2 ∨ l.length = 3 ∨ l.length = 4 := by omega
  unfold val
  rw [h]
  have h1 : l.length = 1 → byt l 0 ≤ 127 := fun e => hs.1.1 (by rw [e] at h; exact h)
  rcases hc with e | e | e | e <;> rw [e]
  · have := h1 e
    show byt l 0 % 128 = byt l 0
    omega
  · rfl
  · show (byt l 0 % 16 * 64 + byt l 1 % 64) * 64 + byt l 2 % 64 = byt l 0 % 16 * 4096 + byt l 1 % 64 * 64 + byt l 2 % 64
    omega
  · show ((byt l 0 % 8 * 64 + byt l 1 % 64) * 64 + byt l 2 % 64) * 64 + byt l 3 % 64 = byt l 0 % 8 * 262144 + byt l 1 % 64 * 4096 + byt l 2 % 64 * 64 + byt l 3 % 64
    omega

set_option maxHeartbeats 2000000 in
theorem Value_any (M : Mem) (hG : Gl M) (A : Option Addr) (c : Nat) (l : List UInt8) (hb : BS M A c l) (w : World) (hi : Imm M w) :
    Calls Tryd.prog 141 #[.slice A l.length c] w fun e w' => e = .returned (.int .i32 (valueI l)) ∧ Below w.heap.size w w' := by
  obtain ⟨t3, fr3, g3⟩ := hG.masks
  have G3 := Lib.hid g3; clear g3
  have HG := Lib.hid hG; clear hG
  by_cases he : enc l = l.length ∧ 0 < l.length
  · have hd : decide (enc l = l.length ∧ 0 < l.length) = true := decide_eq_true he
    have h4 := enc_le l
    have hx := (byt_lt he.2).2
    have h1 : (1 : Int) ≤ l.length := by omega
    have hc4 : l.length = 1 ∨ l.length = 2 ∨ l.length = 3 ∨ l.length = 4 := by omega
    have hW : ∀ n : Nat, n = l.length → ∀ w, Imm M w → Calls Tryd.prog 143 #[.slice A n c] w fun e w' => e = .returned (.bool true) ∧ Below w.heap.size w w' := fun n hn w hi => by
      subst hn; have := Whole_any M HG.out A c l hb w hi; rw [hd] at this; exact this
    have HW := Lib.hid hW; clear hW
    have hE := Lib.hid he; clear he hd
    have h0 : (0 : Int) ≤ byt l 0 := by omega
    have h256 : (byt l 0 : Int) < 256 := by omega
    rcases hc4 with hl | hl | hl | hl
    · have hand : bits BinOp.and IntKind.u8 (byt l 0 : Int) 127 = ((byt l 0 % 128 : Nat) : Int) := by rw [Int.natCast_emod]; exact bits_mask .u8 8 (by decide) wraps_u8 7 (by decide) _ h0 h256
      rw [hl]
      (have HS := St.start hi; go_enter Tryd.func141, Tryd.ntmps141)
      go_wp2_with (first | ((with_reducible refine' q_alloc ?_); refine' a_alloc HS ?_; clear HS; intro b_ w_ HS) | ((with_reducible refine' q_box ?_); refine' a_box HS ?_; clear HS; intro b_ w_ HS) | ((with_reducible refine' q_load ?_); refine' a_load HS ?_) | ((with_reducible refine' q_store ?_); refine' a_store HS ?_; clear HS; intro w_ HS) | (go_at_call 143; (with_reducible refine (HW.out 1 hl.symm _ HS.imm).mono ?_); rintro e w_ ⟨rfl, hb_⟩; have HS_ := HS.call hb_; clear HS hb_; have HS := HS_; clear HS_))
      have G31 := G3.out
      refine wp_region_plan [] [(true, 0), (true, 1), (true, 2), (true, 3), (true, 4), (true, 5), (true, 6), (true, 7), (true, 8), (true, 9)] (fun W_ => St _ _ W_ _ _) (by kernel_rfl) (by kernel_rfl) rfl (by kernel_rfl) (HS).drew ?_
      have HS_ := HS.drew; clear HS; have HS := HS_; clear HS_
      refine' a_dSoft rfl ?_
      (try simp only [Act.put, List.setIfInBounds_toArray, List.set_cons_zero, List.set_cons_succ])
      (refine' dIdxB (T := 28) (e := 5) rfl ?hw Tryd.underlying28 (by kernel_rfl) ?hx ?hb ?hn ?hix ?hj ?_; (case hw => first | rfl | go_simp); (case hx => first | exact eval_lit rfl | rfl); (case hb => assumption); (case hn => (first | rfl | omega | (simp; done) | (simp; omega))); (case hix => first | exact eval_lit rfl | rfl); (case hj => first | omega | (simp; omega)); intro b_ o_ hc_)
      (try simp only [Act.put, List.setIfInBounds_toArray, List.set_cons_zero, List.set_cons_succ])
      (first | refine' a_dLoad rfl (fun w_ hw_ => hw_) ?_ | refine' a_dLoadC rfl (fun w_ hw_ => hw_) ?_)
      (try simp only [Act.put, List.setIfInBounds_toArray, List.set_cons_zero, List.set_cons_succ])
      refine' a_dSoft rfl ?_
      (try simp only [Act.put, List.setIfInBounds_toArray, List.set_cons_zero, List.set_cons_succ])
      refine' a_dSoft rfl ?_
      (try simp only [Act.put, List.setIfInBounds_toArray, List.set_cons_zero, List.set_cons_succ])
      refine' a_dSoft rfl ?_
      (try simp only [Act.put, List.setIfInBounds_toArray, List.set_cons_zero, List.set_cons_succ])
      (first | refine' a_dLoad rfl (fun w_ hw_ => hw_) ?_ | refine' a_dLoadC rfl (fun w_ hw_ => hw_) ?_)
      (try simp only [Act.put, List.setIfInBounds_toArray, List.set_cons_zero, List.set_cons_succ])
      refine' a_dSoft rfl ?_
      (try simp only [Act.put, List.setIfInBounds_toArray, List.set_cons_zero, List.set_cons_succ])
      refine' a_dSoft rfl ?_
      (try simp only [Act.put, List.setIfInBounds_toArray, List.set_cons_zero, List.set_cons_succ])
      refine' a_dSoft rfl ?_
      (try simp only [Act.put, List.setIfInBounds_toArray, List.set_cons_zero, List.set_cons_succ])
      refine lexD_end ?_
      clear G31 hand
      go_wp2_with (first | ((with_reducible refine' st_slice_bs (S := 28) (e := 5) (i := 1) (j := 1) ?hw Tryd.underlying28 (by kernel_rfl) ?hx ?hb ?hn ?hij ?_); (case hw => first | rfl | (go_simp; done)); (case hx => first | exact eval_lit rfl | rfl); (case hb => assumption); (case hn => (first | rfl | omega | (simp; done) | (simp; omega))); (case hij => first | exact ⟨rfl, rfl, by omega, by omega⟩ | fail); intro A_ hA_))
      rw [List.take_of_length_le (by omega)] at hA_
      go_loopw [3, 21] (fun r i wr => ∃ k : Nat, i = .int .i64 k ∧ k ≤ 0 ∧ r = .int .i32 (rvk l 128 k) ∧ St (fun k => w.heap.size ≤ k) w wr M []) (fun _ i _ => 4 - (intOf i).toNat)
      case atStart => exact ⟨0, rfl, by omega, by simp [rvk], HS⟩
      case round =>
        clear HS
        obtain ⟨k, rfl, hk, rfl, HS⟩ := hrel
        obtain rfl : k = 0 := by omega
        have hR := Lib.hid (rvk_val l hE.out.2 hE.out.1)
        clear hk
        go_wp2_with (first | ((with_reducible refine' st_indexAddr_bs (T := 28) (e := 5) ?hw Tryd.underlying28 (by kernel_rfl) ?hx ?hb ?hn ?hi ?hj ?_); (case hw => rfl); (case hx => first | exact eval_lit rfl | rfl); (case hb => assumption); (case hn => (first | rfl | omega | (simp; done) | (simp; omega))); (case hi => first | exact eval_lit rfl | rfl); (case hj => first | omega | (simp; omega)); intro b_ o_ hc_) | ((with_reducible refine' st_load_cellM ?hw HS ?hx ?hc ?_); (case hw => rfl); (case hx => first | exact eval_lit rfl | rfl); (case hc => assumption)))
        go_ret
        refine ⟨?_, HS.below⟩
        have hR2 := hR.out
        rw [hl] at hR2
        unfold valueI
        rw [if_pos hE.out, ← hR2]
        rfl
    · have hand : bits BinOp.and IntKind.u8 (byt l 0 : Int) 31 = ((byt l 0 % 32 : Nat) : Int) := by rw [Int.natCast_emod]; exact u8_and31 _ h0 h256
      rw [hl]
      (have HS := St.start hi; go_enter Tryd.func141, Tryd.ntmps141)
      go_wp2_with (first | ((with_reducible refine' q_alloc ?_); refine' a_alloc HS ?_; clear HS; intro b_ w_ HS) | ((with_reducible refine' q_box ?_); refine' a_box HS ?_; clear HS; intro b_ w_ HS) | ((with_reducible refine' q_load ?_); refine' a_load HS ?_) | ((with_reducible refine' q_store ?_); refine' a_store HS ?_; clear HS; intro w_ HS) | (go_at_call 143; (with_reducible refine (HW.out 2 hl.symm _ HS.imm).mono ?_); rintro e w_ ⟨rfl, hb_⟩; have HS_ := HS.call hb_; clear HS hb_; have HS := HS_; clear HS_))
      have G31 := G3.out
      refine wp_region_plan [] [(true, 0), (true, 1), (true, 2), (true, 3), (true, 4), (true, 5), (true, 6), (true, 7), (true, 8), (true, 9)] (fun W_ => St _ _ W_ _ _) (by kernel_rfl) (by kernel_rfl) rfl (by kernel_rfl) (HS).drew ?_
      have HS_ := HS.drew; clear HS; have HS := HS_; clear HS_
      refine' a_dSoft rfl ?_
      (try simp only [Act.put, List.setIfInBounds_toArray, List.set_cons_zero, List.set_cons_succ])
      (refine' dIdxB (T := 28) (e := 5) rfl ?hw Tryd.underlying28 (by kernel_rfl) ?hx ?hb ?hn ?hix ?hj ?_; (case hw => first | rfl | go_simp); (case hx => first | exact eval_lit rfl | rfl); (case hb => assumption); (case hn => (first | rfl | omega | (simp; done) | (simp; omega))); (case hix => first | exact eval_lit rfl | rfl); (case hj => first | omega | (simp; omega)); intro b_ o_ hc_)
      (try simp only [Act.put, List.setIfInBounds_toArray, List.set_cons_zero, List.set_cons_succ])
      (first | refine' a_dLoad rfl (fun w_ hw_ => hw_) ?_ | refine' a_dLoadC rfl (fun w_ hw_ => hw_) ?_)
      (try simp only [Act.put, List.setIfInBounds_toArray, List.set_cons_zero, List.set_cons_succ])
      refine' a_dSoft rfl ?_
      (try simp only [Act.put, List.setIfInBounds_toArray, List.set_cons_zero, List.set_cons_succ])
      refine' a_dSoft rfl ?_
      (try simp only [Act.put, List.setIfInBounds_toArray, List.set_cons_zero, List.set_cons_succ])
      refine' a_dSoft rfl ?_
      (try simp only [Act.put, List.setIfInBounds_toArray, List.set_cons_zero, List.set_cons_succ])
      (first | refine' a_dLoad rfl (fun w_ hw_ => hw_) ?_ | refine' a_dLoadC rfl (fun w_ hw_ => hw_) ?_)
      (try simp only [Act.put, List.setIfInBounds_toArray, List.set_cons_zero, List.set_cons_succ])
      refine' a_dSoft rfl ?_
      (try simp only [Act.put, List.setIfInBounds_toArray, List.set_cons_zero, List.set_cons_succ])
      refine' a_dSoft rfl ?_
      (try simp only [Act.put, List.setIfInBounds_toArray, List.set_cons_zero, List.set_cons_succ])
      refine' a_dSoft rfl ?_
      (try simp only [Act.put, List.setIfInBounds_toArray, List.set_cons_zero, List.set_cons_succ])
      refine lexD_end ?_
      clear G31 hand
      go_wp2_with (first | ((with_reducible refine' st_slice_bs (S := 28) (e := 5) (i := 1) (j := 2) ?hw Tryd.underlying28 (by kernel_rfl) ?hx ?hb ?hn ?hij ?_); (case hw => first | rfl | (go_simp; done)); (case hx => first | exact eval_lit rfl | rfl); (case hb => assumption); (case hn => (first | rfl | omega | (simp; done) | (simp; omega))); (case hij => first | exact ⟨rfl, rfl, by omega, by omega⟩ | fail); intro A_ hA_))
      rw [List.take_of_length_le (by omega)] at hA_
      go_loopw [3, 21] (fun r i wr => ∃ k : Nat, i = .int .i64 k ∧ k ≤ 1 ∧ r = .int .i32 (rvk l 32 k) ∧ St (fun k => w.heap.size ≤ k) w wr M []) (fun _ i _ => 4 - (intOf i).toNat)
      case atStart => exact ⟨0, rfl, by omega, by simp [rvk], HS⟩
      case round =>
        clear HS
        obtain ⟨k, rfl, hk, rfl, HS⟩ := hrel
        by_cases hlt : k < 1
        · have hlt' : (k : Int) < 1 := by omega
          have hr := rvk_lt l 32 (by decide) k
          have hr2 : rvk l 32 k < 262144 := by
            have hk3 : k = 0 ∨ k = 1 ∨ k = 2 := by omega
            rcases hk3 with rfl | rfl | rfl <;> omega
          have hr3 : (rvk l 32 k : Int) < 262144 := by omega
          have hr0 : (0 : Int) ≤ rvk l 32 k := by omega
          have hy := byt_lt (l := l) (i := k + 1) (by omega)
          have hy2 := hy.2
          have hand : bits BinOp.and IntKind.u8 (byt l (k + 1) : Int) 63 = (byt l (k + 1) : Int) % 64 := u8_and63 _ (by omega) (by omega)
          have hor : bits BinOp.or IntKind.i32 ((rvk l 32 k : Int) * 64) ((byt l (k + 1) : Int) % 64) = (rvk l 32 k : Int) * 64 + (byt l (k + 1) : Int) % 64 := i32_or6 _ _ (by omega) (by omega) (by omega) (by omega) (by omega)
          clear hy hr
          go_wp2_with (first | ((with_reducible refine' st_indexAddr_bs (T := 28) (e := 5) ?hw Tryd.underlying28 (by kernel_rfl) ?hx ?hb ?hn ?hi ?hj ?_); (case hw => rfl); (case hx => first | exact eval_lit rfl | rfl); (case hb => assumption); (case hn => (first | rfl | omega | (simp; done) | (simp; omega))); (case hi => first | exact eval_lit rfl | rfl); (case hj => first | omega | (simp; omega)); intro b_ o_ hc_) | ((with_reducible refine' st_load_cellM ?hw HS ?hx ?hc ?_); (case hw => rfl); (case hx => first | exact eval_lit rfl | rfl); (case hc => assumption)))
          go_roundw
          case rel => exact ⟨k + 1, by go_num, by omega, by simp [rvk], HS⟩
          case measure => simp [intOf]; omega
        · obtain rfl : k = 1 := by omega
          have hR := Lib.hid (rvk_val l hE.out.2 hE.out.1)
          clear hk hlt
          go_wp2_with (first | ((with_reducible refine' st_indexAddr_bs (T := 28) (e := 5) ?hw Tryd.underlying28 (by kernel_rfl) ?hx ?hb ?hn ?hi ?hj ?_); (case hw => rfl); (case hx => first | exact eval_lit rfl | rfl); (case hb => assumption); (case hn => (first | rfl | omega | (simp; done) | (simp; omega))); (case hi => first | exact eval_lit rfl | rfl); (case hj => first | omega | (simp; omega)); intro b_ o_ hc_) | ((with_reducible refine' st_load_cellM ?hw HS ?hx ?hc ?_); (case hw => rfl); (case hx => first | exact eval_lit rfl | rfl); (case hc => assumption)))
          go_ret
          refine ⟨?_, HS.below⟩
          have hR2 := hR.out
          rw [hl] at hR2
          unfold valueI
          rw [if_pos hE.out, ← hR2]
          rfl
    · have hand : bits BinOp.and IntKind.u8 (byt l 0 : Int) 15 = ((byt l 0 % 16 : Nat) : Int) := by rw [Int.natCast_emod]; exact u8_and15 _ h0 h256
      rw [hl]
      (have HS := St.start hi; go_enter Tryd.func141, Tryd.ntmps141)
      go_wp2_with (first | ((with_reducible refine' q_alloc ?_); refine' a_alloc HS ?_; clear HS; intro b_ w_ HS) | ((with_reducible refine' q_box ?_); refine' a_box HS ?_; clear HS; intro b_ w_ HS) | ((with_reducible refine' q_load ?_); refine' a_load HS ?_) | ((with_reducible refine' q_store ?_); refine' a_store HS ?_; clear HS; intro w_ HS) | (go_at_call 143; (with_reducible refine (HW.out 3 hl.symm _ HS.imm).mono ?_); rintro e w_ ⟨rfl, hb_⟩; have HS_ := HS.call hb_; clear HS hb_; have HS := HS_; clear HS_))
      have G31 := G3.out
      refine wp_region_plan [] [(true, 0), (true, 1), (true, 2), (true, 3), (true, 4), (true, 5), (true, 6), (true, 7), (true, 8), (true, 9)] (fun W_ => St _ _ W_ _ _) (by kernel_rfl) (by kernel_rfl) rfl (by kernel_rfl) (HS).drew ?_
      have HS_ := HS.drew; clear HS; have HS := HS_; clear HS_
      refine' a_dSoft rfl ?_
      (try simp only [Act.put, List.setIfInBounds_toArray, List.set_cons_zero, List.set_cons_succ])
      (refine' dIdxB (T := 28) (e := 5) rfl ?hw Tryd.underlying28 (by kernel_rfl) ?hx ?hb ?hn ?hix ?hj ?_; (case hw => first | rfl | go_simp); (case hx => first | exact eval_lit rfl | rfl); (case hb => assumption); (case hn => (first | rfl | omega | (simp; done) | (simp; omega))); (case hix => first | exact eval_lit rfl | rfl); (case hj => first | omega | (simp; omega)); intro b_ o_ hc_)
      (try simp only [Act.put, List.setIfInBounds_toArray, List.set_cons_zero, List.set_cons_succ])
      (first | refine' a_dLoad rfl (fun w_ hw_ => hw_) ?_ | refine' a_dLoadC rfl (fun w_ hw_ => hw_) ?_)
      (try simp only [Act.put, List.setIfInBounds_toArray, List.set_cons_zero, List.set_cons_succ])
      refine' a_dSoft rfl ?_
      (try simp only [Act.put, List.setIfInBounds_toArray, List.set_cons_zero, List.set_cons_succ])
      refine' a_dSoft rfl ?_
      (try simp only [Act.put, List.setIfInBounds_toArray, List.set_cons_zero, List.set_cons_succ])
      refine' a_dSoft rfl ?_
      (try simp only [Act.put, List.setIfInBounds_toArray, List.set_cons_zero, List.set_cons_succ])
      (first | refine' a_dLoad rfl (fun w_ hw_ => hw_) ?_ | refine' a_dLoadC rfl (fun w_ hw_ => hw_) ?_)
      (try simp only [Act.put, List.setIfInBounds_toArray, List.set_cons_zero, List.set_cons_succ])
      refine' a_dSoft rfl ?_
      (try simp only [Act.put, List.setIfInBounds_toArray, List.set_cons_zero, List.set_cons_succ])
      refine' a_dSoft rfl ?_
      (try simp only [Act.put, List.setIfInBounds_toArray, List.set_cons_zero, List.set_cons_succ])
      refine' a_dSoft rfl ?_
      (try simp only [Act.put, List.setIfInBounds_toArray, List.set_cons_zero, List.set_cons_succ])
      refine lexD_end ?_
      clear G31 hand
      go_wp2_with (first | ((with_reducible refine' st_slice_bs (S := 28) (e := 5) (i := 1) (j := 3) ?hw Tryd.underlying28 (by kernel_rfl) ?hx ?hb ?hn ?hij ?_); (case hw => first | rfl | (go_simp; done)); (case hx => first | exact eval_lit rfl | rfl); (case hb => assumption); (case hn => (first | rfl | omega | (simp; done) | (simp; omega))); (case hij => first | exact ⟨rfl, rfl, by omega, by omega⟩ | fail); intro A_ hA_))
      rw [List.take_of_length_le (by omega)] at hA_
      go_loopw [3, 21] (fun r i wr => ∃ k : Nat, i = .int .i64 k ∧ k ≤ 2 ∧ r = .int .i32 (rvk l 16 k) ∧ St (fun k => w.heap.size ≤ k) w wr M []) (fun _ i _ => 4 - (intOf i).toNat)
      case atStart => exact ⟨0, rfl, by omega, by simp [rvk], HS⟩
      case round =>
        clear HS
        obtain ⟨k, rfl, hk, rfl, HS⟩ := hrel
        by_cases hlt : k < 2
        · have hlt' : (k : Int) < 2 := by omega
          have hr := rvk_lt l 16 (by decide) k
          have hr2 : rvk l 16 k < 262144 := by
            have hk3 : k = 0 ∨ k = 1 ∨ k = 2 := by omega
            rcases hk3 with rfl | rfl | rfl <;> omega
          have hr3 : (rvk l 16 k : Int) < 262144 := by omega
          have hr0 : (0 : Int) ≤ rvk l 16 k := by omega
          have hy := byt_lt (l := l) (i := k + 1) (by omega)
          have hy2 := hy.2
          have hand : bits BinOp.and IntKind.u8 (byt l (k + 1) : Int) 63 = (byt l (k + 1) : Int) % 64 := u8_and63 _ (by omega) (by omega)
          have hor : bits BinOp.or IntKind.i32 ((rvk l 16 k : Int) * 64) ((byt l (k + 1) : Int) % 64) = (rvk l 16 k : Int) * 64 + (byt l (k + 1) : Int) % 64 := i32_or6 _ _ (by omega) (by omega) (by omega) (by omega) (by omega)
          clear hy hr
          go_wp2_with (first | ((with_reducible refine' st_indexAddr_bs (T := 28) (e := 5) ?hw Tryd.underlying28 (by kernel_rfl) ?hx ?hb ?hn ?hi ?hj ?_); (case hw => rfl); (case hx => first | exact eval_lit rfl | rfl); (case hb => assumption); (case hn => (first | rfl | omega | (simp; done) | (simp; omega))); (case hi => first | exact eval_lit rfl | rfl); (case hj => first | omega | (simp; omega)); intro b_ o_ hc_) | ((with_reducible refine' st_load_cellM ?hw HS ?hx ?hc ?_); (case hw => rfl); (case hx => first | exact eval_lit rfl | rfl); (case hc => assumption)))
          go_roundw
          case rel => exact ⟨k + 1, by go_num, by omega, by simp [rvk], HS⟩
          case measure => simp [intOf]; omega
        · obtain rfl : k = 2 := by omega
          have hR := Lib.hid (rvk_val l hE.out.2 hE.out.1)
          clear hk hlt
          go_wp2_with (first | ((with_reducible refine' st_indexAddr_bs (T := 28) (e := 5) ?hw Tryd.underlying28 (by kernel_rfl) ?hx ?hb ?hn ?hi ?hj ?_); (case hw => rfl); (case hx => first | exact eval_lit rfl | rfl); (case hb => assumption); (case hn => (first | rfl | omega | (simp; done) | (simp; omega))); (case hi => first | exact eval_lit rfl | rfl); (case hj => first | omega | (simp; omega)); intro b_ o_ hc_) | ((with_reducible refine' st_load_cellM ?hw HS ?hx ?hc ?_); (case hw => rfl); (case hx => first | exact eval_lit rfl | rfl); (case hc => assumption)))
          go_ret
          refine ⟨?_, HS.below⟩
          have hR2 := hR.out
          rw [hl] at hR2
          unfold valueI
          rw [if_pos hE.out, ← hR2]
          rfl
    · have hand : bits BinOp.and IntKind.u8 (byt l 0 : Int) 7 = ((byt l 0 % 8 : Nat) : Int) := by rw [Int.natCast_emod]; exact u8_and7 _ h0 h256
      rw [hl]
      (have HS := St.start hi; go_enter Tryd.func141, Tryd.ntmps141)
      go_wp2_with (first | ((with_reducible refine' q_alloc ?_); refine' a_alloc HS ?_; clear HS; intro b_ w_ HS) | ((with_reducible refine' q_box ?_); refine' a_box HS ?_; clear HS; intro b_ w_ HS) | ((with_reducible refine' q_load ?_); refine' a_load HS ?_) | ((with_reducible refine' q_store ?_); refine' a_store HS ?_; clear HS; intro w_ HS) | (go_at_call 143; (with_reducible refine (HW.out 4 hl.symm _ HS.imm).mono ?_); rintro e w_ ⟨rfl, hb_⟩; have HS_ := HS.call hb_; clear HS hb_; have HS := HS_; clear HS_))
      have G31 := G3.out
      refine wp_region_plan [] [(true, 0), (true, 1), (true, 2), (true, 3), (true, 4), (true, 5), (true, 6), (true, 7), (true, 8), (true, 9)] (fun W_ => St _ _ W_ _ _) (by kernel_rfl) (by kernel_rfl) rfl (by kernel_rfl) (HS).drew ?_
      have HS_ := HS.drew; clear HS; have HS := HS_; clear HS_
      refine' a_dSoft rfl ?_
      (try simp only [Act.put, List.setIfInBounds_toArray, List.set_cons_zero, List.set_cons_succ])
      (refine' dIdxB (T := 28) (e := 5) rfl ?hw Tryd.underlying28 (by kernel_rfl) ?hx ?hb ?hn ?hix ?hj ?_; (case hw => first | rfl | go_simp); (case hx => first | exact eval_lit rfl | rfl); (case hb => assumption); (case hn => (first | rfl | omega | (simp; done) | (simp; omega))); (case hix => first | exact eval_lit rfl | rfl); (case hj => first | omega | (simp; omega)); intro b_ o_ hc_)
      (try simp only [Act.put, List.setIfInBounds_toArray, List.set_cons_zero, List.set_cons_succ])
      (first | refine' a_dLoad rfl (fun w_ hw_ => hw_) ?_ | refine' a_dLoadC rfl (fun w_ hw_ => hw_) ?_)
      (try simp only [Act.put, List.setIfInBounds_toArray, List.set_cons_zero, List.set_cons_succ])
      refine' a_dSoft rfl ?_
      (try simp only [Act.put, List.setIfInBounds_toArray, List.set_cons_zero, List.set_cons_succ])
      refine' a_dSoft rfl ?_
      (try simp only [Act.put, List.setIfInBounds_toArray, List.set_cons_zero, List.set_cons_succ])
      refine' a_dSoft rfl ?_
      (try simp only [Act.put, List.setIfInBounds_toArray, List.set_cons_zero, List.set_cons_succ])
      (first | refine' a_dLoad rfl (fun w_ hw_ => hw_) ?_ | refine' a_dLoadC rfl (fun w_ hw_ => hw_) ?_)
      (try simp only [Act.put, List.setIfInBounds_toArray, List.set_cons_zero, List.set_cons_succ])
      refine' a_dSoft rfl ?_
      (try simp only [Act.put, List.setIfInBounds_toArray, List.set_cons_zero, List.set_cons_succ])
      refine' a_dSoft rfl ?_
      (try simp only [Act.put, List.setIfInBounds_toArray, List.set_cons_zero, List.set_cons_succ])
      refine' a_dSoft rfl ?_
      (try simp only [Act.put, List.setIfInBounds_toArray, List.set_cons_zero, List.set_cons_succ])
      refine lexD_end ?_
      clear G31 hand
      go_wp2_with (first | ((with_reducible refine' st_slice_bs (S := 28) (e := 5) (i := 1) (j := 4) ?hw Tryd.underlying28 (by kernel_rfl) ?hx ?hb ?hn ?hij ?_); (case hw => first | rfl | (go_simp; done)); (case hx => first | exact eval_lit rfl | rfl); (case hb => assumption); (case hn => (first | rfl | omega | (simp; done) | (simp; omega))); (case hij => first | exact ⟨rfl, rfl, by omega, by omega⟩ | fail); intro A_ hA_))
      rw [List.take_of_length_le (by omega)] at hA_
      go_loopw [3, 21] (fun r i wr => ∃ k : Nat, i = .int .i64 k ∧ k ≤ 3 ∧ r = .int .i32 (rvk l 8 k) ∧ St (fun k => w.heap.size ≤ k) w wr M []) (fun _ i _ => 4 - (intOf i).toNat)
      case atStart => exact ⟨0, rfl, by omega, by simp [rvk], HS⟩
      case round =>
        clear HS
        obtain ⟨k, rfl, hk, rfl, HS⟩ := hrel
        by_cases hlt : k < 3
        · have hlt' : (k : Int) < 3 := by omega
          have hr := rvk_lt l 8 (by decide) k
          have hr2 : rvk l 8 k < 262144 := by
            have hk3 : k = 0 ∨ k = 1 ∨ k = 2 := by omega
            rcases hk3 with rfl | rfl | rfl <;> omega
          have hr3 : (rvk l 8 k : Int) < 262144 := by omega
          have hr0 : (0 : Int) ≤ rvk l 8 k := by omega
          have hy := byt_lt (l := l) (i := k + 1) (by omega)
          have hy2 := hy.2
          have hand : bits BinOp.and IntKind.u8 (byt l (k + 1) : Int) 63 = (byt l (k + 1) : Int) % 64 := u8_and63 _ (by omega) (by omega)
          have hor : bits BinOp.or IntKind.i32 ((rvk l 8 k : Int) * 64) ((byt l (k + 1) : Int) % 64) = (rvk l 8 k : Int) * 64 + (byt l (k + 1) : Int) % 64 := i32_or6 _ _ (by omega) (by omega) (by omega) (by omega) (by omega)
          clear hy hr
          go_wp2_with (first | ((with_reducible refine' st_indexAddr_bs (T := 28) (e := 5) ?hw Tryd.underlying28 (by kernel_rfl) ?hx ?hb ?hn ?hi ?hj ?_); (case hw => rfl); (case hx => first | exact eval_lit rfl | rfl); (case hb => assumption); (case hn => (first | rfl | omega | (simp; done) | (simp; omega))); (case hi => first | exact eval_lit rfl | rfl); (case hj => first | omega | (simp; omega)); intro b_ o_ hc_) | ((with_reducible refine' st_load_cellM ?hw HS ?hx ?hc ?_); (case hw => rfl); (case hx => first | exact eval_lit rfl | rfl); (case hc => assumption)))
          go_roundw
          case rel => exact ⟨k + 1, by go_num, by omega, by simp [rvk], HS⟩
          case measure => simp [intOf]; omega
        · obtain rfl : k = 3 := by omega
          have hR := Lib.hid (rvk_val l hE.out.2 hE.out.1)
          clear hk hlt
          go_wp2_with (first | ((with_reducible refine' st_indexAddr_bs (T := 28) (e := 5) ?hw Tryd.underlying28 (by kernel_rfl) ?hx ?hb ?hn ?hi ?hj ?_); (case hw => rfl); (case hx => first | exact eval_lit rfl | rfl); (case hb => assumption); (case hn => (first | rfl | omega | (simp; done) | (simp; omega))); (case hi => first | exact eval_lit rfl | rfl); (case hj => first | omega | (simp; omega)); intro b_ o_ hc_) | ((with_reducible refine' st_load_cellM ?hw HS ?hx ?hc ?_); (case hw => rfl); (case hx => first | exact eval_lit rfl | rfl); (case hc => assumption)))
          go_ret
          refine ⟨?_, HS.below⟩
          have hR2 := hR.out
          rw [hl] at hR2
          unfold valueI
          rw [if_pos hE.out, ← hR2]
          rfl
  · have hd : decide (enc l = l.length ∧ 0 < l.length) = false := decide_eq_false he
    have hW : ∀ w, Imm M w → Calls Tryd.prog 143 #[.slice A l.length c] w fun e w' => e = .returned (.bool false) ∧ Below w.heap.size w w' := fun w hi => by
      have := Whole_any M HG.out A c l hb w hi; rw [hd] at this; exact this
    have HW := Lib.hid hW; clear hW hd
    have HE := Lib.hid he; clear he
    (have HS := St.start hi; go_enter Tryd.func141, Tryd.ntmps141)
    go_wp2_with (first | ((with_reducible refine' q_alloc ?_); refine' a_alloc HS ?_; clear HS; intro b_ w_ HS) | ((with_reducible refine' q_box ?_); refine' a_box HS ?_; clear HS; intro b_ w_ HS) | ((with_reducible refine' q_load ?_); refine' a_load HS ?_) | ((with_reducible refine' q_store ?_); refine' a_store HS ?_; clear HS; intro w_ HS) | (go_at_call 143; (with_reducible refine (HW.out _ HS.imm).mono ?_); rintro e w_ ⟨rfl, hb_⟩; have HS_ := HS.call hb_; clear HS hb_; have HS := HS_; clear HS_))
    go_ret
    refine ⟨?_, HS.below⟩
    unfold valueI
    rw [if_neg HE.out]
    rfl
end Go.Proofs.YtbogoehjoglneaaDoor

/- step.first, step.at, step.inside, step.At, step.Floor: what the Go functions answer. -/
namespace Go.Proofs.YtbogoehjoglneaaDoor
open Go.RowKit
set_option linter.unusedVariables false
set_option linter.unusedSimpArgs false
set_option maxRecDepth 100000
attribute [local go_sem] byt_drop byt_tail Int.toNat_natCast sOf_size

abbrev stV (s : Stp) : Value := .agg #[.int .i32 s.r, .int .i64 s.w, .bool s.ok]

theorem list_take1 (l : List UInt8) (h : 0 < l.length) : l.take 1 = [l[0]'h] := by
  cases l with
  | nil => simp at h
  | cons a t => rfl
theorem list_take2 (l : List UInt8) (h : 1 < l.length) : l.take 2 = [l[0]'(by omega), l[1]'h] := by
  cases l with
  | nil => simp at h
  | cons a t => cases t with
    | nil => simp at h
    | cons b t => rfl
theorem list_take3 (l : List UInt8) (h : 2 < l.length) : l.take 3 = [l[0]'(by omega), l[1]'(by omega), l[2]'h] := by
  cases l with
  | nil => simp at h
  | cons a t => cases t with
    | nil => simp at h
    | cons b t => cases t with
      | nil => simp at h
      | cons c t => rfl
theorem list_take4 (l : List UInt8) (h : 3 < l.length) : l.take 4 = [l[0]'(by omega), l[1]'(by omega), l[2]'(by omega), l[3]'h] := by
  cases l with
  | nil => simp at h
  | cons a t => cases t with
    | nil => simp at h
    | cons b t => cases t with
      | nil => simp at h
      | cons c t => cases t with
        | nil => simp at h
        | cons d t => rfl

theorem u8_of {n : Nat} {b : UInt8} (h : n = b.toNat) : UInt8.ofNat n = b := by rw [h]; simp

/- A rune's encoding is the bytes that were read. -/
theorem encode_val (l : List UInt8) (h : enc l ≠ 0) : Utf8.encode (val l) = sOf (l.take (enc l)) ∧ val l ≤ 1114111 ∧ ¬ (55296 ≤ val l ∧ val l ≤ 57343) := by
  have hlen := enc_len l
  have h4 := enc_le l
  have hc : enc l = 1 ∨ enc l = 2 ∨ enc l = 3 ∨ enc l = 4 := by omega
  have hs : encN (byt l 0) (byt l 1) (byt l 2) (byt l 3) = enc l := rfl
  rcases hc with e | e | e | e
  · rw [e] at hs
    have b0 := byt_lt (l := l) (i := 0) (by omega)
    have hx := (encN_spec (byt l 0) (byt l 1) (byt l 2) (byt l 3)).1.1 hs
    have hv : val l = byt l 0 := by unfold val valN; rw [e]; rfl
    rw [hv, e, list_take1 l (by omega)]
    refine ⟨?_, by omega, by omega⟩
    have hvalid : Utf8.valid (byt l 0 : Nat) = true := by simp [Utf8.valid]; omega
    unfold Utf8.encode
    rw [if_pos hvalid]
    simp only [Int.toNat_natCast]
    rw [if_pos (by omega), u8_of b0.1]; rfl
  · rw [e] at hs
    have b0 := byt_lt (l := l) (i := 0) (by omega)
    have b1 := byt_lt (l := l) (i := 1) (by omega)
    have hv : val l = byt l 0 % 32 * 64 + byt l 1 % 64 := by unfold val valN; rw [e]; rfl
    have hx : (194 ≤ byt l 0 ∧ byt l 0 ≤ 223) ∧ 128 ≤ byt l 1 ∧ byt l 1 ≤ 191 := by unfold encN at hs; (repeat' split at hs) <;> omega
    rw [hv, e, list_take2 l (by omega)]
    refine ⟨?_, by omega, by omega⟩
    have hvalid : Utf8.valid ((byt l 0 % 32 * 64 + byt l 1 % 64 : Nat) : Int) = true := by simp only [Utf8.valid, Bool.or_eq_true, Bool.and_eq_true, decide_eq_true_eq]; omega
    unfold Utf8.encode
    rw [if_pos hvalid]
    simp only [Int.toNat_natCast]
    rw [if_neg (by omega), if_pos (by omega), u8_of (show 192 + (byt l 0 % 32 * 64 + byt l 1 % 64) / 64 = l[0].toNat by rw [← b0.1]; omega), u8_of (show 128 + (byt l 0 % 32 * 64 + byt l 1 % 64) % 64 = l[1].toNat by rw [← b1.1]; omega)]
    rfl
  · rw [e] at hs
    have b0 := byt_lt (l := l) (i := 0) (by omega)
    have b1 := byt_lt (l := l) (i := 1) (by omega)
    have b2 := byt_lt (l := l) (i := 2) (by omega)
    have hv : val l = byt l 0 % 16 * 4096 + byt l 1 % 64 * 64 + byt l 2 % 64 := by unfold val valN; rw [e]; rfl
    have hx : (128 ≤ byt l 2 ∧ byt l 2 ≤ 191) ∧ ((byt l 0 = 224 ∧ 160 ≤ byt l 1 ∧ byt l 1 ≤ 191) ∨ ((225 ≤ byt l 0 ∧ byt l 0 ≤ 236) ∧ 128 ≤ byt l 1 ∧ byt l 1 ≤ 191) ∨ (byt l 0 = 237 ∧ 128 ≤ byt l 1 ∧ byt l 1 ≤ 159) ∨ ((238 ≤ byt l 0 ∧ byt l 0 ≤ 239) ∧ 128 ≤ byt l 1 ∧ byt l 1 ≤ 191)) := by
      unfold encN at hs; (repeat' split at hs) <;> first | assumption | omega
    rw [hv, e, list_take3 l (by omega)]
    refine ⟨?_, by omega, by omega⟩
    have hvalid : Utf8.valid ((byt l 0 % 16 * 4096 + byt l 1 % 64 * 64 + byt l 2 % 64 : Nat) : Int) = true := by simp only [Utf8.valid, Bool.or_eq_true, Bool.and_eq_true, decide_eq_true_eq]; omega
    unfold Utf8.encode
    rw [if_pos hvalid]
    simp only [Int.toNat_natCast]
    rw [if_neg (by omega), if_neg (by omega), if_pos (by omega), u8_of (show 224 + (byt l 0 % 16 * 4096 + byt l 1 % 64 * 64 + byt l 2 % 64) / 4096 = l[0].toNat by rw [← b0.1]; omega), u8_of (show 128 + (byt l 0 % 16 * 4096 + byt l 1 % 64 * 64 + byt l 2 % 64) / 64 % 64 = l[1].toNat by rw [← b1.1]; omega), u8_of (show 128 + (byt l 0 % 16 * 4096 + byt l 1 % 64 * 64 + byt l 2 % 64) % 64 = l[2].toNat by rw [← b2.1]; omega)]
    rfl
  · rw [e] at hs
    have b0 := byt_lt (l := l) (i := 0) (by omega)
    have b1 := byt_lt (l := l) (i := 1) (by omega)
    have b2 := byt_lt (l := l) (i := 2) (by omega)
    have b3 := byt_lt (l := l) (i := 3) (by omega)
    have hv : val l = byt l 0 % 8 * 262144 + byt l 1 % 64 * 4096 + byt l 2 % 64 * 64 + byt l 3 % 64 := by unfold val valN; rw [e]; rfl
    have hx : (128 ≤ byt l 2 ∧ byt l 2 ≤ 191) ∧ (128 ≤ byt l 3 ∧ byt l 3 ≤ 191) ∧ ((byt l 0 = 240 ∧ 144 ≤ byt l 1 ∧ byt l 1 ≤ 191) ∨ ((241 ≤ byt l 0 ∧ byt l 0 ≤ 243) ∧ 128 ≤ byt l 1 ∧ byt l 1 ≤ 191) ∨ (byt l 0 = 244 ∧ 128 ≤ byt l 1 ∧ byt l 1 ≤ 143)) := by
      unfold encN at hs; (repeat' split at hs) <;> first | assumption | omega
    rw [hv, e, list_take4 l (by omega)]
    refine ⟨?_, by omega, by omega⟩
    have hvalid : Utf8.valid ((byt l 0 % 8 * 262144 + byt l 1 % 64 * 4096 + byt l 2 % 64 * 64 + byt l 3 % 64 : Nat) : Int) = true := by simp only [Utf8.valid, Bool.or_eq_true, Bool.and_eq_true, decide_eq_true_eq]; omega
    unfold Utf8.encode
    rw [if_pos hvalid]
    simp only [Int.toNat_natCast]
    rw [if_neg (by omega), if_neg (by omega), if_neg (by omega), u8_of (show 240 + (byt l 0 % 8 * 262144 + byt l 1 % 64 * 4096 + byt l 2 % 64 * 64 + byt l 3 % 64) / 262144 = l[0].toNat by rw [← b0.1]; omega), u8_of (show 128 + (byt l 0 % 8 * 262144 + byt l 1 % 64 * 4096 + byt l 2 % 64 * 64 + byt l 3 % 64) / 4096 % 64 = l[1].toNat by rw [← b1.1]; omega), u8_of (show 128 + (byt l 0 % 8 * 262144 + byt l 1 % 64 * 4096 + byt l 2 % 64 * 64 + byt l 3 % 64) / 64 % 64 = l[2].toNat by rw [← b2.1]; omega), u8_of (show 128 + (byt l 0 % 8 * 262144 + byt l 1 % 64 * 4096 + byt l 2 % 64 * 64 + byt l 3 % 64) % 64 = l[3].toNat by rw [← b3.1]; omega)]
    rfl

theorem enc_fffd (l : List UInt8) : (l.take 3 = [239, 191, 189]) → enc l = 3 ∧ val l = 65533 := by
  intro h
  have hl : 3 ≤ l.length := by have := congrArg List.length h; simp at this; omega
  rw [list_take3 l (by omega)] at h
  simp only [List.cons.injEq, and_true] at h
  have b0 := (byt_lt (l := l) (i := 0) (by omega)).1
  have b1 := (byt_lt (l := l) (i := 1) (by omega)).1
  have b2 := (byt_lt (l := l) (i := 2) (by omega)).1
  rw [h.1] at b0; rw [h.2.1] at b1; rw [h.2.2] at b2
  have e : enc l = 3 := by unfold enc; rw [b0, b1, b2]; rfl
  exact ⟨e, by unfold val; rw [e, b0, b1, b2]; rfl⟩

theorem fffd_enc (l : List UInt8) (h : enc l ≠ 0) (hv : val l = 65533) : l.take 3 = [239, 191, 189] := by
  have h1 := (encode_val l h).1
  rw [hv] at h1
  have h2 : Utf8.encode (65533 : Nat) = sOf [239, 191, 189] := by decide
  rw [h2] at h1
  have h3 := sOf_inj h1
  have h4 : enc l = 3 := by
    have := congrArg List.length h3
    have hl := enc_len l
    simp at this; omega
  rw [h4] at h3; exact h3.symm

theorem SHasPrefix_any (a p : List UInt8) (w : World) :
    Calls Tryd.prog 139 #[.string (sOf a), .string (sOf p)] w fun e w' => e = .returned (.bool (decide (a.take p.length = p))) ∧ w' = w := by
  by_cases hle : p.length ≤ a.length
  · have h1 : (p.length : Int) ≤ a.length := by omega
    clear hle
    go_enter Tryd.func139, Tryd.ntmps139
    go_wp2_with (first | ((with_reducible refine' st_slice_str (S := 9) (i := 0) (j := p.length) ?hw Tryd.underlying9 ?hx ?hij ?_); (case hw => first | rfl | (go_simp; done)); (case hx => first | exact eval_lit rfl | rfl); (case hij => first | exact ⟨rfl, rfl, by omega, by omega⟩ | fail)))
    go_ret
    exact ⟨ret_bool (by rw [Bool.eq_iff_iff]; simp [sOf_toList]), rfl⟩
  · have h1 : ¬ ((p.length : Int) ≤ a.length) := by omega
    have HE := Lib.hid hle; clear hle
    go_enter Tryd.func139, Tryd.ntmps139
    go_wp2_with (first | ((with_reducible refine' st_slice_str (S := 9) (i := 0) (j := p.length) ?hw Tryd.underlying9 ?hx ?hij ?_); (case hw => first | rfl | (go_simp; done)); (case hx => first | exact eval_lit rfl | rfl); (case hij => first | exact ⟨rfl, rfl, by omega, by omega⟩ | fail)))
    go_ret
    refine ⟨ret_bool (decide_eq_false ?_).symm, rfl⟩
    intro h
    have := congrArg List.length h
    simp at this
    have := HE.out
    omega
theorem HasPrefix_any (a p : List UInt8) (w : World) :
    Calls Tryd.prog 133 #[.string (sOf a), .string (sOf p)] w fun e w' => e = .returned (.bool (decide (a.take p.length = p))) ∧ w' = w := by
  go_enter Tryd.func133, Tryd.ntmps133
  go_wp2_with (go_at_call 139; (with_reducible refine (SHasPrefix_any _ _ _).mono ?_); rintro e w' ⟨rfl, rfl⟩)
  go_ret
  exact ⟨rfl, rfl⟩

set_option maxHeartbeats 1000000 in
theorem first_any (M : Mem) (hG : Gl M) (l : List UInt8) (w : World) (hi : Imm M w) :
    Calls Tryd.prog 130 #[.string (sOf l)] w fun e w' => e = .returned (stV (stp l)) ∧ Below w.heap.size w w' := by
  obtain ⟨t3, fr3, g3⟩ := hG.bad
  have G3 := Lib.hid g3; clear g3 hG
  have hpre : ∀ w, Calls Tryd.prog 133 #[.string (sOf l), .string { data := #[239, 191, 189] }] w fun e w' => e = .returned (.bool (decide (l.take 3 = [239, 191, 189]))) ∧ w' = w := fun w => HasPrefix_any l [239, 191, 189] w
  have HP := Lib.hid hpre; clear hpre
  by_cases h0 : 0 < l.length
  · by_cases he : enc l = 0
    · have hst : stp l = ⟨65533, 1, false⟩ := by unfold stp; rw [if_pos he]
      have hd : decide (l.take 3 = [239, 191, 189]) = false := decide_eq_false fun h => by rw [(enc_fffd l h).1] at he; cases he
      clear he
      have G31 := G3.out
      (have HS := St.start hi; go_enter Tryd.func130, Tryd.ntmps130)
      go_wp2_with (first | ((with_reducible refine' q_alloc ?_); refine' a_alloc HS ?_; clear HS; intro b_ w_ HS) | ((with_reducible refine' q_box ?_); refine' a_box HS ?_; clear HS; intro b_ w_ HS) | ((with_reducible refine' q_load ?_); refine' a_load HS ?_) | ((with_reducible refine' q_store ?_); refine' a_store HS ?_; clear HS; intro w_ HS) | ((with_reducible refine' st_range_str (T := 9) ?hw Tryd.underlying9 HS ?hx ?_); (case hw => rfl); (case hx => first | exact eval_lit rfl | rfl); intro b_ w_ HS_; clear HS; have HS := HS_; clear HS_))
      refine wp_loop_rounds 1 ?_; rw [rounds_succ]
      go_wp2_with (first | ((with_reducible refine' q_alloc ?_); refine' a_alloc HS ?_; clear HS; intro b_ w_ HS) | ((with_reducible refine' q_box ?_); refine' a_box HS ?_; clear HS; intro b_ w_ HS) | ((with_reducible refine' q_load ?_); refine' a_load HS ?_) | ((with_reducible refine' q_store ?_); refine' a_store HS ?_; clear HS; intro w_ HS) | ((with_reducible refine' st_next_str ?hw HS ?hx ?hp ?hr ?_); (case hw => rfl); (case hx => first | exact eval_lit rfl | rfl); (case hr => repeat (first | exact Rep1.head _ | apply Rep1.tail)); (case hp => exact h0); intro w_ HS_; clear HS; have HS := HS_; clear HS_) | (go_at_call 133; (with_reducible refine (HP.out _).mono ?_); rintro e w' ⟨rfl, rfl⟩))
      (refine post_cell (p := 2) (T := 43) rfl HS rfl rfl (by (first | (apply Blk.loc; (repeat (first | (with_reducible exact List.mem_cons_self) | apply List.mem_cons_of_mem)); done) | (apply Blk.imm; with_reducible assumption))) (by exact Eq.refl true) ?_)
      exact ⟨by rw [hst] <;> rfl, HS.below⟩
    · have hst : stp l = ⟨val l, enc l, true⟩ := by unfold stp; rw [if_neg he]
      have hv := encode_val l he
      have hlen := enc_len l
      have hsz : (Utf8.encode (val l : Int)).size = enc l := by rw [hv.1, sOf_size]; simp; omega
      have hv1 : (val l : Int) ≤ 1114111 := by omega
      have hv0 : (0 : Int) ≤ val l := by omega
      clear hlen
      by_cases h65 : val l = 65533
      · have hd : decide (l.take 3 = [239, 191, 189]) = true := decide_eq_true (fffd_enc l he h65)
        have h65' : ((val l : Int) == 65533) = true := by simp; omega
        clear he hv hv1 hv0 h65
        (have HS := St.start hi; go_enter Tryd.func130, Tryd.ntmps130)
        go_wp2_with (first | ((with_reducible refine' q_alloc ?_); refine' a_alloc HS ?_; clear HS; intro b_ w_ HS) | ((with_reducible refine' q_box ?_); refine' a_box HS ?_; clear HS; intro b_ w_ HS) | ((with_reducible refine' q_load ?_); refine' a_load HS ?_) | ((with_reducible refine' q_store ?_); refine' a_store HS ?_; clear HS; intro w_ HS) | ((with_reducible refine' st_range_str (T := 9) ?hw Tryd.underlying9 HS ?hx ?_); (case hw => rfl); (case hx => first | exact eval_lit rfl | rfl); intro b_ w_ HS_; clear HS; have HS := HS_; clear HS_))
        refine wp_loop_rounds 1 ?_; rw [rounds_succ]
        go_wp2_with (first | ((with_reducible refine' q_alloc ?_); refine' a_alloc HS ?_; clear HS; intro b_ w_ HS) | ((with_reducible refine' q_box ?_); refine' a_box HS ?_; clear HS; intro b_ w_ HS) | ((with_reducible refine' q_load ?_); refine' a_load HS ?_) | ((with_reducible refine' q_store ?_); refine' a_store HS ?_; clear HS; intro w_ HS) | ((with_reducible refine' st_next_str ?hw HS ?hx ?hp ?hr ?_); (case hw => rfl); (case hx => first | exact eval_lit rfl | rfl); (case hr => repeat (first | exact Rep1.head _ | apply Rep1.tail)); (case hp => exact h0); intro w_ HS_; clear HS; have HS := HS_; clear HS_) | (go_at_call 133; (with_reducible refine (HP.out _).mono ?_); rintro e w' ⟨rfl, rfl⟩))
        (refine post_cell (p := 2) (T := 43) rfl HS rfl rfl (by (first | (apply Blk.loc; (repeat (first | (with_reducible exact List.mem_cons_self) | apply List.mem_cons_of_mem)); done) | (apply Blk.imm; with_reducible assumption))) (by exact Eq.refl true) ?_)
        exact ⟨by rw [hst] <;> rfl, HS.below⟩
      · have h65' : ((val l : Int) == 65533) = false := by simp; omega
        clear he hv hv1 hv0 h65
        (have HS := St.start hi; go_enter Tryd.func130, Tryd.ntmps130)
        go_wp2_with (first | ((with_reducible refine' q_alloc ?_); refine' a_alloc HS ?_; clear HS; intro b_ w_ HS) | ((with_reducible refine' q_box ?_); refine' a_box HS ?_; clear HS; intro b_ w_ HS) | ((with_reducible refine' q_load ?_); refine' a_load HS ?_) | ((with_reducible refine' q_store ?_); refine' a_store HS ?_; clear HS; intro w_ HS) | ((with_reducible refine' st_range_str (T := 9) ?hw Tryd.underlying9 HS ?hx ?_); (case hw => rfl); (case hx => first | exact eval_lit rfl | rfl); intro b_ w_ HS_; clear HS; have HS := HS_; clear HS_))
        refine wp_loop_rounds 1 ?_; rw [rounds_succ]
        go_wp2_with (first | ((with_reducible refine' q_alloc ?_); refine' a_alloc HS ?_; clear HS; intro b_ w_ HS) | ((with_reducible refine' q_box ?_); refine' a_box HS ?_; clear HS; intro b_ w_ HS) | ((with_reducible refine' q_load ?_); refine' a_load HS ?_) | ((with_reducible refine' q_store ?_); refine' a_store HS ?_; clear HS; intro w_ HS) | ((with_reducible refine' st_next_str ?hw HS ?hx ?hp ?hr ?_); (case hw => rfl); (case hx => first | exact eval_lit rfl | rfl); (case hr => repeat (first | exact Rep1.head _ | apply Rep1.tail)); (case hp => exact h0); intro w_ HS_; clear HS; have HS := HS_; clear HS_) | (go_at_call 133; (with_reducible refine (HP.out _).mono ?_); rintro e w' ⟨rfl, rfl⟩))
        (refine post_cell (p := 2) (T := 43) rfl HS rfl rfl (by (first | (apply Blk.loc; (repeat (first | (with_reducible exact List.mem_cons_self) | apply List.mem_cons_of_mem)); done) | (apply Blk.imm; with_reducible assumption))) (by exact Eq.refl true) ?_)
        exact ⟨by rw [hst] <;> rfl, HS.below⟩
  · obtain rfl : l = [] := List.length_eq_zero_iff.1 (by omega)
    have G31 := G3.out
    (have HS := St.start hi; go_enter Tryd.func130, Tryd.ntmps130)
    go_wp2_with (first | ((with_reducible refine' q_alloc ?_); refine' a_alloc HS ?_; clear HS; intro b_ w_ HS) | ((with_reducible refine' q_box ?_); refine' a_box HS ?_; clear HS; intro b_ w_ HS) | ((with_reducible refine' q_load ?_); refine' a_load HS ?_) | ((with_reducible refine' q_store ?_); refine' a_store HS ?_; clear HS; intro w_ HS) | ((with_reducible refine' st_range_str (T := 9) ?hw Tryd.underlying9 HS ?hx ?_); (case hw => rfl); (case hx => first | exact eval_lit rfl | rfl); intro b_ w_ HS_; clear HS; have HS := HS_; clear HS_))
    refine wp_loop_rounds 1 ?_; rw [rounds_succ]
    go_wp2_with (first | ((with_reducible refine' q_alloc ?_); refine' a_alloc HS ?_; clear HS; intro b_ w_ HS) | ((with_reducible refine' q_box ?_); refine' a_box HS ?_; clear HS; intro b_ w_ HS) | ((with_reducible refine' q_load ?_); refine' a_load HS ?_) | ((with_reducible refine' q_store ?_); refine' a_store HS ?_; clear HS; intro w_ HS) | ((with_reducible refine' st_next_str_end ?hw HS ?hx ?hp ?hm ?_); (case hw => rfl); (case hx => first | exact eval_lit rfl | rfl); (case hm => ((repeat (first | (with_reducible exact List.mem_cons_self) | apply List.mem_cons_of_mem)); done)); (case hp => exact h0)))
    (refine post_cell (p := 2) (T := 43) rfl HS rfl rfl (by (first | (apply Blk.loc; (repeat (first | (with_reducible exact List.mem_cons_self) | apply List.mem_cons_of_mem)); done) | (apply Blk.imm; with_reducible assumption))) (by exact Eq.refl true) ?_)
    exact ⟨rfl, HS.below⟩
end Go.Proofs.YtbogoehjoglneaaDoor

/- step.at, step.inside, step.At, step.Floor. -/
namespace Go.Proofs.YtbogoehjoglneaaDoor
open Go.RowKit
set_option linter.unusedVariables false
set_option linter.unusedSimpArgs false
set_option maxRecDepth 100000
attribute [local go_sem] byt_drop byt_tail Int.toNat_natCast sOf_size Instr.field asAgg

theorem stp_congr {l l' : List UInt8} (h : ∀ i, i < 4 → byt l' i = byt l i) : stp l' = stp l := by
  have e : enc l' = enc l := by unfold enc; rw [h 0 (by omega), h 1 (by omega), h 2 (by omega), h 3 (by omega)]
  unfold stp val; rw [e, h 0 (by omega), h 1 (by omega), h 2 (by omega), h 3 (by omega)]

theorem stp_take {l : List UInt8} {p q : Nat} (h : p + 4 ≤ q ∨ l.length ≤ q) : stp ((l.take q).drop p) = stp (l.drop p) := by
  refine stp_congr fun i hi => ?_
  rw [byt_drop, byt_drop]
  rcases h with h | h
  · exact byt_take (by omega)
  · rw [List.take_of_length_le h]

set_option maxHeartbeats 1000000 in
theorem at_any (M : Mem) (hG : Gl M) (A : Option Addr) (c : Nat) (l : List UInt8) (hb : BS M A c l) (x : Int) (h0 : 0 ≤ x) (h1 : x ≤ l.length) (hm : (l.length : Int) ≤ 140737488355328) (w : World) (hi : Imm M w) :
    Calls Tryd.prog 118 #[.slice A l.length c, .int .i64 x] w fun e w' => e = .returned (stV (stp (l.drop x.toNat))) ∧ Below w.heap.size w w' := by
  have HG := Lib.hid hG; clear hG
  obtain ⟨p, rfl⟩ := Int.eq_ofNat_of_zero_le h0
  rw [Int.toNat_natCast]
  by_cases hle : (p : Int) + 4 ≤ l.length
  · have hS := Lib.hid (stp_take (l := l) (p := p) (q := p + 4) (.inl (Nat.le_refl _)))
    (have HS := St.start hi; go_enter Tryd.func118, Tryd.ntmps118)
    go_wp2_with (first | ((with_reducible refine' q_alloc ?_); refine' a_alloc HS ?_; clear HS; intro b_ w_ HS) | ((with_reducible refine' q_box ?_); refine' a_box HS ?_; clear HS; intro b_ w_ HS) | ((with_reducible refine' q_load ?_); refine' a_load HS ?_) | ((with_reducible refine' q_store ?_); refine' a_store HS ?_; clear HS; intro w_ HS) | ((with_reducible refine' st_slice_bs (S := 28) (e := 5) (i := p) (j := p + 4) ?hw Tryd.underlying28 (by kernel_rfl) ?hx ?hb ?hn ?hij ?_); (case hw => first | rfl | (go_simp; done)); (case hx => first | exact eval_lit rfl | rfl); (case hb => assumption); (case hn => (first | rfl | omega | (simp; done) | (simp; omega))); (case hij => first | exact ⟨rfl, rfl, by omega, by omega⟩ | fail); intro A_ hA_) | ((with_reducible refine' st_conv_bs (S := 28) (D := 9) (e := 5) ?hw Tryd.underlying28 Tryd.underlying5 Tryd.underlying9 HS ?hx ?hb ?hn ?_); (case hw => rfl); (case hx => first | exact eval_lit rfl | rfl); (case hb => (first | assumption | (with_reducible refine BS.mono ?_ ?_; assumption; assumption))); (case hn => (first | rfl | omega | (simp; done) | (simp; omega)))) | (go_at_call 130; (with_reducible refine (first_any M HG.out _ _ HS.imm).mono ?_); rintro e w_ ⟨rfl, hb_⟩; have HS_ := HS.call hb_; clear HS hb_; have HS := HS_; clear HS_))
    (refine post_cell (p := 4) (T := 43) rfl HS rfl rfl (by (first | (apply Blk.loc; (repeat (first | (with_reducible exact List.mem_cons_self) | apply List.mem_cons_of_mem)); done) | (apply Blk.imm; with_reducible assumption))) (by exact Eq.refl true) ?_)
    exact ⟨by rw [← hS.out], HS.below⟩
  · have hle' : (l.length : Int) < p + 4 := by omega
    have hS := Lib.hid (stp_take (l := l) (p := p) (q := l.length) (.inr (Nat.le_refl _)))
    clear hle
    (have HS := St.start hi; go_enter Tryd.func118, Tryd.ntmps118)
    go_wp2_with (first | ((with_reducible refine' q_alloc ?_); refine' a_alloc HS ?_; clear HS; intro b_ w_ HS) | ((with_reducible refine' q_box ?_); refine' a_box HS ?_; clear HS; intro b_ w_ HS) | ((with_reducible refine' q_load ?_); refine' a_load HS ?_) | ((with_reducible refine' q_store ?_); refine' a_store HS ?_; clear HS; intro w_ HS) | ((with_reducible refine' st_slice_bs (S := 28) (e := 5) (i := p) (j := l.length) ?hw Tryd.underlying28 (by kernel_rfl) ?hx ?hb ?hn ?hij ?_); (case hw => first | rfl | (go_simp; done)); (case hx => first | exact eval_lit rfl | rfl); (case hb => assumption); (case hn => (first | rfl | omega | (simp; done) | (simp; omega))); (case hij => first | exact ⟨rfl, rfl, by omega, by omega⟩ | fail); intro A_ hA_) | ((with_reducible refine' st_conv_bs (S := 28) (D := 9) (e := 5) ?hw Tryd.underlying28 Tryd.underlying5 Tryd.underlying9 HS ?hx ?hb ?hn ?_); (case hw => rfl); (case hx => first | exact eval_lit rfl | rfl); (case hb => (first | assumption | (with_reducible refine BS.mono ?_ ?_; assumption; assumption))); (case hn => (first | rfl | omega | (simp; done) | (simp; omega)))) | (go_at_call 130; (with_reducible refine (first_any M HG.out _ _ HS.imm).mono ?_); rintro e w_ ⟨rfl, hb_⟩; have HS_ := HS.call hb_; clear HS hb_; have HS := HS_; clear HS_))
    (refine post_cell (p := 4) (T := 43) rfl HS rfl rfl (by (first | (apply Blk.loc; (repeat (first | (with_reducible exact List.mem_cons_self) | apply List.mem_cons_of_mem)); done) | (apply Blk.imm; with_reducible assumption))) (by exact Eq.refl true) ?_)
    exact ⟨by rw [← hS.out], HS.below⟩

set_option maxHeartbeats 1000000 in
theorem inside_any (M : Mem) (hG : Gl M) (A : Option Addr) (c : Nat) (l : List UInt8) (hb : BS M A c l) (x : Int) (h0 : 0 ≤ x) (h1 : x ≤ l.length) (hm : (l.length : Int) ≤ 140737488355328) (w : World) (hi : Imm M w) :
    Calls Tryd.prog 109 #[.slice A l.length c, .int .i64 x] w fun e w' => e = .returned (.int .i64 (inside l x.toNat)) ∧ Below w.heap.size w w' := by
  have HG := Lib.hid hG; clear hG
  obtain ⟨p, rfl⟩ := Int.eq_ofNat_of_zero_le h0
  rw [Int.toNat_natCast]
  (have HS := St.start hi; go_enter Tryd.func109, Tryd.ntmps109)
  go_wp2_with (first | ((with_reducible refine' q_alloc ?_); refine' a_alloc HS ?_; clear HS; intro b_ w_ HS) | ((with_reducible refine' q_box ?_); refine' a_box HS ?_; clear HS; intro b_ w_ HS) | ((with_reducible refine' q_load ?_); refine' a_load HS ?_) | ((with_reducible refine' q_store ?_); refine' a_store HS ?_; clear HS; intro w_ HS))
  go_loopw [5] (fun i wr => ∃ k : Nat, i = .int .i64 k ∧ 1 ≤ k ∧ k ≤ 4 ∧ (∀ j, 1 ≤ j → j < k → j ≤ p → enc (l.drop (p - j)) ≤ j) ∧ St (fun k => w.heap.size ≤ k) w wr M []) (fun i _ => 4 - (intOf i).toNat)
  case atStart => exact ⟨1, rfl, by omega, by omega, fun j _ _ _ => by omega, HS⟩
  case round =>
    clear HS
    obtain ⟨k, rfl, hk1, hk4, hno, HS⟩ := hrel
    have HN := Lib.hid hno; clear hno
    by_cases h3 : (k : Int) ≤ 3
    · by_cases hkp : (k : Int) ≤ p
      · have e1 : ((p : Int) - (k : Int)).toNat = p - k := by omega
        have hw4 := stp_enc (l.drop (p - k))
        by_cases hgt : (k : Int) < (stp (l.drop (p - k))).w
        · have HW4 := Lib.hid hw4; clear hw4
          have hE := Lib.hid e1
          go_wp2_with (first | ((with_reducible refine' q_alloc ?_); refine' a_alloc HS ?_; clear HS; intro b_ w_ HS) | ((with_reducible refine' q_box ?_); refine' a_box HS ?_; clear HS; intro b_ w_ HS) | ((with_reducible refine' q_load ?_); refine' a_load HS ?_) | ((with_reducible refine' q_store ?_); refine' a_store HS ?_; clear HS; intro w_ HS) | (go_at_call 118; (with_reducible refine (at_any M HG.out A c l hb ((p : Int) - (k : Int)) (by omega) (by omega) hm _ HS.imm).mono ?_); rintro e w_ ⟨rfl, hb_⟩; have HS_ := HS.call hb_; clear HS hb_; have HS := HS_; clear HS_; try rw [e1]))
          go_ret
          refine ⟨ret_int ?_, HS.below⟩
          have hk : k < enc (l.drop (p - k)) := by
            by_cases e0 : enc (l.drop (p - k)) = 0
            · have : (stp (l.drop (p - k))).w = 1 := by unfold stp; rw [if_pos e0]
              omega
            · have : (stp (l.drop (p - k))).w = enc (l.drop (p - k)) := by unfold stp; rw [if_neg e0]
              omega
          rw [inside_spec hk1 (by omega) hk]
        · have HW4 := Lib.hid hw4; clear hw4
          have HGT := Lib.hid hgt
          go_wp2_with (first | ((with_reducible refine' q_alloc ?_); refine' a_alloc HS ?_; clear HS; intro b_ w_ HS) | ((with_reducible refine' q_box ?_); refine' a_box HS ?_; clear HS; intro b_ w_ HS) | ((with_reducible refine' q_load ?_); refine' a_load HS ?_) | ((with_reducible refine' q_store ?_); refine' a_store HS ?_; clear HS; intro w_ HS) | (go_at_call 118; (with_reducible refine (at_any M HG.out A c l hb ((p : Int) - (k : Int)) (by omega) (by omega) hm _ HS.imm).mono ?_); rintro e w_ ⟨rfl, hb_⟩; have HS_ := HS.call hb_; clear HS hb_; have HS := HS_; clear HS_; try rw [e1]))
          go_roundw
          case rel => exact ⟨k + 1, by go_num, by omega, by omega, (fun j h1 h2 h3 => by
            by_cases hjk : j < k
            · exact HN.out j h1 hjk h3
            · obtain rfl : j = k := by omega
              have := HW4.out; have := HGT.out; omega), HS⟩
          case measure => simp [intOf]; omega
      · have hkp' : ¬ ((k : Int) ≤ p) := hkp
        have HK := Lib.hid hkp
        clear hkp
        go_wp2_with (first | ((with_reducible refine' q_alloc ?_); refine' a_alloc HS ?_; clear HS; intro b_ w_ HS) | ((with_reducible refine' q_box ?_); refine' a_box HS ?_; clear HS; intro b_ w_ HS) | ((with_reducible refine' q_load ?_); refine' a_load HS ?_) | ((with_reducible refine' q_store ?_); refine' a_store HS ?_; clear HS; intro w_ HS))
        go_ret
        refine ⟨ret_int ?_, HS.below⟩
        have hz : inside l p = 0 := by
          by_cases h : inside l p = 0
          · exact h
          · obtain ⟨g1, g2, g3⟩ := inside_pos h
            have := HN.out (inside l p) g1 (by have := HK.out; omega) g2
            omega
        rw [hz]; rfl
    · have HK := Lib.hid h3
      have h3' : ¬ ((k : Int) ≤ 3) := h3
      clear h3
      go_wp2_with (first | ((with_reducible refine' q_alloc ?_); refine' a_alloc HS ?_; clear HS; intro b_ w_ HS) | ((with_reducible refine' q_box ?_); refine' a_box HS ?_; clear HS; intro b_ w_ HS) | ((with_reducible refine' q_load ?_); refine' a_load HS ?_) | ((with_reducible refine' q_store ?_); refine' a_store HS ?_; clear HS; intro w_ HS))
      go_ret
      refine ⟨ret_int ?_, HS.below⟩
      have hz : inside l p = 0 := by
        by_cases h : inside l p = 0
        · exact h
        · obtain ⟨g1, g2, g3⟩ := inside_pos h
          have := (inside_le l p).1
          have := HN.out (inside l p) g1 (by have := HK.out; omega) g2
          omega
      rw [hz]; rfl

set_option maxHeartbeats 1000000 in
/- step.At at a place of the bytes. -/
theorem At_in (M : Mem) (hG : Gl M) (A : Option Addr) (c : Nat) (l : List UInt8) (hb : BS M A c l) (x : Int) (h0 : 0 ≤ x) (h1 : x < l.length) (hm : (l.length : Int) ≤ 140737488355328) (w : World) (hi : Imm M w) :
    Calls Tryd.prog 98 #[.slice A l.length c, .int .i64 x] w fun e w' => e = .returned (.tuple #[stV (if inside l x.toNat = 0 then stp (l.drop x.toNat) else ⟨0, 0, false⟩), .int .i64 (if inside l x.toNat = 0 then 0 else 4)]) ∧ Below w.heap.size w w' := by
  have HG := Lib.hid hG; clear hG
  by_cases hz : inside l x.toNat = 0
  · have hz' : ¬ ((0 : Int) < (inside l x.toNat : Nat)) := by omega
    have HZ := Lib.hid hz; clear hz
    (have HS := St.start hi; go_enter Tryd.func98, Tryd.ntmps98)
    go_wp2_with (first | ((with_reducible refine' q_alloc ?_); refine' a_alloc HS ?_; clear HS; intro b_ w_ HS) | ((with_reducible refine' q_box ?_); refine' a_box HS ?_; clear HS; intro b_ w_ HS) | ((with_reducible refine' q_load ?_); refine' a_load HS ?_) | ((with_reducible refine' q_store ?_); refine' a_store HS ?_; clear HS; intro w_ HS) | (go_at_call 109; (with_reducible refine (inside_any M HG.out A c l hb x h0 (by omega) hm _ HS.imm).mono ?_); rintro e w_ ⟨rfl, hb_⟩; have HS_ := HS.call hb_; clear HS hb_; have HS := HS_; clear HS_) | (go_at_call 118; (with_reducible refine (at_any M HG.out A c l hb x h0 (by omega) hm _ HS.imm).mono ?_); rintro e w_ ⟨rfl, hb_⟩; have HS_ := HS.call hb_; clear HS hb_; have HS := HS_; clear HS_))
    (refine post_cell_tmp (p := 4) (T := 43) rfl HS rfl rfl (by (first | (apply Blk.loc; (repeat (first | (with_reducible exact List.mem_cons_self) | apply List.mem_cons_of_mem)); done) | (apply Blk.imm; with_reducible assumption))) (by exact Eq.refl true) ?_)
    exact ⟨by first | rfl | (rw [if_pos HZ.out, if_pos HZ.out]; rfl), HS.below⟩
  · have hz' : (0 : Int) < (inside l x.toNat : Nat) := by omega
    have HZ := Lib.hid hz; clear hz
    (have HS := St.start hi; go_enter Tryd.func98, Tryd.ntmps98)
    go_wp2_with (first | ((with_reducible refine' q_alloc ?_); refine' a_alloc HS ?_; clear HS; intro b_ w_ HS) | ((with_reducible refine' q_box ?_); refine' a_box HS ?_; clear HS; intro b_ w_ HS) | ((with_reducible refine' q_load ?_); refine' a_load HS ?_) | ((with_reducible refine' q_store ?_); refine' a_store HS ?_; clear HS; intro w_ HS) | (go_at_call 109; (with_reducible refine (inside_any M HG.out A c l hb x h0 (by omega) hm _ HS.imm).mono ?_); rintro e w_ ⟨rfl, hb_⟩; have HS_ := HS.call hb_; clear HS hb_; have HS := HS_; clear HS_) | (go_at_call 118; (with_reducible refine (at_any M HG.out A c l hb x h0 (by omega) hm _ HS.imm).mono ?_); rintro e w_ ⟨rfl, hb_⟩; have HS_ := HS.call hb_; clear HS hb_; have HS := HS_; clear HS_))
    (refine post_cell_tmp (p := 4) (T := 43) rfl HS rfl rfl (by (first | (apply Blk.loc; (repeat (first | (with_reducible exact List.mem_cons_self) | apply List.mem_cons_of_mem)); done) | (apply Blk.imm; with_reducible assumption))) (by exact Eq.refl true) ?_)
    exact ⟨by first | rfl | (rw [if_neg HZ.out, if_neg HZ.out]; rfl), HS.below⟩

theorem At_out (M : Mem) (hG : Gl M) (A : Option Addr) (c n : Nat) (x : Int) (h : x < 0 ∨ n ≤ x) (w : World) (hi : Imm M w) :
    Calls Tryd.prog 98 #[.slice A n c, .int .i64 x] w fun e w' => e = .returned (.tuple #[stV ⟨0, 0, false⟩, .int .i64 2]) ∧ Below w.heap.size w w' := by
  have HG := Lib.hid hG; clear hG
  rcases h with h | h
  · (have HS := St.start hi; go_enter Tryd.func98, Tryd.ntmps98)
    go_wp2_with (first | ((with_reducible refine' q_alloc ?_); refine' a_alloc HS ?_; clear HS; intro b_ w_ HS) | ((with_reducible refine' q_box ?_); refine' a_box HS ?_; clear HS; intro b_ w_ HS) | ((with_reducible refine' q_load ?_); refine' a_load HS ?_) | ((with_reducible refine' q_store ?_); refine' a_store HS ?_; clear HS; intro w_ HS))
    (refine post_cell_tmp (p := 4) (T := 43) rfl HS rfl rfl (by (first | (apply Blk.loc; (repeat (first | (with_reducible exact List.mem_cons_self) | apply List.mem_cons_of_mem)); done) | (apply Blk.imm; with_reducible assumption))) (by exact Eq.refl true) ?_)
    exact ⟨rfl, HS.below⟩
  · have h0 : ¬ x < 0 := by omega
    (have HS := St.start hi; go_enter Tryd.func98, Tryd.ntmps98)
    go_wp2_with (first | ((with_reducible refine' q_alloc ?_); refine' a_alloc HS ?_; clear HS; intro b_ w_ HS) | ((with_reducible refine' q_box ?_); refine' a_box HS ?_; clear HS; intro b_ w_ HS) | ((with_reducible refine' q_load ?_); refine' a_load HS ?_) | ((with_reducible refine' q_store ?_); refine' a_store HS ?_; clear HS; intro w_ HS))
    (refine post_cell_tmp (p := 4) (T := 43) rfl HS rfl rfl (by (first | (apply Blk.loc; (repeat (first | (with_reducible exact List.mem_cons_self) | apply List.mem_cons_of_mem)); done) | (apply Blk.imm; with_reducible assumption))) (by exact Eq.refl true) ?_)
    exact ⟨rfl, HS.below⟩

theorem Floor_in (M : Mem) (hG : Gl M) (A : Option Addr) (c : Nat) (l : List UInt8) (hb : BS M A c l) (x : Int) (h0 : 0 ≤ x) (h1 : x ≤ l.length) (hm : (l.length : Int) ≤ 140737488355328) (w : World) (hi : Imm M w) :
    Calls Tryd.prog 90 #[.slice A l.length c, .int .i64 x] w fun e w' => e = .returned (.tuple #[.int .i64 (floorN l x.toNat), .int .i64 0]) ∧ Below w.heap.size w w' := by
  have HG := Lib.hid hG; clear hG
  have hin := inside_le l x.toNat
  have hin1 : (inside l x.toNat : Int) ≤ 3 := by omega
  have hin2 : (inside l x.toNat : Int) ≤ x := by omega
  have HI := Lib.hid hin; clear hin
  (have HS := St.start hi; go_enter Tryd.func90, Tryd.ntmps90)
  go_wp2_with (first | ((with_reducible refine' q_alloc ?_); refine' a_alloc HS ?_; clear HS; intro b_ w_ HS) | ((with_reducible refine' q_box ?_); refine' a_box HS ?_; clear HS; intro b_ w_ HS) | ((with_reducible refine' q_load ?_); refine' a_load HS ?_) | ((with_reducible refine' q_store ?_); refine' a_store HS ?_; clear HS; intro w_ HS) | (go_at_call 109; (with_reducible refine (inside_any M HG.out A c l hb x h0 h1 hm _ HS.imm).mono ?_); rintro e w_ ⟨rfl, hb_⟩; have HS_ := HS.call hb_; clear HS hb_; have HS := HS_; clear HS_))
  go_ret2
  refine ⟨?_, HS.below⟩
  have := HI.out
  have e : x - (inside l x.toNat : Int) = (floorN l x.toNat : Nat) := by unfold floorN; omega
  rw [← e]; rfl

theorem Floor_out (M : Mem) (hG : Gl M) (A : Option Addr) (c n : Nat) (x : Int) (h : x < 0 ∨ n < x) (w : World) (hi : Imm M w) :
    Calls Tryd.prog 90 #[.slice A n c, .int .i64 x] w fun e w' => e = .returned (.tuple #[.int .i64 0, .int .i64 2]) ∧ Below w.heap.size w w' := by
  rcases h with h | h
  · (have HS := St.start hi; go_enter Tryd.func90, Tryd.ntmps90)
    go_wp2_with (first | ((with_reducible refine' q_alloc ?_); refine' a_alloc HS ?_; clear HS; intro b_ w_ HS) | ((with_reducible refine' q_box ?_); refine' a_box HS ?_; clear HS; intro b_ w_ HS) | ((with_reducible refine' q_load ?_); refine' a_load HS ?_) | ((with_reducible refine' q_store ?_); refine' a_store HS ?_; clear HS; intro w_ HS))
    go_ret2
    exact ⟨rfl, HS.below⟩
  · have h0 : ¬ x < 0 := by omega
    (have HS := St.start hi; go_enter Tryd.func90, Tryd.ntmps90)
    go_wp2_with (first | ((with_reducible refine' q_alloc ?_); refine' a_alloc HS ?_; clear HS; intro b_ w_ HS) | ((with_reducible refine' q_box ?_); refine' a_box HS ?_; clear HS; intro b_ w_ HS) | ((with_reducible refine' q_load ?_); refine' a_load HS ?_) | ((with_reducible refine' q_store ?_); refine' a_store HS ?_; clear HS; intro w_ HS))
    go_ret2
    exact ⟨rfl, HS.below⟩
end Go.Proofs.YtbogoehjoglneaaDoor

/- step.All: the iterator over the steps of bytes. -/
namespace Go.Proofs.YtbogoehjoglneaaDoor
open Go.RowKit
set_option linter.unusedVariables false
set_option linter.unusedSimpArgs false
set_option maxRecDepth 100000
attribute [local go_sem] byt_drop byt_tail Int.toNat_natCast sOf_size

abbrev stepV : List (Nat × Stp) → (Nat × Stp) → Array Value → List (Nat × Obj) → Prop := fun _ x vs Fr => vs = #[.int .i64 x.1, stV x.2] ∧ Fr = []

set_option maxHeartbeats 1000000 in
theorem All1_seq (M : Mem) (hG : Gl M) (b : Nat) (l : List UInt8) (tt : TypeId) (fr : Nat × Nat) (hb : M b = some (.cells [.string (sOf l)].toArray tt fr)) (hm : (l.length : Int) ≤ 140737488355328) :
    SeqC Tryd.prog M 132 #[.pointer (some ⟨b, 0, none⟩)] (steps l 0) stepV := by
  intro l0 J Jx W hi hJ hJx h0 hY
  clear hJx
  refine (callsIn_wide (n := 0)).2 ?_
  have HG := Lib.hid hG; clear hG
  have HY := Lib.hid hY; clear hY
  have HJ := Lib.hid hJ; clear hJ
  have HS := St.start' hi
  go_enter Tryd.func132, Tryd.ntmps132
  go_wp2_with (first | ((with_reducible refine' q_alloc ?_); refine' a_alloc HS ?_; clear HS; intro b_ w_ HS) | ((with_reducible refine' q_box ?_); refine' a_box HS ?_; clear HS; intro b_ w_ HS) | ((with_reducible refine' q_load ?_); refine' a_load HS ?_) | ((with_reducible refine' q_store ?_); refine' a_store HS ?_; clear HS; intro w_ HS) | ((with_reducible refine' st_range_str (T := 9) ?hw Tryd.underlying9 HS ?hx ?_); (case hw => rfl); (case hx => first | exact eval_lit rfl | rfl); intro b_ w_ HS_; clear HS; have HS := HS_; clear HS_))
  refine wp_loop_st (σ := Nat) (fun p a w => p ≤ l.length ∧ (∃ g2 g3 g4 g6 g7 g8 g9 g10 g11 g12 g13 g14 g15 g16 : Value, a = { tmps := #[.func (.yield l0) #[] #[], .pointer (some ⟨b, 0, none⟩), g2, g3, g4, .pointer (some ⟨b_, 0, none⟩), g6, g7, g8, g9, g10, g11, g12, g13, g14, g15, g16], defers := [] }) ∧
    ∃ pre O0 W0, steps l 0 = pre ++ steps (l.drop p) p ∧ J pre O0 W0 ∧ St (fun k => O0 k ∨ W0.heap.size ≤ k) W0 w M [(b_, Obj.stringIter (sOf l) p)]) (fun p => l.length - p) 0
    ⟨Nat.zero_le _, ⟨_, _, _, _, _, _, _, _, _, _, _, _, _, _, rfl⟩, [], _, _, rfl, h0, HS⟩ ?_
  clear HS h0 hi
  rintro p a w ⟨hp, ⟨g2, g3, g4, g6, g7, g8, g9, g10, g11, g12, g13, g14, g15, g16, rfl⟩, pre, O0, W0, hpre, hJ, HS⟩
  by_cases hlt : p < l.length
  · have hl1 : (p : Int) ≤ l.length := by omega
    have hl2 : l.drop p ≠ [] := by
      intro h
      have := congrArg List.length h
      simp at this; omega
    have hw1 := stp_len hl2
    rw [List.length_drop] at hw1
    have HW1 := Lib.hid hw1; clear hw1
    have hp1 : (pre ++ [(p, stp (l.drop p))]) <+: steps l 0 := ⟨_, by rw [hpre, steps_cons hl2 p, List.append_assoc]; rfl⟩
    repeat' (first | ((with_reducible refine' wp_region_yield (id := 3) 6 ?hd ?hno ?_); (case hd => rfl); (case hno => (rintro ⟨_, _, h⟩; first | exact (h : False) | exact (h : (∃ v, Ending.outgrown = Ending.returned v) ∧ _).1.elim (fun v hv => nomatch hv) | exact (h : Ending.outgrown = Ending.returned _ ∧ _).1.elim | exact (h : (Ending.outgrown = Ending.returned _ ∧ _) ∨ (Ending.outgrown = Ending.returned _ ∧ _)).elim (fun h => nomatch h.1) (fun h => nomatch h.1))); intro K_ hK_; simp only [List.take_succ_cons, List.take_zero, List.drop_succ_cons, List.drop_zero] at hK_ ⊢) | ((with_reducible refine' q_alloc ?_); refine' a_alloc HS ?_; clear HS; intro b_ w_ HS) | ((with_reducible refine' q_box ?_); refine' a_box HS ?_; clear HS; intro b_ w_ HS) | ((with_reducible refine' q_load ?_); refine' a_load HS ?_) | ((with_reducible refine' q_store ?_); refine' a_store HS ?_; clear HS; intro w_ HS) | ((with_reducible refine' st_next_str ?hw HS ?hx ?hp ?hr ?_); (case hw => rfl); (case hx => first | exact eval_lit rfl | rfl); (case hr => repeat (first | exact Rep1.head _ | apply Rep1.tail)); (case hp => exact hlt); intro w_ HS_; clear HS; have HS := HS_; clear HS_) | ((with_reducible refine' st_slice_str (S := 9) (i := p) (j := l.length) ?hw Tryd.underlying9 ?hx ?hij ?_); (case hw => first | rfl | (go_simp; done)); (case hx => first | exact eval_lit rfl | rfl); (case hij => first | exact ⟨rfl, rfl, by omega, by omega⟩ | fail)) | (go_at_call 130; (with_reducible refine (first_any M HG.out (l.drop p) _ HS.imm).mono ?_); rintro e w_ ⟨rfl, hb_⟩; have HS_ := HS.call hb_; clear HS hb_; have HS := HS_; clear HS_) | go_values | go_skip | go_guarded | go_step | go_upon | go_back | (simp only [Int.not_lt, Int.not_le] at *; go_simp) | (go_values <;> (try go_simp)) | (go_ite <;> go_prune <;> (try go_simp)) | (split <;> (first | (rename_i hx; exact (hx _ rfl).elim) | go_prune)))
    ((with_reducible refine' st_yield ?hw ?hx ?hargs ?hd ?hno ?hy ?_); (case hw => first | rfl | (go_simp; done)); (case hx => first | exact eval_lit rfl | rfl); (case hy => exact HY.out pre (p, stp (l.drop p)) _ _ O0 _ W0 _ hp1 hJ HS.movesO HS.grown ⟨rfl, rfl⟩ (Fresh.nil _ _ _)); (case hargs => first | (go_simp; done) | rfl); (case hd => rfl); (case hno => (rintro ⟨_, _, h⟩; first | exact (h : False) | exact (h : (∃ v, Ending.outgrown = Ending.returned v) ∧ _).1.elim (fun v hv => nomatch hv) | exact (h : Ending.outgrown = Ending.returned _ ∧ _).1.elim | exact (h : (Ending.outgrown = Ending.returned _ ∧ _) ∨ (Ending.outgrown = Ending.returned _ ∧ _)).elim (fun h => nomatch h.1) (fun h => nomatch h.1))))
    rintro e W' (⟨rfl, hJ', hK⟩ | ⟨rfl, hJx⟩)
    · have HS_ := HS.again (fun p hp => List.mem_map.2 ⟨p, hp, rfl⟩) hK (HJ.out _ _ _ hJ')
      clear HS; have HS := HS_; clear HS_
      refine ⟨_, rfl, ?_⟩
      go_wp2_with fail
      refine ⟨p + (stp (l.drop p)).w, ⟨?_, ⟨_, _, _, _, _, _, _, _, _, _, _, _, _, _, rfl⟩, pre ++ [(p, stp (l.drop p))], _, _, ?_, hJ', HS⟩, ?_⟩
      · have := HW1.out; omega
      · rw [hpre, steps_cons hl2 p, List.append_assoc, List.drop_drop]; rfl
      · have := HW1.out; have := stp_w (l.drop p); omega
    · refine ⟨_, rfl, ?_⟩
      go_wp2_with fail
      refine bodyPost_ret (results_none rfl _ _ _) rfl ?_
      exact ⟨⟨_, rfl⟩, _, _, Moves.refl _ _, .inr ⟨_, hp1, hJx⟩⟩
  · have hl2 : l.drop p = [] := by simp; omega
    go_wp2_with (first | ((with_reducible refine' q_alloc ?_); refine' a_alloc HS ?_; clear HS; intro b_ w_ HS) | ((with_reducible refine' q_box ?_); refine' a_box HS ?_; clear HS; intro b_ w_ HS) | ((with_reducible refine' q_load ?_); refine' a_load HS ?_) | ((with_reducible refine' q_store ?_); refine' a_store HS ?_; clear HS; intro w_ HS) | ((with_reducible refine' st_next_str_end ?hw HS ?hx ?hp ?hm ?_); (case hw => rfl); (case hx => first | exact eval_lit rfl | rfl); (case hm => ((repeat (first | (with_reducible exact List.mem_cons_self) | apply List.mem_cons_of_mem)); done)); (case hp => exact hlt)))
    go_end0
    refine ⟨⟨_, rfl⟩, _, _, HS.movesO, .inl ?_⟩
    rw [hpre, hl2, steps_nil, List.append_nil]; exact hJ

theorem All_any (M : Mem) (A : Option Addr) (c : Nat) (l : List UInt8) (hb : BS M A c l) (hm : (l.length : Int) ≤ 140737488355328) (w : World) (hi : Imm M w) :
    Calls Tryd.prog 124 #[.slice A l.length c] w fun e w' => ∃ b M', e = .returned (.func (.func 132) #[] #[.pointer (some ⟨b, 0, none⟩)]) ∧ Below w.heap.size w w' ∧ M.le M' ∧ M.fresh M' w.heap.size ∧ Imm M' w' ∧
      M' b = some (.cells [.string (sOf l)].toArray 9 (0, 0)) := by
  (have HS := St.start hi; go_enter Tryd.func124, Tryd.ntmps124)
  go_wp2_with (first | ((with_reducible refine' q_alloc ?_); refine' a_alloc HS ?_; clear HS; intro b_ w_ HS) | ((with_reducible refine' q_box ?_); refine' a_box HS ?_; clear HS; intro b_ w_ HS) | ((with_reducible refine' q_load ?_); refine' a_load HS ?_) | ((with_reducible refine' q_store ?_); refine' a_store HS ?_; clear HS; intro w_ HS) | ((with_reducible refine' st_conv_bs (S := 28) (D := 9) (e := 5) ?hw Tryd.underlying28 Tryd.underlying5 Tryd.underlying9 HS ?hx ?hb ?hn ?_); (case hw => rfl); (case hx => first | exact eval_lit rfl | rfl); (case hb => (first | assumption | (with_reducible refine BS.mono ?_ ?_; assumption; assumption))); (case hn => (first | rfl | omega | (simp; done) | (simp; omega)))))
  go_ret
  have hb2 := HS.base _ (.head _)
  exact ⟨b_, M.add b_ _, rfl, HS.below, Mem.le_add hb2.2, Mem.fresh_add hb2.1, HS.keep.imm, Mem.add_same _ _ _⟩
end Go.Proofs.YtbogoehjoglneaaDoor

/- Plain laws on measures: runes, units and ends of bytes, and how they add up where bytes meet. No Go, no memory. -/
namespace Go.Proofs.YtbogoehjoglneaaDoor
set_option linter.unusedVariables false
set_option linter.unusedSimpArgs false

theorem enc_more {a : List UInt8} (b : List UInt8) (h : 0 < enc a) : enc (a ++ b) = enc a :=
  enc_congr h fun i hi => byt_append_left (Nat.lt_of_lt_of_le hi (enc_len a))
theorem enc_take {l : List UInt8} {p : Nat} (h : enc l ≤ p) : enc (l.take p) = enc l := by
  by_cases h0 : enc l = 0
  · rcases Nat.eq_zero_or_pos (enc (l.take p)) with e | e
    · rw [e, h0]
    · have := enc_more (l.drop p) e
      rw [List.take_append_drop] at this; omega
  · exact enc_congr (by omega) fun i hi => byt_take (by omega)
theorem enc_take_lt {l : List UInt8} {p : Nat} (h : p < enc l) : enc (l.take p) = 0 := by
  rcases Nat.eq_zero_or_pos (enc (l.take p)) with e | e
  · exact e
  · have h1 := enc_more (l.drop p) e
    rw [List.take_append_drop] at h1
    have h2 := enc_len (l.take p)
    simp at h2; omega

theorem val_congr {l l' : List UInt8} (h0 : 0 < enc l) (h : ∀ i, i < enc l → byt l' i = byt l i) : val l' = val l := by
  have he := enc_congr h0 h
  have h4 := enc_le l
  unfold val
  rw [he, h 0 h0]
  have hc : enc l = 1 ∨ enc l = 2 ∨ enc l = 3 ∨ enc l = 4 := by omega
  rcases hc with e | e | e | e
  · unfold valN; rw [if_pos e, if_pos e]
  · rw [h 1 (by omega)]; unfold valN; simp [e]
  · rw [h 1 (by omega), h 2 (by omega)]; unfold valN; simp [e]
  · rw [h 1 (by omega), h 2 (by omega), h 3 (by omega)]

theorem stp_pre {l : List UInt8} {p : Nat} (h : (stp l).w ≤ p) : stp (l.take p) = stp l := by
  have he := enc_take (Nat.le_trans (stp_enc l) h)
  unfold stp
  rw [he]
  split
  · rfl
  · rename_i h0
    have hw : (stp l).w = enc l := by unfold stp; rw [if_neg h0]
    rw [val_congr (l := l) (by omega) fun i hi => byt_take (by omega)]
theorem stp_more {a : List UInt8} (b : List UInt8) (ha : a ≠ []) (h : enc (a ++ b) ≤ a.length) : stp (a ++ b) = stp a := by
  have hl := List.length_pos_iff.2 ha
  have : (stp (a ++ b)).w ≤ a.length := by
    unfold stp; split
    · exact hl
    · exact h
  have := stp_pre this
  rw [List.take_left] at this
  exact this.symm
abbrev bad : Stp := ⟨65533, 1, false⟩
theorem stp_zero {l : List UInt8} (h : enc l = 0) : stp l = bad := by unfold stp; rw [if_pos h]
theorem stp_enc_pos {l : List UInt8} (h : enc l ≠ 0) : stp l = ⟨val l, enc l, true⟩ := by unfold stp; rw [if_neg h]

/- How big a rune is. -/
theorem val_big (l : List UInt8) : (enc l = 1 → val l = byt l 0 ∧ byt l 0 ≤ 127) ∧ (enc l = 2 → 128 ≤ val l ∧ val l ≤ 65535) ∧ (enc l = 3 → 128 ≤ val l ∧ val l ≤ 65535) ∧ (enc l = 4 → 65536 ≤ val l ∧ val l ≤ 1114111) := by
  have hs : encN (byt l 0) (byt l 1) (byt l 2) (byt l 3) = enc l := rfl
  unfold val
  refine ⟨fun e => ?_, fun e => ?_, fun e => ?_, fun e => ?_⟩ <;> rw [e] at hs ⊢
  · exact ⟨rfl, (encN_spec _ _ _ _).1.1 hs⟩
  · have hx : (194 ≤ byt l 0 ∧ byt l 0 ≤ 223) ∧ 128 ≤ byt l 1 ∧ byt l 1 ≤ 191 := by unfold encN at hs; (repeat' split at hs) <;> omega
    show 128 ≤ byt l 0 % 32 * 64 + byt l 1 % 64 ∧ byt l 0 % 32 * 64 + byt l 1 % 64 ≤ 65535
    omega
  · have hx : (128 ≤ byt l 2 ∧ byt l 2 ≤ 191) ∧ ((byt l 0 = 224 ∧ 160 ≤ byt l 1 ∧ byt l 1 ≤ 191) ∨ ((225 ≤ byt l 0 ∧ byt l 0 ≤ 236) ∧ 128 ≤ byt l 1 ∧ byt l 1 ≤ 191) ∨ (byt l 0 = 237 ∧ 128 ≤ byt l 1 ∧ byt l 1 ≤ 159) ∨ ((238 ≤ byt l 0 ∧ byt l 0 ≤ 239) ∧ 128 ≤ byt l 1 ∧ byt l 1 ≤ 191)) := by
      unfold encN at hs; (repeat' split at hs) <;> first | assumption | omega
    show 128 ≤ byt l 0 % 16 * 4096 + byt l 1 % 64 * 64 + byt l 2 % 64 ∧ byt l 0 % 16 * 4096 + byt l 1 % 64 * 64 + byt l 2 % 64 ≤ 65535
    omega
  · have hx : (128 ≤ byt l 2 ∧ byt l 2 ≤ 191) ∧ (128 ≤ byt l 3 ∧ byt l 3 ≤ 191) ∧ ((byt l 0 = 240 ∧ 144 ≤ byt l 1 ∧ byt l 1 ≤ 191) ∨ ((241 ≤ byt l 0 ∧ byt l 0 ≤ 243) ∧ 128 ≤ byt l 1 ∧ byt l 1 ≤ 191) ∨ (byt l 0 = 244 ∧ 128 ≤ byt l 1 ∧ byt l 1 ≤ 143)) := by
      unfold encN at hs; (repeat' split at hs) <;> first | assumption | omega
    show 65536 ≤ byt l 0 % 8 * 262144 + byt l 1 % 64 * 4096 + byt l 2 % 64 * 64 + byt l 3 % 64 ∧ byt l 0 % 8 * 262144 + byt l 1 % 64 * 4096 + byt l 2 % 64 * 64 + byt l 3 % 64 ≤ 1114111
    omega

/- A sum over the steps. -/
def S (f : Stp → Nat) (l : List UInt8) : Nat := if h : l = [] then 0 else f (stp l) + S f (l.drop (stp l).w)
termination_by l.length
decreasing_by
  have := List.length_pos_iff.2 h
  have := (stp_w l).1
  simp; omega
theorem S_nil (f : Stp → Nat) : S f [] = 0 := by rw [S]; simp
theorem S_cons {f : Stp → Nat} {l : List UInt8} (h : l ≠ []) : S f l = f (stp l) + S f (l.drop (stp l).w) := by rw [S]; rw [dif_neg h]

def sumS (f : Stp → Nat) : List (Nat × Stp) → Nat
  | [] => 0
  | x :: t => f x.2 + sumS f t
theorem sumS_append (f : Stp → Nat) (a b : List (Nat × Stp)) : sumS f (a ++ b) = sumS f a + sumS f b := by
  induction a with
  | nil => simp [sumS]
  | cons x t ih => simp only [List.cons_append, sumS, ih]; omega
theorem sumS_steps (f : Stp → Nat) : ∀ (n : Nat) (l : List UInt8) (p : Nat), l.length ≤ n → sumS f (steps l p) = S f l
  | 0, l, p, h => by
    have : l = [] := List.length_eq_zero_iff.1 (by omega)
    subst this; rw [steps_nil, S_nil]; rfl
  | n + 1, l, p, h => by
    by_cases hl : l = []
    · subst hl; rw [steps_nil, S_nil]; rfl
    · rw [steps_cons hl, S_cons hl, sumS, sumS_steps f n]
      have := List.length_pos_iff.2 hl; have := (stp_w l).1
      simp; omega

theorem inside_drop {l : List UInt8} {w p : Nat} (h : inside l (w + p) = 0) : inside (l.drop w) p = 0 := by
  by_cases h' : inside (l.drop w) p = 0
  · exact h'
  · obtain ⟨h1, h2, h3⟩ := inside_pos h'
    generalize inside (l.drop w) p = k at *
    rw [List.drop_drop] at h3
    have := inside_spec (l := l) (p := w + p) (k := k) h1 (by omega) (by rw [show w + p - k = w + (p - k) from by omega]; exact h3)
    omega

/- Within a step there is no edge. -/
theorem step_le {l : List UInt8} {p : Nat} (h : inside l p = 0) (hp : 0 < p) : (stp l).w ≤ p := by
  rcases Nat.lt_or_ge p (stp l).w with hlt | hge
  · exfalso
    by_cases e : enc l = 0
    · rw [stp_zero e] at hlt; simp at hlt; omega
    · rw [stp_enc_pos e] at hlt
      have := inside_spec (l := l) (p := p) (k := p) hp (Nat.le_refl _) (by rw [Nat.sub_self]; exact hlt)
      omega
  · exact hge

/- At an edge a sum falls in two. -/
theorem S_edge (f : Stp → Nat) : ∀ (n : Nat) (l : List UInt8) (p : Nat), l.length ≤ n → p ≤ l.length → inside l p = 0 → S f l = S f (l.take p) + S f (l.drop p)
  | 0, l, p, h, hp, hi => by
    have : l = [] := List.length_eq_zero_iff.1 (by omega)
    subst this; simp [S_nil]
  | n + 1, l, p, h, hp, hi => by
    by_cases h0 : p = 0
    · subst h0; simp [S_nil]
    · have hl : l ≠ [] := fun e => by subst e; simp at hp; omega
      have hw := step_le hi (by omega)
      have hw1 := stp_w l
      have ht : l.take p ≠ [] := fun e => by simp [h0, hl] at e
      rw [S_cons hl, S_cons ht, stp_pre hw, List.drop_take, S_edge f n (l.drop (stp l).w) (p - (stp l).w) (by rw [List.length_drop]; omega) (by rw [List.length_drop]; omega) (inside_drop (by rw [show (stp l).w + (p - (stp l).w) = p from by omega]; exact hi)), List.drop_drop,
        show (stp l).w + (p - (stp l).w) = p from by omega]
      omega

/- Bytes that begin no encoding. -/
theorem S_bad (f : Stp → Nat) : ∀ (m : Nat) (l : List UInt8), m ≤ l.length → (∀ i, i < m → enc (l.drop i) = 0) → S f l = m * f bad + S f (l.drop m)
  | 0, l, _, _ => by simp
  | m + 1, l, hm, h => by
    have hl : l ≠ [] := fun e => by subst e; simp at hm
    have h0 := stp_zero (h 0 (by omega))
    rw [List.drop_zero] at h0
    rw [S_cons hl, h0, S_bad f m (l.drop 1) (by simp; omega) (fun i hi => by rw [List.drop_drop, Nat.add_comm 1 i]; exact h (i + 1) (by omega)), List.drop_drop, Nat.add_comm 1 m, Nat.succ_mul]
    omega

theorem inside_left {a b : List UInt8} {p : Nat} (hp : p ≤ a.length) (h : inside (a ++ b) p = 0) : inside a p = 0 := by
  by_cases h' : inside a p = 0
  · exact h'
  · obtain ⟨h1, h2, h3⟩ := inside_pos h'
    generalize inside a p = k at *
    have h4 := enc_more b (a := a.drop (p - k)) (by omega)
    rw [← List.drop_append_of_le_length (by omega)] at h4
    have := inside_spec (l := a ++ b) (p := p) (k := k) h1 h2 (by omega)
    omega

/- Where two texts meet. -/
theorem S_meet (f : Stp → Nat) (a b : List UInt8) :
    (inside (a ++ b) a.length = 0 → S f (a ++ b) = S f a + S f b) ∧
    (inside (a ++ b) a.length ≠ 0 → S f (a ++ b) + enc ((a ++ b).drop (a.length - inside (a ++ b) a.length)) * f bad = S f a + S f b + f (stp ((a ++ b).drop (a.length - inside (a ++ b) a.length)))) := by
  constructor
  · intro h
    have := S_edge f _ (a ++ b) a.length (Nat.le_refl _) (by simp) h
    rw [List.take_left, List.drop_left] at this
    exact this
  · intro h
    obtain ⟨h1, h2, h3⟩ := inside_pos h
    have hfl := floor_edge (a ++ b) a.length
    unfold floorN at hfl
    generalize inside (a ++ b) a.length = k at *
    have hd : (a ++ b).drop (a.length - k) = a.drop (a.length - k) ++ b := List.drop_append_of_le_length (by omega)
    have e1 := S_edge f _ (a ++ b) (a.length - k) (Nat.le_refl _) (by simp; omega) hfl
    have e2 := S_edge f _ a (a.length - k) (Nat.le_refl _) (by omega) (inside_left (by omega) hfl)
    have ht : (a ++ b).take (a.length - k) = a.take (a.length - k) := List.take_append_of_le_length (by omega)
    rw [ht] at e1
    generalize hE : enc ((a ++ b).drop (a.length - k)) = E at *
    have hlen := enc_len ((a ++ b).drop (a.length - k))
    rw [hE] at hlen
    simp at hlen
    have hne : (a ++ b).drop (a.length - k) ≠ [] := fun e => by rw [e, enc_nil] at hE; omega
    have hw : (stp ((a ++ b).drop (a.length - k))).w = E := by rw [stp_enc_pos (by omega)]; exact hE
    have e3 := S_cons (f := f) hne
    rw [hw, List.drop_drop] at e3
    -- a's last k bytes
    have e4 := S_bad f k (a.drop (a.length - k)) (by simp; omega) (fun i hi => by
      rw [List.drop_drop]
      by_cases hi0 : i = 0
      · subst hi0
        have : a.drop (a.length - k) = ((a ++ b).drop (a.length - k)).take k := by
          rw [hd, List.take_append_of_le_length (by simp; omega), List.take_of_length_le (by simp; omega)]
        rw [Nat.add_zero, this]
        exact enc_take_lt (by omega)
      · have h5 := enc_drop (l := (a ++ b).drop (a.length - k)) (i := i) (by omega) (by omega)
        rw [hd, List.drop_append_of_le_length (by simp; omega), List.drop_drop] at h5
        rcases Nat.eq_zero_or_pos (enc (a.drop (a.length - k + i))) with e | e
        · exact e
        · rw [enc_more b e] at h5; omega)
    rw [List.drop_drop, show a.length - k + k = a.length from by omega, List.drop_length, S_nil] at e4
    -- b's first ones
    have e5 := S_bad f (E - k) b (by omega) (fun i hi => by
      have h5 := enc_drop (l := (a ++ b).drop (a.length - k)) (i := k + i) (by omega) (by omega)
      rw [List.drop_drop, show a.length - k + (k + i) = a.length + i from by omega, List.drop_append] at h5
      rw [List.drop_of_length_le (by omega), List.nil_append, show a.length + i - a.length = i from by omega] at h5
      exact h5)
    have e6 : (a ++ b).drop (a.length - k + E) = b.drop (E - k) := by
      rw [List.drop_append, List.drop_of_length_le (by omega), List.nil_append]
      congr 1; omega
    rw [e6] at e3
    have : E * f bad = k * f bad + (E - k) * f bad := by rw [← Nat.add_mul]; congr 1; omega
    omega

def uOf (r : Nat) : Nat := if 65535 < r then 2 else 1
def runesN (l : List UInt8) : Nat := S (fun _ => 1) l
def unitsN (l : List UInt8) : Nat := S (fun s => uOf s.r) l
/- Line ends; c: does a 13 stand ahead? -/
def endsN : Bool → List UInt8 → Nat
  | _, [] => 0
  | c, x :: t => (if x = 13 ∨ (x = 10 ∧ c = false) then 1 else 0) + endsN (x == 13) t
def endS : Nat → List (Nat × Stp) → Nat
  | _, [] => 0
  | c, x :: t => (if x.2.r = 13 ∨ (x.2.r = 10 ∧ c ≠ 13) then 1 else 0) + endS x.2.r t

theorem byt_cons (x : UInt8) (t : List UInt8) : byt (x :: t) 0 = x.toNat := rfl
theorem byt_succ (x : UInt8) (t : List UInt8) (i : Nat) : byt (x :: t) (i + 1) = byt t i := rfl
theorem endsN_high : ∀ (m : Nat) (c : Bool) (l : List UInt8), 0 < m → m ≤ l.length → (∀ i, i < m → 128 ≤ byt l i) → endsN c l = endsN false (l.drop m)
  | 0, _, _, h, _, _ => by omega
  | m + 1, c, [], _, h, _ => by simp at h
  | m + 1, c, x :: t, _, hm, h => by
    have h0 := h 0 (by omega)
    rw [byt_cons] at h0
    have hx : ¬ (x = 13 ∨ (x = 10 ∧ c = false)) := by rintro (e | ⟨e, _⟩) <;> subst e <;> simp at h0
    have hx2 : (x == 13) = false := by
      have : x ≠ 13 := fun e => by subst e; simp at h0
      simpa using this
    rw [endsN, if_neg hx, hx2, Nat.zero_add]
    by_cases hm0 : m = 0
    · subst hm0; rfl
    · rw [endsN_high m false t (by omega) (by simpa using hm) (fun i hi => by have := h (i + 1) (by omega); rwa [byt_succ] at this)]
      rfl

theorem endS_steps : ∀ (n : Nat) (l : List UInt8) (p c : Nat), l.length ≤ n → endS c (steps l p) = endsN (decide (c = 13)) l
  | 0, l, p, c, h => by
    have : l = [] := List.length_eq_zero_iff.1 (by omega)
    subst this; rw [steps_nil]; rfl
  | n + 1, [], p, c, h => by rw [steps_nil]; rfl
  | n + 1, x :: t, p, c, h => by
    have hl : x :: t ≠ [] := by simp
    have hw := stp_w (x :: t)
    rw [steps_cons hl, endS, endS_steps n _ _ _ (by simp only [List.length_drop, List.length_cons] at h ⊢; omega)]
    have hv := val_big (x :: t)
    have h4 := enc_le (x :: t)
    have hxl := UInt8.toNat_lt x
    rcases (show enc (x :: t) = 0 ∨ enc (x :: t) = 1 ∨ 2 ≤ enc (x :: t) from by omega) with e | e | e
    · have hx : 128 ≤ byt (x :: t) 0 := by
        rcases Nat.lt_or_ge (byt (x :: t) 0) 128 with h' | h'
        · have := (encN_spec (byt (x :: t) 0) (byt (x :: t) 1) (byt (x :: t) 2) (byt (x :: t) 3)).1.2 (by omega)
          have e' : enc (x :: t) = 1 := this
          omega
        · exact h'
      rw [stp_zero e]
      rw [endsN_high 1 _ (x :: t) (by omega) (by simp) (fun i hi => by have : i = 0 := by omega
                                                                       subst this; exact hx)]
      simp
    · have hv1 := hv.1 e
      rw [byt_cons] at hv1
      rw [stp_enc_pos (by omega), e, hv1.1, endsN]
      have h13 : (x = 13) = (x.toNat = 13) := by rw [← UInt8.toNat_inj]; rfl
      have h10 : (x = 10) = (x.toNat = 10) := by rw [← UInt8.toNat_inj]; rfl
      have hb : (x == 13) = decide (x.toNat = 13) := by
        rw [Bool.eq_iff_iff]; simp [h13]
      rw [hb]
      simp only [List.drop_succ_cons, List.drop_zero, h13, h10, decide_eq_false_iff_not, ne_eq]
    · have hbig : 128 ≤ val (x :: t) := by
        rcases (show enc (x :: t) = 2 ∨ enc (x :: t) = 3 ∨ enc (x :: t) = 4 from by omega) with e' | e' | e'
        · exact (hv.2.1 e').1
        · exact (hv.2.2.1 e').1
        · have := (hv.2.2.2 e').1; omega
      rw [stp_enc_pos (by omega)]
      rw [endsN_high (enc (x :: t)) _ (x :: t) (by omega) (enc_len _) (fun i hi => by
        by_cases hi0 : i = 0
        · subst hi0
          have := (encN_spec (byt (x :: t) 0) (byt (x :: t) 1) (byt (x :: t) 2) (byt (x :: t) 3)).2.1 e
          omega
        · exact (enc_tail (by omega) hi).1)]
      have n1 : ¬ (val (x :: t) = 13 ∨ (val (x :: t) = 10 ∧ c ≠ 13)) := by omega
      have n2 : decide (val (x :: t) = 13) = false := by simp; omega
      simp only [n1, n2, if_false, Nat.zero_add]

theorem endsN_append : ∀ (a b : List UInt8) (c : Bool), endsN c (a ++ b) = endsN c a + endsN (if a = [] then c else a.getLast? == some 13) b
  | [], b, c => by simp [endsN]
  | [x], b, c => by simp [endsN]
  | x :: y :: a, b, c => by
    have e0 := endsN_append (y :: a) b (x == 13)
    have e1 : endsN c (x :: y :: a) = (if x = 13 ∨ (x = 10 ∧ c = false) then 1 else 0) + endsN (x == 13) (y :: a) := rfl
    have e2 : endsN c ((x :: y :: a) ++ b) = (if x = 13 ∨ (x = 10 ∧ c = false) then 1 else 0) + endsN (x == 13) ((y :: a) ++ b) := rfl
    rw [e1, e2, e0]
    simp only [reduceCtorEq, if_false, List.getLast?_cons_cons]
    omega
theorem endsN_true (b : List UInt8) : endsN true b + (if b.head? = some 10 then 1 else 0) = endsN false b := by
  cases b with
  | nil => rfl
  | cons x t =>
    simp only [endsN, List.head?_cons, Option.some.injEq]
    by_cases h : x = 10
    · subst h; simp; omega
    · simp [h]
theorem ends_meet (a b : List UInt8) : endsN false (a ++ b) + (if a.getLast? = some 13 ∧ b.head? = some 10 then 1 else 0) = endsN false a + endsN false b := by
  rw [endsN_append]
  have h := endsN_true b
  by_cases ha : a = []
  · subst ha; simp
  · rw [if_neg ha]
    by_cases h1 : a.getLast? = some 13
    · simp only [h1, beq_self_eq_true, true_and]
      omega
    · have : (a.getLast? == some 13) = false := by simpa using h1
      simp only [this, h1, false_and, if_false]; omega

/- What a measure keeps to. -/
theorem S_mono {f g : Stp → Nat} (hfg : ∀ l, l ≠ [] → f (stp l) ≤ g (stp l)) : ∀ (n : Nat) (l : List UInt8), l.length ≤ n → S f l ≤ S g l
  | 0, l, h => by
    have : l = [] := List.length_eq_zero_iff.1 (by omega)
    subst this; simp [S_nil]
  | n + 1, l, h => by
    by_cases hl : l = []
    · subst hl; simp [S_nil]
    · rw [S_cons hl, S_cons hl]
      have := S_mono hfg n (l.drop (stp l).w) (by have := List.length_pos_iff.2 hl; have := (stp_w l).1; simp; omega)
      have := hfg l hl; omega
theorem S_add (f g : Stp → Nat) : ∀ (n : Nat) (l : List UInt8), l.length ≤ n → S (fun s => f s + g s) l = S f l + S g l
  | 0, l, h => by
    have : l = [] := List.length_eq_zero_iff.1 (by omega)
    subst this; simp [S_nil]
  | n + 1, l, h => by
    by_cases hl : l = []
    · subst hl; simp [S_nil]
    · rw [S_cons hl, S_cons hl, S_cons hl, S_add f g n (l.drop (stp l).w) (by have := List.length_pos_iff.2 hl; have := (stp_w l).1; simp; omega)]
      omega
theorem S_width : ∀ (n : Nat) (l : List UInt8), l.length ≤ n → S (fun s => s.w) l = l.length
  | 0, l, h => by
    have : l = [] := List.length_eq_zero_iff.1 (by omega)
    subst this; simp [S_nil]
  | n + 1, l, h => by
    by_cases hl : l = []
    · subst hl; simp [S_nil]
    · rw [S_cons hl, S_width n (l.drop (stp l).w) (by have := List.length_pos_iff.2 hl; have := (stp_w l).1; simp; omega)]
      have := stp_len hl
      simp; omega
theorem ends_le : ∀ (n : Nat) (l : List UInt8) (p c : Nat), l.length ≤ n → endS c (steps l p) ≤ S (fun _ => 1) l
  | 0, l, p, c, h => by
    have : l = [] := List.length_eq_zero_iff.1 (by omega)
    subst this; simp [S_nil, steps_nil, endS]
  | n + 1, l, p, c, h => by
    by_cases hl : l = []
    · subst hl; simp [S_nil, steps_nil, endS]
    · rw [S_cons hl, steps_cons hl, endS]
      have := ends_le n (l.drop (stp l).w) (p + (stp l).w) (stp l).r (by have := List.length_pos_iff.2 hl; have := (stp_w l).1; simp; omega)
      simp only at this ⊢
      split <;> omega

/- fours: the steps of four bytes. -/
theorem measure_ok (l : List UInt8) : runesN l ≤ unitsN l ∧ unitsN l ≤ l.length ∧ endsN false l ≤ runesN l ∧ unitsN l ≤ 2 * runesN l ∧
    runesN l - (unitsN l - runesN l) ≤ l.length - 4 * (unitsN l - runesN l) ∧ 4 * (unitsN l - runesN l) ≤ l.length ∧ l.length - 4 * (unitsN l - runesN l) ≤ 3 * (runesN l - (unitsN l - runesN l)) := by
  have key : ∀ l, (stp l).w ≤ 4 ∧ 1 ≤ (stp l).w ∧ (uOf (stp l).r = 2 ↔ (stp l).w = 4) ∧ 1 ≤ uOf (stp l).r ∧ uOf (stp l).r ≤ 2 := fun l => by
    have hw := stp_w l
    have hv := val_big l
    have h4 := enc_le l
    have hu : 1 ≤ uOf (stp l).r ∧ uOf (stp l).r ≤ 2 := by unfold uOf; split <;> omega
    refine ⟨hw.2, hw.1, ?_, hu.1, hu.2⟩
    by_cases e : enc l = 0
    · rw [stp_zero e]; simp [uOf]
    · rw [stp_enc_pos e]
      simp only [uOf]
      split <;> omega
  -- the sum of the fours and of the others
  have hF := S_add (fun _ => 1) (fun s => uOf s.r - 1) _ l (Nat.le_refl _)
  have hU : S (fun s => 1 + (uOf s.r - 1)) l = unitsN l := by
    refine Nat.le_antisymm (S_mono (fun l _ => ?_) _ l (Nat.le_refl _)) (S_mono (fun l _ => ?_) _ l (Nat.le_refl _)) <;> (have := key l; (try simp only []); omega)
  have hW := S_width _ l (Nat.le_refl _)
  -- others: w ≤ 3
  have hO := S_add (fun s => 4 * (uOf s.r - 1)) (fun s => s.w - 4 * (uOf s.r - 1)) _ l (Nat.le_refl _)
  have hO' : S (fun s => 4 * (uOf s.r - 1) + (s.w - 4 * (uOf s.r - 1))) l = S (fun s => s.w) l := by
    refine Nat.le_antisymm (S_mono (fun l _ => ?_) _ l (Nat.le_refl _)) (S_mono (fun l _ => ?_) _ l (Nat.le_refl _)) <;> (have := key l; (try simp only []); omega)
  have h4S : ∀ (n : Nat) (l : List UInt8), l.length ≤ n → S (fun s => 4 * (uOf s.r - 1)) l = 4 * S (fun s => uOf s.r - 1) l := by
    intro n
    induction n with
    | zero => intro l h; have : l = [] := List.length_eq_zero_iff.1 (by omega)
              subst this; simp [S_nil]
    | succ n ih =>
      intro l h
      by_cases hl : l = []
      · subst hl; simp [S_nil]
      · rw [S_cons hl, S_cons hl, ih (l.drop (stp l).w) (by have := List.length_pos_iff.2 hl; have := (stp_w l).1; simp; omega)]
        omega
  have h3S : ∀ (n : Nat) (l : List UInt8), l.length ≤ n → S (fun s => s.w - 4 * (uOf s.r - 1)) l ≤ 3 * S (fun s => 1 - (uOf s.r - 1)) l := by
    intro n
    induction n with
    | zero => intro l h; have : l = [] := List.length_eq_zero_iff.1 (by omega)
              subst this; simp [S_nil]
    | succ n ih =>
      intro l h
      by_cases hl : l = []
      · subst hl; simp [S_nil]
      · rw [S_cons hl, S_cons hl]
        have := ih (l.drop (stp l).w) (by have := List.length_pos_iff.2 hl; have := (stp_w l).1; simp; omega)
        have := key l; omega
  have hR := S_add (fun s => uOf s.r - 1) (fun s => 1 - (uOf s.r - 1)) _ l (Nat.le_refl _)
  have hR' : S (fun s => (uOf s.r - 1) + (1 - (uOf s.r - 1))) l = S (fun _ => 1) l := by
    refine Nat.le_antisymm (S_mono (fun l _ => ?_) _ l (Nat.le_refl _)) (S_mono (fun l _ => ?_) _ l (Nat.le_refl _)) <;> (have := key l; (try simp only []); omega)
  have hlo := S_mono (f := fun s => 1 - (uOf s.r - 1)) (g := fun s => s.w - 4 * (uOf s.r - 1)) (fun l _ => by have := key l; (try simp only []); omega) _ l (Nat.le_refl _)
  have hE := ends_le _ l 0 0 (Nat.le_refl _)
  rw [endS_steps _ l 0 0 (Nat.le_refl _)] at hE
  have h4 := h4S _ l (Nat.le_refl _)
  have h3 := h3S _ l (Nat.le_refl _)
  have hE' : endsN false l ≤ runesN l := hE
  have r1 : runesN l = S (fun _ => 1) l := rfl
  have u1 := hU
  have ho := hO'
  (try simp only at hF hO hR)
  omega
end Go.Proofs.YtbogoehjoglneaaDoor
