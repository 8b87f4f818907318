/- weld.Sizes, weld.Of: the measure of bytes. -/
import Derived.Test.YtbogoehjoglneaaDoorM2
set_option linter.unusedVariables false
set_option linter.unusedSimpArgs false
set_option linter.unnecessarySimpa false
set_option linter.unusedSectionVars false
namespace Go.Proofs.YtbogoehjoglneaaDoor
open Go.RowKit
set_option linter.unusedVariables false
set_option linter.unusedSimpArgs false
set_option maxRecDepth 100000
attribute [local go_sem] byt_drop byt_tail Int.toNat_natCast sOf_size

abbrev szV (l : List UInt8) : Value := .agg #[.int .i64 l.length, .int .i64 (runesN l), .int .i64 (unitsN l), .int .i64 (endsN false l)]

def lastR : Nat → List (Nat × Stp) → Nat
  | c, [] => c
  | _, x :: t => lastR x.2.r t
theorem lastR_snoc : ∀ (c : Nat) (pre : List (Nat × Stp)) (x : Nat × Stp), lastR c (pre ++ [x]) = x.2.r
  | _, [], _ => rfl
  | _, y :: t, x => lastR_snoc y.2.r t x
theorem endS_snoc : ∀ (c : Nat) (pre : List (Nat × Stp)) (x : Nat × Stp), endS c (pre ++ [x]) = endS c pre + (if x.2.r = 13 ∨ (x.2.r = 10 ∧ lastR c pre ≠ 13) then 1 else 0)
  | c, [], x => (Nat.add_zero _).trans (Nat.zero_add _).symm
  | _, y :: t, x => by rw [List.cons_append, endS, endS_snoc y.2.r t x, endS, lastR]; omega
theorem sumS_len (pre : List (Nat × Stp)) : sumS (fun _ => 1) pre = pre.length := by
  induction pre with
  | nil => rfl
  | cons x t ih => simp only [sumS, ih, List.length_cons]; omega
theorem endS_le : ∀ (c : Nat) (pre : List (Nat × Stp)), endS c pre ≤ pre.length
  | _, [] => by simp [endS]
  | _, x :: t => by
    have := endS_le x.2.r t
    simp only [endS, List.length_cons]; split <;> omega
theorem units_le (pre : List (Nat × Stp)) : sumS (fun s => uOf s.r) pre ≤ 2 * pre.length := by
  induction pre with
  | nil => simp [sumS]
  | cons x t ih =>
    simp only [sumS, List.length_cons]
    have : uOf x.2.r ≤ 2 := by unfold uOf; split <;> omega
    omega
theorem steps_len (l : List UInt8) : (steps l 0).length ≤ l.length := by
  have h1 := sumS_len (steps l 0)
  rw [sumS_steps _ _ l 0 (Nat.le_refl _)] at h1
  have h2 := measure_ok l
  unfold runesN at h2
  omega

theorem stp_rune {l : List UInt8} {pre : List (Nat × Stp)} {x : Nat × Stp} (h : pre ++ [x] <+: steps l 0) : x.2.r ≤ 1114111 := by
  have key : ∀ (n : Nat) (l : List UInt8) (p : Nat), l.length ≤ n → ∀ y ∈ steps l p, y.2.r ≤ 1114111 := by
    intro n
    induction n with
    | zero => intro l p h y hy; have : l = [] := List.length_eq_zero_iff.1 (by omega)
              subst this; rw [steps_nil] at hy; cases hy
    | succ n ih =>
      intro l p h y hy
      by_cases hl : l = []
      · subst hl; rw [steps_nil] at hy; cases hy
      · rw [steps_cons hl] at hy
        rcases List.mem_cons.1 hy with rfl | hy
        · have hv := val_big l
          have h4 := enc_le l
          show (stp l).r ≤ _
          by_cases e : enc l = 0
          · rw [stp_zero e]; decide
          · rw [stp_enc_pos e]; show val l ≤ _; omega
        · exact ih _ _ (by have := List.length_pos_iff.2 hl; have := (stp_w l).1; simp; omega) y hy
  exact key _ l 0 (Nat.le_refl _) x (h.subset (by simp))

theorem units_any (r : Nat) (hr : r ≤ 1114111) (w : World) :
    Calls Tryd.prog 125 #[.int .i32 r] w fun e w' => e = .returned (.int .i64 (uOf r)) ∧ w' = w := by
  by_cases h : (65535 : Int) < r
  · go_enter Tryd.func125, Tryd.ntmps125
    go_wp2_with fail
    go_ret
    exact ⟨by unfold uOf; rw [if_pos (by omega)]; rfl, rfl⟩
  · go_enter Tryd.func125, Tryd.ntmps125
    go_wp2_with fail
    go_ret
    exact ⟨by unfold uOf; rw [if_neg (by omega)]; rfl, rfl⟩

theorem Sizes_any (M : Mem) (hG : Gl M) (A : Option Addr) (c : Nat) (l : List UInt8) (hb : BS M A c l) (hm : (l.length : Int) ≤ 268435456) (w : World) (hi : Imm M w) :
    Calls Tryd.prog 103 #[.slice A l.length c] w fun e w' => e = .returned (szV l) ∧ Below w.heap.size w w' := by
  have HG := Lib.hid hG; clear hG
  (have HS := St.start hi; refine calls_of_marks Tryd.func103 rfl ?_; simp only [Tryd.ntmps103, List.size_toArray, List.length_cons, List.length_nil, Nat.reduceAdd, Nat.reduceSub, Array.replicate_succ, Array.replicate_zero, List.push_toArray, List.append_toArray, List.nil_append, List.cons_append])
  go_wp2_with (first | ((with_reducible refine' q_alloc ?_); refine' a_alloc HS ?_; clear HS; intro b_ w_ HS) | ((with_reducible refine' q_box ?_); refine' a_box HS ?_; clear HS; intro b_ w_ HS) | ((with_reducible refine' q_load ?_); refine' a_load HS ?_) | ((with_reducible refine' q_store ?_); refine' a_store HS ?_; clear HS; intro w_ HS) | (go_at_call 124; (with_reducible refine (All_any M A c l hb (by omega) _ HS.imm).mono ?_); rintro e w_ ⟨bA, MA, rfl, hb_, hle, hfr, hiA, hbA⟩; have HS_ := HS.callM hb_ hfr hiA; clear HS hb_ hfr hiA; have HS := HS_; clear HS_))
  have hll := steps_len l
  have HLL := Lib.hid hll; clear hll
  refine' wp_rangeC HS rfl (enters_of Tryd.func132 (by kernel_rfl) rfl) (All1_seq MA (HG.out.mono hle) bA l _ _ hbA (by omega)) ?hps
    (fun pre L => L = [(_, .cells [.int .i32 (lastR 0 pre)].toArray 21 (0, 0)), (_, .cells [.int .i64 l.length, .int .i64 (sumS (fun _ => 1) pre), .int .i64 (sumS (fun s => uOf s.r) pre), .int .i64 (endS 0 pre)].toArray 85 (0, 0)),
      (_, .cells [.int .i64 0, .int .i64 0, .int .i64 0, .int .i64 0].toArray 85 (0, 0))]) (fun _ _ _ => False) ?h0 ?hround ?hdone ?hstop
  case h0 => rfl
  case hps => rintro _ _ _ _ ⟨rfl, rfl⟩; rfl
  case hstop => intro _ _ _ _ _ _ _ h; exact h.elim
  case hround =>
    clear HS
    intro lp D o1 o2 pre x vs Fr L' M1 W K hpre hΦ hV hle1 HS hK
    obtain ⟨rfl, rfl⟩ := hV
    subst hΦ
    rw [List.nil_append] at HS
    simp only [List.zip_toArray, List.foldl_toArray, List.zip_cons_cons, List.zip_nil_right, List.foldl_cons, List.foldl_nil, List.setIfInBounds_toArray, List.set_cons_succ, List.set_cons_zero, List.size_toArray, List.length_cons, List.length_nil, List.foldl_toArray']
    repeat' (first | ((with_reducible refine' q_alloc ?_); refine' a_alloc HS ?_; clear HS; intro b_ w_ HS) | ((with_reducible refine' q_box ?_); refine' a_box HS ?_; clear HS; intro b_ w_ HS) | ((with_reducible refine' q_load ?_); refine' a_load HS ?_) | ((with_reducible refine' q_store ?_); refine' a_store HS ?_; clear HS; intro w_ HS) | ((with_reducible refine' wpIn_region_plain ?hd ?hno ?_); (case hd => rfl); (case hno => (rintro ⟨_, _, h⟩; first | exact (h : False) | exact (h : (∃ v, Ending.outgrown = Ending.returned v) ∧ _).1.elim (fun v hv => nomatch hv) | exact (h : Ending.outgrown = Ending.returned _ ∧ _).1.elim | exact (h : (Ending.outgrown = Ending.returned _ ∧ _) ∨ (Ending.outgrown = Ending.returned _ ∧ _)).elim (fun h => nomatch h.1) (fun h => nomatch h.1)))) | go_values | go_skip | go_guarded | go_step | go_upon | gi_step | (simp only [Int.not_lt, Int.not_le] at *; go_simp) | (go_values <;> (try go_simp)) | (go_ite <;> go_prune <;> (try go_simp)) | (split <;> (first | (rename_i hx; exact (hx _ rfl).elim) | go_prune)))
    refine hK _ _ _ _ (Mem.le_refl _) HS.sink ?_
    clear hK HS
    intro o3 W2 HS
    have hlen := hpre.length_le
    have hHL := HLL.out
    have hen := endS_le 0 pre
    have hun := units_le pre
    have h1 := sumS_len pre
    simp at hlen
    have hr := stp_rune hpre
    have b1 : (sumS (fun _ => 1) pre : Int) ≤ 268435456 := by omega
    have b2 : (sumS (fun s => uOf s.r) pre : Int) ≤ 536870912 := by omega
    have b3 : (endS 0 pre : Int) ≤ 268435456 := by omega
    clear h1 hlen hHL hen hun
    have HR := Lib.hid hr; clear hr
    have hu2 : uOf x.2.r ≤ 2 := by unfold uOf; split <;> omega
    repeat' (first | ((with_reducible refine' q_alloc ?_); refine' a_alloc HS ?_; clear HS; intro b_ w_ HS) | ((with_reducible refine' q_box ?_); refine' a_box HS ?_; clear HS; intro b_ w_ HS) | ((with_reducible refine' q_load ?_); refine' a_load HS ?_) | ((with_reducible refine' q_store ?_); refine' a_store HS ?_; clear HS; intro w_ HS) | ((with_reducible refine' wpIn_region_plain ?hd ?hno ?_); (case hd => rfl); (case hno => (rintro ⟨_, _, h⟩; first | exact (h : False) | exact (h : (∃ v, Ending.outgrown = Ending.returned v) ∧ _).1.elim (fun v hv => nomatch hv) | exact (h : Ending.outgrown = Ending.returned _ ∧ _).1.elim | exact (h : (Ending.outgrown = Ending.returned _ ∧ _) ∨ (Ending.outgrown = Ending.returned _ ∧ _)).elim (fun h => nomatch h.1) (fun h => nomatch h.1)))) | go_values | go_skip | go_guarded | go_step | go_upon | gi_step | (simp only [Int.not_lt, Int.not_le] at *; go_simp) | (go_values <;> (try go_simp)) | (go_ite <;> go_prune <;> (try go_simp)) | (split <;> (first | (rename_i hx; exact (hx _ rfl).elim) | go_prune)))
    refine wpIn_region_plan [7] [(true, 0), (true, 1), (true, 2), (true, 3), (false, 4), (true, 5), (true, 6), (false, 7)] (fun W_ => St _ _ W_ _ _) (by (rintro ⟨_, _, h⟩; first | exact (h : False) | exact (h : (∃ v, Ending.outgrown = Ending.returned v) ∧ _).1.elim (fun v hv => nomatch hv) | exact (h : Ending.outgrown = Ending.returned _ ∧ _).1.elim | exact (h : (Ending.outgrown = Ending.returned _ ∧ _) ∨ (Ending.outgrown = Ending.returned _ ∧ _)).elim (fun h => nomatch h.1) (fun h => nomatch h.1))) (by kernel_rfl) (by kernel_rfl) (by kernel_rfl) rfl (by kernel_rfl) (HS).drew ?_
    have HS_ := HS.drew; clear HS; have HS := HS_; clear HS_
    refine' a_dSoft rfl ?_
    (try simp only [Act.put, List.setIfInBounds_toArray, List.set_cons_zero, List.set_cons_succ])
    (first | refine' a_dLoad rfl (fun w_ hw_ => hw_) ?_ | refine' a_dLoadC rfl (fun w_ hw_ => hw_) ?_)
    (try simp only [Act.put, List.setIfInBounds_toArray, List.set_cons_zero, List.set_cons_succ])
    refine' a_dSoft rfl ?_
    (try simp only [Act.put, List.setIfInBounds_toArray, List.set_cons_zero, List.set_cons_succ])
    (first | refine' a_dLoad rfl (fun w_ hw_ => hw_) ?_ | refine' a_dLoadC rfl (fun w_ hw_ => hw_) ?_)
    (try simp only [Act.put, List.setIfInBounds_toArray, List.set_cons_zero, List.set_cons_succ])
    refine dHard rfl ?_
    refine' st_call ?hw Tryd.func125 (by kernel_rfl) rfl ?hargs (units_any _ HR.out _) ?_
    case hw => rfl
    case hargs => first | rfl | (go_simp; done)
    rintro e w_ ⟨rfl, rfl⟩
    refine ⟨_, rfl, ?_⟩
    refine lexD_done (fun _ => HS) ?_
    (try simp only [Act.put, List.setIfInBounds_toArray, List.set_cons_zero, List.set_cons_succ])
    (refine' dAdd Tryd.underlying3 rfl ?hw ?hx ?hy ?hb ?_; (case hw => first | rfl | go_simp); (case hx => first | exact eval_lit rfl | rfl); (case hy => rfl); (case hb => first | omega | (simp; omega)))
    (try simp only [Act.put, List.setIfInBounds_toArray, List.set_cons_zero, List.set_cons_succ])
    refine' a_dSoft rfl ?_
    (try simp only [Act.put, List.setIfInBounds_toArray, List.set_cons_zero, List.set_cons_succ])
    refine dHard rfl ?_
    ((with_reducible refine' q_store ?_); refine' a_store HS ?_; clear HS; intro w_ HS)
    refine lexD_done (fun h => absurd h (by decide)) ?_
    (try simp only [Act.put, List.setIfInBounds_toArray, List.set_cons_zero, List.set_cons_succ])
    refine lexD_end ?_
    have E1 : ((sumS (fun _ => 1) (pre ++ [x]) : Nat) : Int) = sumS (fun _ => 1) pre + 1 := by rw [sumS_append]; simp [sumS]
    have E2 : ((sumS (fun s => uOf s.r) (pre ++ [x]) : Nat) : Int) = sumS (fun s => uOf s.r) pre + uOf x.2.r := by rw [sumS_append]; simp [sumS]
    have E1 := Lib.hid E1
    have E2 := Lib.hid E2
    rcases Classical.em (x.2.r = 13) with e1 | e1
    · have t1 : ((x.2.r : Int) == 13) = true := by simp; omega
      have E3 : ((endS 0 (pre ++ [x]) : Nat) : Int) = endS 0 pre + 1 := by rw [endS_snoc, if_pos (.inl e1)]; simp
      have E3 := Lib.hid E3
      clear e1
      repeat' (first | ((with_reducible refine' q_alloc ?_); refine' a_alloc HS ?_; clear HS; intro b_ w_ HS) | ((with_reducible refine' q_box ?_); refine' a_box HS ?_; clear HS; intro b_ w_ HS) | ((with_reducible refine' q_load ?_); refine' a_load HS ?_) | ((with_reducible refine' q_store ?_); refine' a_store HS ?_; clear HS; intro w_ HS) | ((with_reducible refine' wpIn_region_plain ?hd ?hno ?_); (case hd => rfl); (case hno => (rintro ⟨_, _, h⟩; first | exact (h : False) | exact (h : (∃ v, Ending.outgrown = Ending.returned v) ∧ _).1.elim (fun v hv => nomatch hv) | exact (h : Ending.outgrown = Ending.returned _ ∧ _).1.elim | exact (h : (Ending.outgrown = Ending.returned _ ∧ _) ∨ (Ending.outgrown = Ending.returned _ ∧ _)).elim (fun h => nomatch h.1) (fun h => nomatch h.1)))) | go_values | go_skip | go_guarded | go_step | go_upon | gi_step | (simp only [Int.not_lt, Int.not_le] at *; go_simp) | (go_values <;> (try go_simp)) | (go_ite <;> go_prune <;> (try go_simp)) | (split <;> (first | (rename_i hx; exact (hx _ rfl).elim) | go_prune)))
      refine ⟨_, _, Mem.le_refl _, HS.drop3, ?_⟩
      (simp only [lastR_snoc, E1.out, E2.out, E3.out]; rfl)
    · have t1 : ((x.2.r : Int) == 13) = false := by simp; omega
      rcases Classical.em (x.2.r = 10) with e2 | e2
      · have t2 : ((x.2.r : Int) == 10) = true := by simp; omega
        rcases Classical.em (lastR 0 pre = 13) with e3 | e3
        · have t3 : ((lastR 0 pre : Int) != 13) = false := by simp; omega
          have E3 : ((endS 0 (pre ++ [x]) : Nat) : Int) = endS 0 pre := by rw [endS_snoc, if_neg (by omega)]; simp
          have E3 := Lib.hid E3
          clear e1 e2 e3
          repeat' (first | ((with_reducible refine' q_alloc ?_); refine' a_alloc HS ?_; clear HS; intro b_ w_ HS) | ((with_reducible refine' q_box ?_); refine' a_box HS ?_; clear HS; intro b_ w_ HS) | ((with_reducible refine' q_load ?_); refine' a_load HS ?_) | ((with_reducible refine' q_store ?_); refine' a_store HS ?_; clear HS; intro w_ HS) | ((with_reducible refine' wpIn_region_plain ?hd ?hno ?_); (case hd => rfl); (case hno => (rintro ⟨_, _, h⟩; first | exact (h : False) | exact (h : (∃ v, Ending.outgrown = Ending.returned v) ∧ _).1.elim (fun v hv => nomatch hv) | exact (h : Ending.outgrown = Ending.returned _ ∧ _).1.elim | exact (h : (Ending.outgrown = Ending.returned _ ∧ _) ∨ (Ending.outgrown = Ending.returned _ ∧ _)).elim (fun h => nomatch h.1) (fun h => nomatch h.1)))) | go_values | go_skip | go_guarded | go_step | go_upon | gi_step | (simp only [Int.not_lt, Int.not_le] at *; go_simp) | (go_values <;> (try go_simp)) | (go_ite <;> go_prune <;> (try go_simp)) | (split <;> (first | (rename_i hx; exact (hx _ rfl).elim) | go_prune)))
          refine ⟨_, _, Mem.le_refl _, HS.drop3, ?_⟩
          (simp only [lastR_snoc, E1.out, E2.out, E3.out]; rfl)
        · have t3 : ((lastR 0 pre : Int) != 13) = true := by simp; omega
          have E3 : ((endS 0 (pre ++ [x]) : Nat) : Int) = endS 0 pre + 1 := by rw [endS_snoc, if_pos (.inr ⟨e2, e3⟩)]; simp
          have E3 := Lib.hid E3
          clear e1 e2 e3
          repeat' (first | ((with_reducible refine' q_alloc ?_); refine' a_alloc HS ?_; clear HS; intro b_ w_ HS) | ((with_reducible refine' q_box ?_); refine' a_box HS ?_; clear HS; intro b_ w_ HS) | ((with_reducible refine' q_load ?_); refine' a_load HS ?_) | ((with_reducible refine' q_store ?_); refine' a_store HS ?_; clear HS; intro w_ HS) | ((with_reducible refine' wpIn_region_plain ?hd ?hno ?_); (case hd => rfl); (case hno => (rintro ⟨_, _, h⟩; first | exact (h : False) | exact (h : (∃ v, Ending.outgrown = Ending.returned v) ∧ _).1.elim (fun v hv => nomatch hv) | exact (h : Ending.outgrown = Ending.returned _ ∧ _).1.elim | exact (h : (Ending.outgrown = Ending.returned _ ∧ _) ∨ (Ending.outgrown = Ending.returned _ ∧ _)).elim (fun h => nomatch h.1) (fun h => nomatch h.1)))) | go_values | go_skip | go_guarded | go_step | go_upon | gi_step | (simp only [Int.not_lt, Int.not_le] at *; go_simp) | (go_values <;> (try go_simp)) | (go_ite <;> go_prune <;> (try go_simp)) | (split <;> (first | (rename_i hx; exact (hx _ rfl).elim) | go_prune)))
          refine ⟨_, _, Mem.le_refl _, HS.drop3, ?_⟩
          (simp only [lastR_snoc, E1.out, E2.out, E3.out]; rfl)
      · have t2 : ((x.2.r : Int) == 10) = false := by simp; omega
        have E3 : ((endS 0 (pre ++ [x]) : Nat) : Int) = endS 0 pre := by rw [endS_snoc, if_neg (by omega)]; simp
        have E3 := Lib.hid E3
        clear e1 e2
        repeat' (first | ((with_reducible refine' q_alloc ?_); refine' a_alloc HS ?_; clear HS; intro b_ w_ HS) | ((with_reducible refine' q_box ?_); refine' a_box HS ?_; clear HS; intro b_ w_ HS) | ((with_reducible refine' q_load ?_); refine' a_load HS ?_) | ((with_reducible refine' q_store ?_); refine' a_store HS ?_; clear HS; intro w_ HS) | ((with_reducible refine' wpIn_region_plain ?hd ?hno ?_); (case hd => rfl); (case hno => (rintro ⟨_, _, h⟩; first | exact (h : False) | exact (h : (∃ v, Ending.outgrown = Ending.returned v) ∧ _).1.elim (fun v hv => nomatch hv) | exact (h : Ending.outgrown = Ending.returned _ ∧ _).1.elim | exact (h : (Ending.outgrown = Ending.returned _ ∧ _) ∨ (Ending.outgrown = Ending.returned _ ∧ _)).elim (fun h => nomatch h.1) (fun h => nomatch h.1)))) | go_values | go_skip | go_guarded | go_step | go_upon | gi_step | (simp only [Int.not_lt, Int.not_le] at *; go_simp) | (go_values <;> (try go_simp)) | (go_ite <;> go_prune <;> (try go_simp)) | (split <;> (first | (rename_i hx; exact (hx _ rfl).elim) | go_prune)))
        refine ⟨_, _, Mem.le_refl _, HS.drop3, ?_⟩
        (simp only [lastR_snoc, E1.out, E2.out, E3.out]; rfl)
  case hdone =>
    clear HS
    intro D W L' HS hΦ
    subst hΦ
    have e1 : (sumS (fun _ => 1) (steps l 0) : Int) = (runesN l : Nat) := by rw [sumS_steps _ _ l 0 (Nat.le_refl _)]; rfl
    have e2 : (sumS (fun s => uOf s.r) (steps l 0) : Int) = (unitsN l : Nat) := by rw [sumS_steps _ _ l 0 (Nat.le_refl _)]; rfl
    have e3 : (endS 0 (steps l 0) : Int) = (endsN false l : Nat) := by rw [endS_steps _ l 0 0 (Nat.le_refl _)]; rfl
    rw [e1, e2, e3] at HS
    clear e1 e2 e3
    go_wp2_with (first | ((with_reducible refine' q_alloc ?_); refine' a_alloc HS ?_; clear HS; intro b_ w_ HS) | ((with_reducible refine' q_box ?_); refine' a_box HS ?_; clear HS; intro b_ w_ HS) | ((with_reducible refine' q_load ?_); refine' a_load HS ?_) | ((with_reducible refine' q_store ?_); refine' a_store HS ?_; clear HS; intro w_ HS))
    ((refine' leaves_mark HS rfl ?hm ?_); (case hm => repeat (first | exact Rep1.head _ | apply Rep1.tail)); intro w_ HS_; clear HS; have HS := HS_; clear HS_)
    refine leaves_plain ?_
    (refine post_cell (p := 2) (T := 85) rfl HS rfl rfl (by (first | (apply Blk.loc; (repeat (first | (with_reducible exact List.mem_cons_self) | apply List.mem_cons_of_mem)); done) | (apply Blk.imm; with_reducible assumption))) (by exact Eq.refl true) ?_)
    exact ⟨rfl, HS.below⟩

abbrev weldV (l : List UInt8) : Value := .agg #[.int .i64 l.length, .int .i64 (runesN l), .int .i64 (unitsN l), .int .i64 (endsN false l), .string (sOf (l.take 3)), .string (sOf (l.drop (l.length - 3)))]

theorem Of_any (M : Mem) (hG : Gl M) (A : Option Addr) (c : Nat) (l : List UInt8) (hb : BS M A c l) (hm : (l.length : Int) ≤ 268435456) (w : World) (hi : Imm M w) :
    Calls Tryd.prog 82 #[.slice A l.length c] w fun e w' => e = .returned (weldV l) ∧ Below w.heap.size w w' := by
  have HG := Lib.hid hG; clear hG
  have hm2 : ¬ ((268435456 : Int) < l.length) := by omega
  rcases Nat.lt_or_ge 3 l.length with h3 | h3
  · have h3i : (3 : Int) ≤ l.length := by omega
    have h3j : ¬ ((l.length : Int) < 3) := by omega
    have h3k : (0 : Int) ≤ (l.length : Int) - 3 := by omega
    (have HS := St.start hi; go_enter Tryd.func82, Tryd.ntmps82)
    go_wp2_with (first | ((with_reducible refine' q_alloc ?_); refine' a_alloc HS ?_; clear HS; intro b_ w_ HS) | ((with_reducible refine' q_box ?_); refine' a_box HS ?_; clear HS; intro b_ w_ HS) | ((with_reducible refine' q_load ?_); refine' a_load HS ?_) | ((with_reducible refine' q_store ?_); refine' a_store HS ?_; clear HS; intro w_ HS))
    refine wp_region_plan [16] [(true, 0), (true, 2), (true, 3), (true, 4), (true, 5), (true, 6), (true, 7), (true, 8), (true, 9), (true, 10), (true, 11), (true, 12), (true, 13), (true, 14), (false, 1), (true, 15), (false, 16)] (fun W_ => St _ _ W_ _ _) (by kernel_rfl) (by kernel_rfl) rfl (by kernel_rfl) (HS).drew ?_
    have HS_ := HS.drew; clear HS; have HS := HS_; clear HS_
    refine' a_dSoft rfl ?_
    (try simp only [Act.put, List.setIfInBounds_toArray, List.set_cons_zero, List.set_cons_succ])
    refine' a_dSoft rfl ?_
    (try simp only [Act.put, List.setIfInBounds_toArray, List.set_cons_zero, List.set_cons_succ])
    refine' a_dSoft rfl ?_
    (try simp only [Act.put, List.setIfInBounds_toArray, List.set_cons_zero, List.set_cons_succ])
    refine' a_dSoft rfl ?_
    (try simp only [Act.put, List.setIfInBounds_toArray, List.set_cons_zero, List.set_cons_succ])
    refine' a_dSoft rfl ?_
    (try simp only [Act.put, List.setIfInBounds_toArray, List.set_cons_zero, List.set_cons_succ])
    (refine' dSliceB (0 ) ( 3) rfl ?hw Tryd.underlying28 (by kernel_rfl) ?hx ?hb ?hn ?hij ?_; (case hw => first | rfl | go_simp); (case hx => first | exact eval_lit rfl | rfl); (case hb => assumption); (case hn => (first | rfl | omega | (simp; done) | (simp; omega))); (case hij => first | exact ⟨rfl, rfl, by omega, by omega⟩ | (refine ⟨?_, ?_, by omega, by omega⟩ <;> first | rfl | (refine congrArg (Value.int IntKind.i64) ?_; (repeat' split) <;> omega) | (simp; done) | (simp; omega))); intro A_ hA_)
    (try simp only [Act.put, List.setIfInBounds_toArray, List.set_cons_zero, List.set_cons_succ])
    (refine' dConvBS (Sx := 28) (D := 9) (e := 5) rfl ?hw Tryd.underlying28 Tryd.underlying5 Tryd.underlying9 (fun w_ hw_ => hw_) ?hx ?hb ?hn ?_; (case hw => first | rfl | go_simp); (case hx => first | exact eval_lit rfl | rfl); (case hb => (first | assumption | (with_reducible refine BS.mono ?_ ?_; assumption; assumption))); (case hn => (first | rfl | omega | (simp; done) | (simp; omega))))
    (try simp only [Act.put, List.setIfInBounds_toArray, List.set_cons_zero, List.set_cons_succ])
    refine' a_dSoft rfl ?_
    (try simp only [Act.put, List.setIfInBounds_toArray, List.set_cons_zero, List.set_cons_succ])
    refine' a_dSoft rfl ?_
    (try simp only [Act.put, List.setIfInBounds_toArray, List.set_cons_zero, List.set_cons_succ])
    refine' a_dSoft rfl ?_
    (try simp only [Act.put, List.setIfInBounds_toArray, List.set_cons_zero, List.set_cons_succ])
    (refine' dSub Tryd.underlying3 rfl ?hw ?hx ?hy ?hb ?_; (case hw => first | rfl | go_simp); (case hx => first | exact eval_lit rfl | rfl); (case hy => rfl); (case hb => first | omega | (simp; omega)))
    (try simp only [Act.put, List.setIfInBounds_toArray, List.set_cons_zero, List.set_cons_succ])
    refine' a_dSoft rfl ?_
    (try simp only [Act.put, List.setIfInBounds_toArray, List.set_cons_zero, List.set_cons_succ])
    (refine' dSliceB (l.length - 3 ) ( l.length) rfl ?hw Tryd.underlying28 (by kernel_rfl) ?hx ?hb ?hn ?hij ?_; (case hw => first | rfl | go_simp); (case hx => first | exact eval_lit rfl | rfl); (case hb => assumption); (case hn => (first | rfl | omega | (simp; done) | (simp; omega))); (case hij => first | exact ⟨rfl, rfl, by omega, by omega⟩ | (refine ⟨?_, ?_, by omega, by omega⟩ <;> first | rfl | (refine congrArg (Value.int IntKind.i64) ?_; (repeat' split) <;> omega) | (simp; done) | (simp; omega))); intro A_ hA_)
    (try simp only [Act.put, List.setIfInBounds_toArray, List.set_cons_zero, List.set_cons_succ])
    (refine' dConvBS (Sx := 28) (D := 9) (e := 5) rfl ?hw Tryd.underlying28 Tryd.underlying5 Tryd.underlying9 (fun w_ hw_ => hw_) ?hx ?hb ?hn ?_; (case hw => first | rfl | go_simp); (case hx => first | exact eval_lit rfl | rfl); (case hb => (first | assumption | (with_reducible refine BS.mono ?_ ?_; assumption; assumption))); (case hn => (first | rfl | omega | (simp; done) | (simp; omega))))
    (try simp only [Act.put, List.setIfInBounds_toArray, List.set_cons_zero, List.set_cons_succ])
    refine dHard rfl ?_
    refine' st_call ?hw Tryd.func103 (by kernel_rfl) rfl ?hargs (Sizes_any M HG.out A c l hb hm _ HS.imm) ?_
    case hw => rfl
    case hargs => first | rfl | (go_simp; done)
    rintro e w_ ⟨rfl, hb_⟩
    (have HS_ := HS.call hb_; clear HS hb_; have HS := HS_; clear HS_)
    refine ⟨_, rfl, ?_⟩
    refine lexD_done (fun _ => HS) ?_
    (try simp only [Act.put, List.setIfInBounds_toArray, List.set_cons_zero, List.set_cons_succ])
    refine' a_dSoft rfl ?_
    (try simp only [Act.put, List.setIfInBounds_toArray, List.set_cons_zero, List.set_cons_succ])
    refine dHard rfl ?_
    ((with_reducible refine' q_store ?_); refine' a_store HS ?_; clear HS; intro w_ HS)
    refine lexD_done (fun h => absurd h (by decide)) ?_
    (try simp only [Act.put, List.setIfInBounds_toArray, List.set_cons_zero, List.set_cons_succ])
    refine lexD_end ?_
    go_wp2_with (first | ((with_reducible refine' q_alloc ?_); refine' a_alloc HS ?_; clear HS; intro b_ w_ HS) | ((with_reducible refine' q_box ?_); refine' a_box HS ?_; clear HS; intro b_ w_ HS) | ((with_reducible refine' q_load ?_); refine' a_load HS ?_) | ((with_reducible refine' q_store ?_); refine' a_store HS ?_; clear HS; intro w_ HS))
    (refine post_cell (p := 2) (T := 87) rfl HS rfl rfl (by (first | (apply Blk.loc; (repeat (first | (with_reducible exact List.mem_cons_self) | apply List.mem_cons_of_mem)); done) | (apply Blk.imm; with_reducible assumption))) (by exact Eq.refl true) ?_)
    exact ⟨rfl, HS.below⟩
  · have h3i : ¬ ((3 : Int) < l.length) := by omega
    have h3k : (l.length : Int) - 3 ≤ 0 := by omega
    (have HS := St.start hi; go_enter Tryd.func82, Tryd.ntmps82)
    go_wp2_with (first | ((with_reducible refine' q_alloc ?_); refine' a_alloc HS ?_; clear HS; intro b_ w_ HS) | ((with_reducible refine' q_box ?_); refine' a_box HS ?_; clear HS; intro b_ w_ HS) | ((with_reducible refine' q_load ?_); refine' a_load HS ?_) | ((with_reducible refine' q_store ?_); refine' a_store HS ?_; clear HS; intro w_ HS))
    refine wp_region_plan [16] [(true, 0), (true, 2), (true, 3), (true, 4), (true, 5), (true, 6), (true, 7), (true, 8), (true, 9), (true, 10), (true, 11), (true, 12), (true, 13), (true, 14), (false, 1), (true, 15), (false, 16)] (fun W_ => St _ _ W_ _ _) (by kernel_rfl) (by kernel_rfl) rfl (by kernel_rfl) (HS).drew ?_
    have HS_ := HS.drew; clear HS; have HS := HS_; clear HS_
    refine' a_dSoft rfl ?_
    (try simp only [Act.put, List.setIfInBounds_toArray, List.set_cons_zero, List.set_cons_succ])
    refine' a_dSoft rfl ?_
    (try simp only [Act.put, List.setIfInBounds_toArray, List.set_cons_zero, List.set_cons_succ])
    refine' a_dSoft rfl ?_
    (try simp only [Act.put, List.setIfInBounds_toArray, List.set_cons_zero, List.set_cons_succ])
    refine' a_dSoft rfl ?_
    (try simp only [Act.put, List.setIfInBounds_toArray, List.set_cons_zero, List.set_cons_succ])
    refine' a_dSoft rfl ?_
    (try simp only [Act.put, List.setIfInBounds_toArray, List.set_cons_zero, List.set_cons_succ])
    (refine' dSliceB (0 ) ( l.length) rfl ?hw Tryd.underlying28 (by kernel_rfl) ?hx ?hb ?hn ?hij ?_; (case hw => first | rfl | go_simp); (case hx => first | exact eval_lit rfl | rfl); (case hb => assumption); (case hn => (first | rfl | omega | (simp; done) | (simp; omega))); (case hij => first | exact ⟨rfl, rfl, by omega, by omega⟩ | (refine ⟨?_, ?_, by omega, by omega⟩ <;> first | rfl | (refine congrArg (Value.int IntKind.i64) ?_; (repeat' split) <;> omega) | (simp; done) | (simp; omega))); intro A_ hA_)
    (try simp only [Act.put, List.setIfInBounds_toArray, List.set_cons_zero, List.set_cons_succ])
    (refine' dConvBS (Sx := 28) (D := 9) (e := 5) rfl ?hw Tryd.underlying28 Tryd.underlying5 Tryd.underlying9 (fun w_ hw_ => hw_) ?hx ?hb ?hn ?_; (case hw => first | rfl | go_simp); (case hx => first | exact eval_lit rfl | rfl); (case hb => (first | assumption | (with_reducible refine BS.mono ?_ ?_; assumption; assumption))); (case hn => (first | rfl | omega | (simp; done) | (simp; omega))))
    (try simp only [Act.put, List.setIfInBounds_toArray, List.set_cons_zero, List.set_cons_succ])
    refine' a_dSoft rfl ?_
    (try simp only [Act.put, List.setIfInBounds_toArray, List.set_cons_zero, List.set_cons_succ])
    refine' a_dSoft rfl ?_
    (try simp only [Act.put, List.setIfInBounds_toArray, List.set_cons_zero, List.set_cons_succ])
    refine' a_dSoft rfl ?_
    (try simp only [Act.put, List.setIfInBounds_toArray, List.set_cons_zero, List.set_cons_succ])
    (refine' dSub Tryd.underlying3 rfl ?hw ?hx ?hy ?hb ?_; (case hw => first | rfl | go_simp); (case hx => first | exact eval_lit rfl | rfl); (case hy => rfl); (case hb => first | omega | (simp; omega)))
    (try simp only [Act.put, List.setIfInBounds_toArray, List.set_cons_zero, List.set_cons_succ])
    refine' a_dSoft rfl ?_
    (try simp only [Act.put, List.setIfInBounds_toArray, List.set_cons_zero, List.set_cons_succ])
    (refine' dSliceB (0 ) ( l.length) rfl ?hw Tryd.underlying28 (by kernel_rfl) ?hx ?hb ?hn ?hij ?_; (case hw => first | rfl | go_simp); (case hx => first | exact eval_lit rfl | rfl); (case hb => assumption); (case hn => (first | rfl | omega | (simp; done) | (simp; omega))); (case hij => first | exact ⟨rfl, rfl, by omega, by omega⟩ | (refine ⟨?_, ?_, by omega, by omega⟩ <;> first | rfl | (refine congrArg (Value.int IntKind.i64) ?_; (repeat' split) <;> omega) | (simp; done) | (simp; omega))); intro A_ hA_)
    (try simp only [Act.put, List.setIfInBounds_toArray, List.set_cons_zero, List.set_cons_succ])
    (refine' dConvBS (Sx := 28) (D := 9) (e := 5) rfl ?hw Tryd.underlying28 Tryd.underlying5 Tryd.underlying9 (fun w_ hw_ => hw_) ?hx ?hb ?hn ?_; (case hw => first | rfl | go_simp); (case hx => first | exact eval_lit rfl | rfl); (case hb => (first | assumption | (with_reducible refine BS.mono ?_ ?_; assumption; assumption))); (case hn => (first | rfl | omega | (simp; done) | (simp; omega))))
    (try simp only [Act.put, List.setIfInBounds_toArray, List.set_cons_zero, List.set_cons_succ])
    refine dHard rfl ?_
    refine' st_call ?hw Tryd.func103 (by kernel_rfl) rfl ?hargs (Sizes_any M HG.out A c l hb hm _ HS.imm) ?_
    case hw => rfl
    case hargs => first | rfl | (go_simp; done)
    rintro e w_ ⟨rfl, hb_⟩
    (have HS_ := HS.call hb_; clear HS hb_; have HS := HS_; clear HS_)
    refine ⟨_, rfl, ?_⟩
    refine lexD_done (fun _ => HS) ?_
    (try simp only [Act.put, List.setIfInBounds_toArray, List.set_cons_zero, List.set_cons_succ])
    refine' a_dSoft rfl ?_
    (try simp only [Act.put, List.setIfInBounds_toArray, List.set_cons_zero, List.set_cons_succ])
    refine dHard rfl ?_
    ((with_reducible refine' q_store ?_); refine' a_store HS ?_; clear HS; intro w_ HS)
    refine lexD_done (fun h => absurd h (by decide)) ?_
    (try simp only [Act.put, List.setIfInBounds_toArray, List.set_cons_zero, List.set_cons_succ])
    refine lexD_end ?_
    go_wp2_with (first | ((with_reducible refine' q_alloc ?_); refine' a_alloc HS ?_; clear HS; intro b_ w_ HS) | ((with_reducible refine' q_box ?_); refine' a_box HS ?_; clear HS; intro b_ w_ HS) | ((with_reducible refine' q_load ?_); refine' a_load HS ?_) | ((with_reducible refine' q_store ?_); refine' a_store HS ?_; clear HS; intro w_ HS))
    all_goals (
      (refine post_cell (p := 2) (T := 87) rfl HS rfl rfl (by (first | (apply Blk.loc; (repeat (first | (with_reducible exact List.mem_cons_self) | apply List.mem_cons_of_mem)); done) | (apply Blk.imm; with_reducible assumption))) (by exact Eq.refl true) ?_)
      refine ⟨?_, HS.below⟩
      have e1 : l.take 3 = l := List.take_of_length_le (by omega)
      have e2 : l.drop (l.length - 3) = l := by rw [show l.length - 3 = 0 from by omega]; rfl
      simp only [weldV, e1, e2])
end Go.Proofs.YtbogoehjoglneaaDoor

/- weld.head, tail, tailIs, sum, short: what they answer. -/
namespace Go.Proofs.YtbogoehjoglneaaDoor
open Go.RowKit
set_option linter.unusedVariables false
set_option linter.unusedSimpArgs false
set_option maxRecDepth 100000
attribute [local go_sem] byt_drop byt_tail Int.toNat_natCast sOf_size

attribute [local go_sem] sOf_append

theorem head_any (l : List UInt8) (w : World) :
    Calls Tryd.prog 137 #[.string (sOf l)] w fun e w' => e = .returned (.string (sOf (l.take 3))) ∧ w' = w := by
  by_cases h : (l.length : Int) < 3
  · have e1 : l.take 3 = l := List.take_of_length_le (by omega)
    go_enter Tryd.func137, Tryd.ntmps137
    go_wp2_with (first | ((with_reducible refine' st_slice_str (S := 9) (i := 0) (j := l.length) ?hw Tryd.underlying9 ?hx ?hij ?_); (case hw => first | rfl | (go_simp; done)); (case hx => first | exact eval_lit rfl | rfl); (case hij => first | exact ⟨rfl, rfl, by omega, by omega⟩ | fail)))
    go_ret
    exact ⟨by rw [e1]; simp, rfl⟩
  · have h1 : (3 : Int) ≤ l.length := by omega
    go_enter Tryd.func137, Tryd.ntmps137
    go_wp2_with (first | ((with_reducible refine' st_slice_str (S := 9) (i := 0) (j := 3) ?hw Tryd.underlying9 ?hx ?hij ?_); (case hw => first | rfl | (go_simp; done)); (case hx => first | exact eval_lit rfl | rfl); (case hij => first | exact ⟨rfl, rfl, by omega, by omega⟩ | fail)))
    go_ret
    exact ⟨rfl, rfl⟩
theorem tail_any (l : List UInt8) (hm : (l.length : Int) ≤ 268435456) (w : World) :
    Calls Tryd.prog 138 #[.string (sOf l)] w fun e w' => e = .returned (.string (sOf (l.drop (l.length - 3)))) ∧ w' = w := by
  by_cases h : (0 : Int) < (l.length : Int) - 3
  · go_enter Tryd.func138, Tryd.ntmps138
    go_wp2_with (first | ((with_reducible refine' st_slice_str (S := 9) (i := l.length - 3) (j := l.length) ?hw Tryd.underlying9 ?hx ?hij ?_); (case hw => first | rfl | (go_simp; done)); (case hx => first | exact eval_lit rfl | rfl); (case hij => first | exact ⟨rfl, rfl, by omega, by omega⟩ | (refine ⟨?_, ?_, by omega, by omega⟩; (refine congrArg (Value.int IntKind.i64) ?_; omega); rfl))))
    go_ret
    exact ⟨by simp, rfl⟩
  · have e1 : l.length - 3 = 0 := by omega
    go_enter Tryd.func138, Tryd.ntmps138
    go_wp2_with (first | ((with_reducible refine' st_slice_str (S := 9) (i := 0) (j := l.length) ?hw Tryd.underlying9 ?hx ?hij ?_); (case hw => first | rfl | (go_simp; done)); (case hx => first | exact eval_lit rfl | rfl); (case hij => first | exact ⟨rfl, rfl, by omega, by omega⟩ | fail)))
    go_ret
    exact ⟨rfl, rfl⟩
theorem tailIs_any (l : List UInt8) (c : Nat) (hc : c < 256) (hm : (l.length : Int) ≤ 268435456) (w : World) :
    Calls Tryd.prog 142 #[.string (sOf l), .int .u8 c] w fun e w' => e = .returned (.bool (decide (l.getLast?.map UInt8.toNat = some c))) ∧ w' = w := by
  by_cases h : (0 : Int) < l.length
  · go_enter Tryd.func142, Tryd.ntmps142
    go_wp2_with (first | ((with_reducible refine' st_index_str (T := 9) ?hw Tryd.underlying9 ?hx ?hi ?hj ?_); (case hw => rfl); (case hx => first | exact eval_lit rfl | rfl); (case hi => first | exact eval_lit rfl | rfl); (case hj => omega)))
    go_ret
    refine ⟨ret_bool ?_, rfl⟩
    have hl : l.length - 1 < l.length := by omega
    rw [List.getLast?_eq_getElem?, List.getElem?_eq_getElem hl, (byt_lt hl).1, Bool.eq_iff_iff]
    simp only [beq_iff_eq, Option.map_some, Option.some.injEq, decide_eq_true_eq]
    omega
  · go_enter Tryd.func142, Tryd.ntmps142
    go_wp2_with fail
    go_ret
    have : l = [] := List.length_eq_zero_iff.1 (by omega)
    subst this
    exact ⟨rfl, rfl⟩
theorem sum_any (b r u e b' r' u' e' t : Int) (hb : -1000000000 ≤ b ∧ b ≤ 1000000000) (hr : -1000000000 ≤ r ∧ r ≤ 1000000000) (hu : -1000000000 ≤ u ∧ u ≤ 1000000000) (he : -1000000000 ≤ e ∧ e ≤ 1000000000)
    (hb' : -1000000000 ≤ b' ∧ b' ≤ 1000000000) (hr' : -1000000000 ≤ r' ∧ r' ≤ 1000000000) (hu' : -1000000000 ≤ u' ∧ u' ≤ 1000000000) (he' : -1000000000 ≤ e' ∧ e' ≤ 1000000000) (ht : t = 1 ∨ t = -1) (M : Mem) (w : World) (hi : Imm M w) :
    Calls Tryd.prog 136 #[.agg #[.int .i64 b, .int .i64 r, .int .i64 u, .int .i64 e], .agg #[.int .i64 b', .int .i64 r', .int .i64 u', .int .i64 e'], .int .i64 t] w
      fun x w' => x = .returned (.agg #[.int .i64 (b + t * b'), .int .i64 (r + t * r'), .int .i64 (u + t * u'), .int .i64 (e + t * e')]) ∧ Below w.heap.size w w' := by
  obtain ⟨hb1, hb2⟩ := hb
  obtain ⟨hr1, hr2⟩ := hr
  obtain ⟨hu1, hu2⟩ := hu
  obtain ⟨he1, he2⟩ := he
  obtain ⟨hb3, hb4⟩ := hb'
  obtain ⟨hr3, hr4⟩ := hr'
  obtain ⟨hu3, hu4⟩ := hu'
  obtain ⟨he3, he4⟩ := he'
  rcases ht with rfl | rfl
  · (have HS := St.start hi; go_enter Tryd.func136, Tryd.ntmps136)
    go_wp2_with (first | ((with_reducible refine' q_alloc ?_); refine' a_alloc HS ?_; clear HS; intro b_ w_ HS) | ((with_reducible refine' q_box ?_); refine' a_box HS ?_; clear HS; intro b_ w_ HS) | ((with_reducible refine' q_load ?_); refine' a_load HS ?_) | ((with_reducible refine' q_store ?_); refine' a_store HS ?_; clear HS; intro w_ HS))
    (refine post_cell (p := 6) (T := 85) rfl HS rfl rfl (by (first | (apply Blk.loc; (repeat (first | (with_reducible exact List.mem_cons_self) | apply List.mem_cons_of_mem)); done) | (apply Blk.imm; with_reducible assumption))) (by exact Eq.refl true) ?_)
    exact ⟨by simp only [Int.one_mul], HS.below⟩
  · (have HS := St.start hi; go_enter Tryd.func136, Tryd.ntmps136)
    go_wp2_with (first | ((with_reducible refine' q_alloc ?_); refine' a_alloc HS ?_; clear HS; intro b_ w_ HS) | ((with_reducible refine' q_box ?_); refine' a_box HS ?_; clear HS; intro b_ w_ HS) | ((with_reducible refine' q_load ?_); refine' a_load HS ?_) | ((with_reducible refine' q_store ?_); refine' a_store HS ?_; clear HS; intro w_ HS))
    (refine post_cell (p := 6) (T := 85) rfl HS rfl rfl (by (first | (apply Blk.loc; (repeat (first | (with_reducible exact List.mem_cons_self) | apply List.mem_cons_of_mem)); done) | (apply Blk.imm; with_reducible assumption))) (by exact Eq.refl true) ?_)
    exact ⟨by simp only [Int.neg_mul, Int.one_mul], HS.below⟩

theorem short_gen (M : Mem) (h t : List UInt8) (n o : Nat) (r u e : Int) (hl : h.length ≤ 3) (tl : t.length ≤ 3) (ho : h.length + t.length = n + o) (ho1 : o ≤ h.length) (ho2 : o ≤ t.length) (hs : h.drop (h.length - o) = t.take o) (w : World) (hi : Imm M w) :
    Calls Tryd.prog 140 #[.agg #[.int .i64 n, .int .i64 r, .int .i64 u, .int .i64 e, .string (sOf h), .string (sOf t)]] w
      fun x w' => x = .returned (.tuple #[.string (sOf (h ++ t.drop o)), .bool true]) ∧ Below w.heap.size w w' := by
  have hl' : (h.length : Int) ≤ 3 := by omega
  have tl' : (t.length : Int) ≤ 3 := by omega
  have hn' : (n : Int) ≤ 6 := by omega
  have hcat : ¬ (9223372036854775807 < h.length + (t.length - o)) := by omega
  (have HS := St.start hi; go_enter Tryd.func140, Tryd.ntmps140)
  go_wp2_with (first | ((with_reducible refine' q_alloc ?_); refine' a_alloc HS ?_; clear HS; intro b_ w_ HS) | ((with_reducible refine' q_box ?_); refine' a_box HS ?_; clear HS; intro b_ w_ HS) | ((with_reducible refine' q_load ?_); refine' a_load HS ?_) | ((with_reducible refine' q_store ?_); refine' a_store HS ?_; clear HS; intro w_ HS))
  refine wp_region_plan [] [(true, 0), (true, 1), (true, 2), (true, 3), (true, 4), (true, 5), (true, 6), (true, 7), (true, 8), (true, 9), (true, 10), (true, 11), (true, 12)] (fun W_ => St _ _ W_ _ _) (by kernel_rfl) (by kernel_rfl) rfl (by kernel_rfl) (HS).drew ?_
  have HS_ := HS.drew; clear HS; have HS := HS_; clear HS_
  refine' a_dSoft rfl ?_
  (try simp only [Act.put, List.setIfInBounds_toArray, List.set_cons_zero, List.set_cons_succ])
  (first | refine' a_dLoad rfl (fun w_ hw_ => hw_) ?_ | refine' a_dLoadC rfl (fun w_ hw_ => hw_) ?_)
  (try simp only [Act.put, List.setIfInBounds_toArray, List.set_cons_zero, List.set_cons_succ])
  refine' a_dSoft rfl ?_
  (try simp only [Act.put, List.setIfInBounds_toArray, List.set_cons_zero, List.set_cons_succ])
  (first | refine' a_dLoad rfl (fun w_ hw_ => hw_) ?_ | refine' a_dLoadC rfl (fun w_ hw_ => hw_) ?_)
  (try simp only [Act.put, List.setIfInBounds_toArray, List.set_cons_zero, List.set_cons_succ])
  refine' a_dSoft rfl ?_
  (try simp only [Act.put, List.setIfInBounds_toArray, List.set_cons_zero, List.set_cons_succ])
  refine' a_dSoft rfl ?_
  (try simp only [Act.put, List.setIfInBounds_toArray, List.set_cons_zero, List.set_cons_succ])
  (refine' dSub Tryd.underlying3 rfl ?hw ?hx ?hy ?hb ?_; (case hw => first | rfl | go_simp); (case hx => first | exact eval_lit rfl | rfl); (case hy => rfl); (case hb => first | omega | (simp; omega)))
  (try simp only [Act.put, List.setIfInBounds_toArray, List.set_cons_zero, List.set_cons_succ])
  (refine' dSliceS (h.length - o ) ( h.length) rfl ?hw Tryd.underlying9 ?hx ?hij ?_; (case hw => first | rfl | go_simp); (case hx => first | exact eval_lit rfl | rfl); (case hij => first | exact ⟨rfl, rfl, by omega, by omega⟩ | (refine ⟨?_, ?_, by omega, by omega⟩ <;> first | rfl | (refine congrArg (Value.int IntKind.i64) ?_; (repeat' split) <;> omega) | (simp; done) | (simp; omega))))
  (try simp only [Act.put, List.setIfInBounds_toArray, List.set_cons_zero, List.set_cons_succ])
  refine' a_dSoft rfl ?_
  (try simp only [Act.put, List.setIfInBounds_toArray, List.set_cons_zero, List.set_cons_succ])
  (first | refine' a_dLoad rfl (fun w_ hw_ => hw_) ?_ | refine' a_dLoadC rfl (fun w_ hw_ => hw_) ?_)
  (try simp only [Act.put, List.setIfInBounds_toArray, List.set_cons_zero, List.set_cons_succ])
  refine' a_dSoft rfl ?_
  (try simp only [Act.put, List.setIfInBounds_toArray, List.set_cons_zero, List.set_cons_succ])
  (refine' dSliceS (0 ) ( o) rfl ?hw Tryd.underlying9 ?hx ?hij ?_; (case hw => first | rfl | go_simp); (case hx => first | exact eval_lit rfl | rfl); (case hij => first | exact ⟨rfl, rfl, by omega, by omega⟩ | (refine ⟨?_, ?_, by omega, by omega⟩ <;> first | rfl | (refine congrArg (Value.int IntKind.i64) ?_; (repeat' split) <;> omega) | (simp; done) | (simp; omega))))
  (try simp only [Act.put, List.setIfInBounds_toArray, List.set_cons_zero, List.set_cons_succ])
  refine' a_dSoft rfl ?_
  (try simp only [Act.put, List.setIfInBounds_toArray, List.set_cons_zero, List.set_cons_succ])
  refine lexD_end ?_
  go_wp2_with (first | ((with_reducible refine' q_alloc ?_); refine' a_alloc HS ?_; clear HS; intro b_ w_ HS) | ((with_reducible refine' q_box ?_); refine' a_box HS ?_; clear HS; intro b_ w_ HS) | ((with_reducible refine' q_load ?_); refine' a_load HS ?_) | ((with_reducible refine' q_store ?_); refine' a_store HS ?_; clear HS; intro w_ HS))
  refine wp_region_plan [] [(true, 0), (true, 1), (true, 2), (true, 3), (true, 4), (true, 5), (true, 6), (true, 7), (true, 8)] (fun W_ => St _ _ W_ _ _) (by kernel_rfl) (by kernel_rfl) rfl (by kernel_rfl) (HS).drew ?_
  have HS_ := HS.drew; clear HS; have HS := HS_; clear HS_
  refine' a_dSoft rfl ?_
  (try simp only [Act.put, List.setIfInBounds_toArray, List.set_cons_zero, List.set_cons_succ])
  (first | refine' a_dLoad rfl (fun w_ hw_ => hw_) ?_ | refine' a_dLoadC rfl (fun w_ hw_ => hw_) ?_)
  (try simp only [Act.put, List.setIfInBounds_toArray, List.set_cons_zero, List.set_cons_succ])
  refine' a_dSoft rfl ?_
  (try simp only [Act.put, List.setIfInBounds_toArray, List.set_cons_zero, List.set_cons_succ])
  (first | refine' a_dLoad rfl (fun w_ hw_ => hw_) ?_ | refine' a_dLoadC rfl (fun w_ hw_ => hw_) ?_)
  (try simp only [Act.put, List.setIfInBounds_toArray, List.set_cons_zero, List.set_cons_succ])
  refine' a_dSoft rfl ?_
  (try simp only [Act.put, List.setIfInBounds_toArray, List.set_cons_zero, List.set_cons_succ])
  (refine' dSliceS (o ) ( t.length) rfl ?hw Tryd.underlying9 ?hx ?hij ?_; (case hw => first | rfl | go_simp); (case hx => first | exact eval_lit rfl | rfl); (case hij => first | exact ⟨rfl, rfl, by omega, by omega⟩ | (refine ⟨?_, ?_, by omega, by omega⟩ <;> first | rfl | (refine congrArg (Value.int IntKind.i64) ?_; (repeat' split) <;> omega) | (simp; done) | (simp; omega))))
  (try simp only [Act.put, List.setIfInBounds_toArray, List.set_cons_zero, List.set_cons_succ])
  refine' a_dSoft rfl ?_
  (try simp only [Act.put, List.setIfInBounds_toArray, List.set_cons_zero, List.set_cons_succ])
  refine' a_dSoft rfl ?_
  (try simp only [Act.put, List.setIfInBounds_toArray, List.set_cons_zero, List.set_cons_succ])
  refine' a_dSoft rfl ?_
  (try simp only [Act.put, List.setIfInBounds_toArray, List.set_cons_zero, List.set_cons_succ])
  refine lexD_end ?_
  go_wp2_with (first | ((with_reducible refine' q_alloc ?_); refine' a_alloc HS ?_; clear HS; intro b_ w_ HS) | ((with_reducible refine' q_box ?_); refine' a_box HS ?_; clear HS; intro b_ w_ HS) | ((with_reducible refine' q_load ?_); refine' a_load HS ?_) | ((with_reducible refine' q_store ?_); refine' a_store HS ?_; clear HS; intro w_ HS))
  go_ret2
  exact ⟨rfl, HS.below⟩

theorem short_any (M : Mem) (l : List UInt8) (h6 : l.length ≤ 6) (w : World) (hi : Imm M w) :
    Calls Tryd.prog 140 #[weldV l] w fun e w' => e = .returned (.tuple #[.string (sOf l), .bool true]) ∧ Below w.heap.size w w' := by
  rcases Nat.lt_or_ge 3 l.length with h3 | h3
  · have := short_gen M (l.take 3) (l.drop (l.length - 3)) l.length (6 - l.length) (runesN l) (unitsN l) (endsN false l) (by simp; omega) (by simp; omega) (by simp; omega) (by simp; omega) (by simp; omega)
      (by rw [List.drop_take, show (l.take 3).length - (6 - l.length) = l.length - 3 from by simp; omega, show 3 - (l.length - 3) = 6 - l.length from by omega]) w hi
    rw [List.drop_drop, show l.length - 3 + (6 - l.length) = 3 from by omega, List.take_append_drop] at this
    exact this
  · have e1 : l.take 3 = l := List.take_of_length_le (by omega)
    have e2 : l.drop (l.length - 3) = l := by rw [show l.length - 3 = 0 from by omega]; rfl
    have := short_gen M l l l.length l.length (runesN l) (unitsN l) (endsN false l) (by omega) (by omega) (by omega) (by omega) (by omega) (by simp) w hi
    rw [List.drop_length, List.append_nil] at this
    simp only [weldV, e1, e2]
    exact this

set_option maxHeartbeats 1000000 in
theorem Valid_any (M : Mem) (hG : Gl M) (l : List UInt8) (hm : (l.length : Int) ≤ 268435456) (w : World) (hi : Imm M w) :
    Calls Tryd.prog 134 #[weldV l] w fun e w' => e = .returned (.bool true) ∧ Below w.heap.size w w' := by
  have HG := Lib.hid hG; clear hG
  rcases Nat.lt_or_ge 3 l.length with h3 | h3
  · have h3i : (3 : Int) ≤ l.length := by omega
    have l1 : (l.take 3).length = 3 := by simp; omega
    have l2 : (l.drop (l.length - 3)).length = 3 := by simp; omega
    have hn : ¬ ((l.length : Int) < 3) := by omega
    have hn2 : ¬ ((268435456 : Int) < l.length) := by omega
    rcases Nat.lt_or_ge 6 l.length with h6 | h6
    · have h6i : ¬ ((l.length : Int) ≤ 6) := by omega
      have hok := measure_ok l
      have hR : ∃ R U E : Nat, R = runesN l ∧ U = unitsN l ∧ E = endsN false l := ⟨_, _, _, rfl, rfl, rfl⟩
      obtain ⟨R, U, E, e1, e2, e3⟩ := hR
      simp only [weldV, ← e1, ← e2, ← e3] at hok ⊢
      clear e1 e2 e3
      have f2 : (R : Int) ≤ l.length := by omega
      have f3 : (U : Int) ≤ l.length := by omega
      have f4 : (0 : Int) ≤ U - R := by omega
      have f4' : (R : Int) ≤ U := by omega
      have f5 : (0 : Int) ≤ R - (U - R) := by omega
      have f5' : ((U : Int) - R) ≤ R := by omega
      have f6 : (R : Int) - (U - R) ≤ l.length - 4 * (U - R) := by omega
      have f7 : (l.length : Int) - 4 * (U - R) ≤ 3 * (R - (U - R)) := by omega
      have f8 : (E : Int) ≤ R := by omega
      clear hok
      (have HS := St.start hi; go_enter Tryd.func134, Tryd.ntmps134)
      go_wp2_with (first | ((with_reducible refine' q_alloc ?_); refine' a_alloc HS ?_; clear HS; intro b_ w_ HS) | ((with_reducible refine' q_box ?_); refine' a_box HS ?_; clear HS; intro b_ w_ HS) | ((with_reducible refine' q_load ?_); refine' a_load HS ?_) | ((with_reducible refine' q_store ?_); refine' a_store HS ?_; clear HS; intro w_ HS))
      go_ret
      exact ⟨rfl, HS.below⟩
    · have h6i : (l.length : Int) ≤ 6 := by omega
      (have HS := St.start hi; go_enter Tryd.func134, Tryd.ntmps134)
      go_wp2_with (first | ((with_reducible refine' q_alloc ?_); refine' a_alloc HS ?_; clear HS; intro b_ w_ HS) | ((with_reducible refine' q_box ?_); refine' a_box HS ?_; clear HS; intro b_ w_ HS) | ((with_reducible refine' q_load ?_); refine' a_load HS ?_) | ((with_reducible refine' q_store ?_); refine' a_store HS ?_; clear HS; intro w_ HS) | (go_at_call 140; (with_reducible refine (short_any M l h6 _ HS.imm).mono ?_); rintro e w_ ⟨rfl, hb_⟩; have HS_ := HS.call hb_; clear HS hb_; have HS := HS_; clear HS_))
      refine wp_region_plan [] [(true, 0), (true, 1), (true, 2), (true, 3), (false, 4), (false, 5), (true, 6), (true, 7), (true, 8)] (fun W_ => St _ _ W_ _ _) (by kernel_rfl) (by kernel_rfl) rfl (by kernel_rfl) (HS).drew ?_
      have HS_ := HS.drew; clear HS; have HS := HS_; clear HS_
      refine' a_dSoft rfl ?_
      (try simp only [Act.put, List.setIfInBounds_toArray, List.set_cons_zero, List.set_cons_succ])
      refine' a_dSoft rfl ?_
      (try simp only [Act.put, List.setIfInBounds_toArray, List.set_cons_zero, List.set_cons_succ])
      (first | (refine' dSkip rfl rfl ?_) | (first | refine' a_dLoad rfl (fun w_ hw_ => hw_) ?_ | refine' a_dLoadC rfl (fun w_ hw_ => hw_) ?_))
      (try simp only [Act.put, List.setIfInBounds_toArray, List.set_cons_zero, List.set_cons_succ])
      (first | (refine' dSkip rfl rfl ?_) | refine' a_dSoft rfl ?_)
      (try simp only [Act.put, List.setIfInBounds_toArray, List.set_cons_zero, List.set_cons_succ])
      refine dHard rfl ?_
      ((with_reducible refine' st_conv_sb (S := 9) (D := 28) (e := 5) ?hw Tryd.underlying9 Tryd.underlying28 Tryd.underlying5 HS ?hx ?_); (case hw => rfl); (case hx => first | exact eval_lit rfl | rfl); intro M_ b_ c_ w_ hle_ hfr_ HS_ hsz_ hbs_; clear HS; have HS := HS_; clear HS_)
      refine lexD_done (fun _ => HS.less hle_) ?_
      (try simp only [Act.put, List.setIfInBounds_toArray, List.set_cons_zero, List.set_cons_succ])
      refine dHard rfl ?_
      refine' st_call ?hw Tryd.func82 (by kernel_rfl) rfl ?hargs (Of_any M_ (HG.out.mono hle_) _ _ l hbs_ hm _ HS.imm) ?_
      case hw => rfl
      case hargs => first | rfl | (go_simp; done)
      rintro e w_ ⟨rfl, hb_⟩
      (have HS_ := HS.call hb_; clear HS hb_; have HS := HS_; clear HS_)
      refine ⟨_, rfl, ?_⟩
      refine lexD_done (fun _ => HS.less hle_) ?_
      (try simp only [Act.put, List.setIfInBounds_toArray, List.set_cons_zero, List.set_cons_succ])
      (first | (refine' dSkip rfl rfl ?_) | refine' a_dSoft rfl ?_)
      (try simp only [Act.put, List.setIfInBounds_toArray, List.set_cons_zero, List.set_cons_succ])
      refine' a_dSoft rfl ?_
      (try simp only [Act.put, List.setIfInBounds_toArray, List.set_cons_zero, List.set_cons_succ])
      refine' a_dSoft rfl ?_
      (try simp only [Act.put, List.setIfInBounds_toArray, List.set_cons_zero, List.set_cons_succ])
      refine lexD_end ?_
      go_wp2_with (first | ((with_reducible refine' q_alloc ?_); refine' a_alloc HS ?_; clear HS; intro b_ w_ HS) | ((with_reducible refine' q_box ?_); refine' a_box HS ?_; clear HS; intro b_ w_ HS) | ((with_reducible refine' q_load ?_); refine' a_load HS ?_) | ((with_reducible refine' q_store ?_); refine' a_store HS ?_; clear HS; intro w_ HS))
      go_ret
      exact ⟨rfl, HS.below⟩
  · have h3i : ¬ ((3 : Int) < l.length) := by omega
    have e1 : l.take 3 = l := List.take_of_length_le (by omega)
    have e2 : l.drop (l.length - 3) = l := by rw [show l.length - 3 = 0 from by omega]; rfl
    have hS := short_any M l (by omega)
    simp only [weldV, e1, e2] at hS ⊢
    have HH := Lib.hid hS; clear hS
    have h6i : (l.length : Int) ≤ 6 := by omega
    have hn2 : ¬ ((268435456 : Int) < l.length) := by omega
    have hmin : (if (l.length : Int) < 3 then (l.length : Int) else 3) = l.length := by split <;> omega
    (have HS := St.start hi; go_enter Tryd.func134, Tryd.ntmps134)
    go_wp2_with (first | ((with_reducible refine' q_alloc ?_); refine' a_alloc HS ?_; clear HS; intro b_ w_ HS) | ((with_reducible refine' q_box ?_); refine' a_box HS ?_; clear HS; intro b_ w_ HS) | ((with_reducible refine' q_load ?_); refine' a_load HS ?_) | ((with_reducible refine' q_store ?_); refine' a_store HS ?_; clear HS; intro w_ HS) | (go_at_call 140; (with_reducible refine (HH.out _ HS.imm).mono ?_); rintro e w_ ⟨rfl, hb_⟩; have HS_ := HS.call hb_; clear HS hb_; have HS := HS_; clear HS_))
    refine wp_region_plan [] [(true, 0), (true, 1), (true, 2), (true, 3), (false, 4), (false, 5), (true, 6), (true, 7), (true, 8)] (fun W_ => St _ _ W_ _ _) (by kernel_rfl) (by kernel_rfl) rfl (by kernel_rfl) (HS).drew ?_
    have HS_ := HS.drew; clear HS; have HS := HS_; clear HS_
    refine' a_dSoft rfl ?_
    (try simp only [Act.put, List.setIfInBounds_toArray, List.set_cons_zero, List.set_cons_succ])
    refine' a_dSoft rfl ?_
    (try simp only [Act.put, List.setIfInBounds_toArray, List.set_cons_zero, List.set_cons_succ])
    (first | (refine' dSkip rfl rfl ?_) | (first | refine' a_dLoad rfl (fun w_ hw_ => hw_) ?_ | refine' a_dLoadC rfl (fun w_ hw_ => hw_) ?_))
    (try simp only [Act.put, List.setIfInBounds_toArray, List.set_cons_zero, List.set_cons_succ])
    (first | (refine' dSkip rfl rfl ?_) | refine' a_dSoft rfl ?_)
    (try simp only [Act.put, List.setIfInBounds_toArray, List.set_cons_zero, List.set_cons_succ])
    refine dHard rfl ?_
    ((with_reducible refine' st_conv_sb (S := 9) (D := 28) (e := 5) ?hw Tryd.underlying9 Tryd.underlying28 Tryd.underlying5 HS ?hx ?_); (case hw => rfl); (case hx => first | exact eval_lit rfl | rfl); intro M_ b_ c_ w_ hle_ hfr_ HS_ hsz_ hbs_; clear HS; have HS := HS_; clear HS_)
    refine lexD_done (fun _ => HS.less hle_) ?_
    (try simp only [Act.put, List.setIfInBounds_toArray, List.set_cons_zero, List.set_cons_succ])
    refine dHard rfl ?_
    refine' st_call ?hw Tryd.func82 (by kernel_rfl) rfl ?hargs (Of_any M_ (HG.out.mono hle_) _ _ l hbs_ hm _ HS.imm) ?_
    case hw => rfl
    case hargs => first | rfl | (go_simp; done)
    rintro e w_ ⟨rfl, hb_⟩
    (have HS_ := HS.call hb_; clear HS hb_; have HS := HS_; clear HS_)
    refine ⟨_, rfl, ?_⟩
    refine lexD_done (fun _ => HS.less hle_) ?_
    (try simp only [Act.put, List.setIfInBounds_toArray, List.set_cons_zero, List.set_cons_succ])
    (first | (refine' dSkip rfl rfl ?_) | refine' a_dSoft rfl ?_)
    (try simp only [Act.put, List.setIfInBounds_toArray, List.set_cons_zero, List.set_cons_succ])
    refine' a_dSoft rfl ?_
    (try simp only [Act.put, List.setIfInBounds_toArray, List.set_cons_zero, List.set_cons_succ])
    refine' a_dSoft rfl ?_
    (try simp only [Act.put, List.setIfInBounds_toArray, List.set_cons_zero, List.set_cons_succ])
    refine lexD_end ?_
    go_wp2_with (first | ((with_reducible refine' q_alloc ?_); refine' a_alloc HS ?_; clear HS; intro b_ w_ HS) | ((with_reducible refine' q_box ?_); refine' a_box HS ?_; clear HS; intro b_ w_ HS) | ((with_reducible refine' q_load ?_); refine' a_load HS ?_) | ((with_reducible refine' q_store ?_); refine' a_store HS ?_; clear HS; intro w_ HS))
    go_ret
    exact ⟨rfl, HS.below⟩
end Go.Proofs.YtbogoehjoglneaaDoor

/- weld.seam, weld.both, weld.Join: where two measures meet. -/
namespace Go.Proofs.YtbogoehjoglneaaDoor
open Go.RowKit
set_option linter.unusedVariables false
set_option linter.unusedSimpArgs false
set_option maxRecDepth 100000
attribute [local go_sem] byt_drop byt_tail Int.toNat_natCast sOf_size sOf_append

/- The encoding that goes over the seam: how many of its bytes are a's, how long it is. -/
def seamK (a b : List UInt8) : Nat := inside (a ++ b) a.length
def seamE (a b : List UInt8) : Nat := enc ((a ++ b).drop (a.length - seamK a b))
def seamV (a b : List UInt8) : Nat := if seamK a b = 0 then 0 else val ((a ++ b).drop (a.length - seamK a b))

theorem seam_value (a b : List UInt8) (k j : Nat) (hk0 : 1 ≤ k) (hk : k ≤ a.length) (hj0 : 1 ≤ j) (hj : j ≤ b.length) :
    valueI (a.drop (a.length - k) ++ b.take j) = if seamK a b = k ∧ seamE a b = k + j then (seamV a b : Int) else -1 := by
  have hd : (a ++ b).drop (a.length - k) = a.drop (a.length - k) ++ b := List.drop_append_of_le_length (by omega)
  have hx : a.drop (a.length - k) ++ b.take j = ((a ++ b).drop (a.length - k)).take (k + j) := by
    have e1 : (a.drop (a.length - k)).length = k := by rw [List.length_drop]; omega
    rw [hd, List.take_append, e1, List.take_of_length_le (l := a.drop (a.length - k)) (i := k + j) (by omega), Nat.add_sub_cancel_left]
  have hlen : (a.drop (a.length - k) ++ b.take j).length = k + j := by simp; omega
  have hle : enc (a.drop (a.length - k) ++ b.take j) = k + j → enc ((a ++ b).drop (a.length - k)) = k + j := fun h => by
    rw [hx] at h
    have := enc_more (((a ++ b).drop (a.length - k)).drop (k + j)) (a := ((a ++ b).drop (a.length - k)).take (k + j)) (by omega)
    rw [List.take_append_drop] at this; omega
  unfold valueI
  by_cases h : seamK a b = k ∧ seamE a b = k + j
  · rw [if_pos h]
    obtain ⟨h1, h2⟩ := h
    unfold seamE at h2
    rw [h1] at h2
    have h3 : enc (a.drop (a.length - k) ++ b.take j) = k + j := by rw [hx, enc_take (by omega)]; exact h2
    rw [if_pos ⟨by omega, by omega⟩]
    unfold seamV
    rw [if_neg (by omega), h1, hx]
    congr 1
    exact val_congr (l := (a ++ b).drop (a.length - k)) (by omega) fun i hi => byt_take (by omega)
  · rw [if_neg h, if_neg]
    rintro ⟨h1, _⟩
    have h2 := hle (by omega)
    have h3 := inside_spec (l := a ++ b) (p := a.length) (k := k) hk0 hk (by omega)
    refine h ⟨h3, ?_⟩
    unfold seamE
    rw [show seamK a b = k from h3]; exact h2

/- What the loops have found by the time of k, j. -/
def seamA (K E V k j : Nat) : Nat × Nat := if K ≠ 0 ∧ (K < k ∨ (K = k ∧ E < k + j)) then (E - 1, E - uOf V) else (0, 0)
def seamR (a b : List UInt8) : Nat × Nat := if seamK a b ≠ 0 then (seamE a b - 1, seamE a b - uOf (seamV a b)) else (0, 0)
def seamN (a b : List UInt8) : Nat := if a.getLast? = some 13 ∧ b.head? = some 10 then 1 else 0

theorem seam_bounds {a b : List UInt8} (h : seamK a b ≠ 0) : 1 ≤ seamK a b ∧ seamK a b ≤ 3 ∧ seamK a b ≤ a.length ∧ seamK a b < seamE a b ∧ seamE a b ≤ 4 ∧ seamE a b ≤ seamK a b + b.length := by
  obtain ⟨h1, h2, h3⟩ := inside_pos h
  have := inside_le (a ++ b) a.length
  have h4 := enc_le ((a ++ b).drop (a.length - seamK a b))
  have h5 := enc_len ((a ++ b).drop (a.length - seamK a b))
  simp at h5
  unfold seamE
  unfold seamK at *
  omega

abbrev seamVal (a b : List UInt8) : Value := .agg #[.int .i64 0, .int .i64 (seamR a b).1, .int .i64 (seamR a b).2, .int .i64 (seamN a b)]

theorem tl_drop (a : List UInt8) (k : Nat) (hk : k ≤ 3) (hka : k ≤ a.length) : (a.drop (a.length - 3)).drop ((a.drop (a.length - 3)).length - k) = a.drop (a.length - k) := by
  rw [List.drop_drop, List.length_drop]
  congr 1
  omega

theorem seamA_hit {K E V k j : Nat} (hc : K = k ∧ E = k + j) (hk : 1 ≤ k) : seamA K E V k (j + 1) = (E - 1, E - uOf V) := by
  unfold seamA; rw [if_pos]; omega
theorem seamA_miss {K E V k j : Nat} (hc : ¬ (K = k ∧ E = k + j)) : seamA K E V k (j + 1) = seamA K E V k j := by
  unfold seamA
  by_cases h : K ≠ 0 ∧ (K < k ∨ (K = k ∧ E < k + j))
  · rw [if_pos h, if_pos (by omega)]
  · rw [if_neg h, if_neg (by omega)]
theorem seamA_row {K E V k n : Nat} (hK : K ≠ 0 → E ≤ K + n) (hK2 : K < E ∨ K = 0) : seamA K E V k (n + 1) = seamA K E V (k + 1) 1 := by
  unfold seamA
  by_cases h : K ≠ 0 ∧ (K < k ∨ (K = k ∧ E < k + (n + 1)))
  · rw [if_pos h, if_pos (by omega)]
  · rw [if_neg h, if_neg (by omega)]

set_option maxHeartbeats 4000000 in
theorem seam_gen (M : Mem) (hG : Gl M) (t h : List UInt8) (ht : t.length ≤ 3) (hh : h.length ≤ 3) (K E V : Nat) (hV : V ≤ 1114111) (hK : K ≠ 0 → 1 ≤ K ∧ K ≤ t.length ∧ K < E ∧ E ≤ 4 ∧ E ≤ K + h.length)
    (hv : ∀ k j, 1 ≤ k → k ≤ t.length → 1 ≤ j → j ≤ h.length → valueI (t.drop (t.length - k) ++ h.take j) = if K = k ∧ E = k + j then (V : Int) else -1)
    (v1 v2 v3 v4 w1 w2 w3 w4 : Value) (x1 x2 : List UInt8) (R0 U0 N0 : Nat) (hR0 : R0 = if K ≠ 0 then E - 1 else 0) (hU0 : U0 = if K ≠ 0 then E - uOf V else 0) (hN0 : N0 = if t.getLast?.map UInt8.toNat = some 13 ∧ h.head? = some 10 then 1 else 0) (w : World) (hi : Imm M w) :
    Calls Tryd.prog 135 #[.agg #[v1, v2, v3, v4, .string (sOf x1), .string (sOf t)], .agg #[w1, w2, w3, w4, .string (sOf h), .string (sOf x2)]] w
      fun e w' => e = .returned (.agg #[.int .i64 0, .int .i64 R0, .int .i64 U0, .int .i64 N0]) ∧ Below w.heap.size w w' := by
  have HG := Lib.hid hG; clear hG
  have HV := Lib.hid hv; clear hv
  have HR0 := Lib.hid hR0; clear hR0
  have HU0 := Lib.hid hU0; clear hU0
  have HN0 := Lib.hid hN0; clear hN0
  have HK := Lib.hid hK; clear hK
  (have HS := St.start hi; go_enter Tryd.func135, Tryd.ntmps135)
  go_wp2_with (first | ((with_reducible refine' q_alloc ?_); refine' a_alloc HS ?_; clear HS; intro b_ w_ HS) | ((with_reducible refine' q_box ?_); refine' a_box HS ?_; clear HS; intro b_ w_ HS) | ((with_reducible refine' q_load ?_); refine' a_load HS ?_) | ((with_reducible refine' q_store ?_); refine' a_store HS ?_; clear HS; intro w_ HS))
  rename_i b2 _ b3 _ b4 _ _ _
  have hbase := HS.base
  refine wp_loop_st (σ := Nat) (fun k a wr => 1 ≤ k ∧ k ≤ t.length + 1 ∧ (∃ g0 g1 g7 g8 g9 g10 g11 g12 g13 g14 g15 g16 g17 g18 g19 g20 g21 g22 g23 g24 g25 g26 g27 g28 g29 g30 g31 g32 g33 g34 g35 g36 g37 g38 g39 g40 g41 g42 g43 g44 g45 g46 g47 g48 g49 g50 g51 g52 g53 g54 g55 g56 g57 g58 g59 g60 g61 g62 g63 g64 g65 g66 g67 g68 : Value, a = { tmps := #[g0, g1, .pointer (some ⟨b2, 0, none⟩), .pointer (some ⟨b3, 0, none⟩), .pointer (some ⟨b4, 0, none⟩), .pointer (some ⟨b_, 0, none⟩), .int .i64 k, g7, g8, g9, g10, g11, g12, g13, g14, g15, g16, g17, g18, g19, g20, g21, g22, g23, g24, g25, g26, g27, g28, g29, g30, g31, g32, g33, g34, g35, g36, g37, g38, g39, g40, g41, g42, g43, g44, g45, g46, g47, g48, g49, g50, g51, g52, g53, g54, g55, g56, g57, g58, g59, g60, g61, g62, g63, g64, g65, g66, g67, g68], defers := [] }) ∧
    St (fun k => w.heap.size ≤ k) w wr M [(b_, .cells [.int .i64 0, .int .i64 (seamA K E V k 1).1, .int .i64 (seamA K E V k 1).2, .int .i64 0].toArray 85 (0, 0)),
      (b4, .cells [.int .i64 0, .int .i64 0, .int .i64 0, .int .i64 0].toArray 85 (0, 0)),
      (b3, .cells [w1, w2, w3, w4, .string (sOf h), .string (sOf x2)].toArray 87 (0, 0)), (b2, .cells [v1, v2, v3, v4, .string (sOf x1), .string (sOf t)].toArray 87 (0, 0))]) (fun k => t.length + 1 - k) 1
    ⟨Nat.le_refl _, by omega, ⟨_, _, _, _, _, _, _, _, _, _, _, _, _, _, _, _, _, _, _, _, _, _, _, _, _, _, _, _, _, _, _, _, _, _, _, _, _, _, _, _, _, _, _, _, _, _, _, _, _, _, _, _, _, _, _, _, _, _, _, _, _, _, _, _, rfl⟩, ?start⟩ ?_
  case start =>
    have : seamA K E V 1 1 = (0, 0) := by
      have := HK.out
      unfold seamA; rw [if_neg]; omega
    rw [this]; exact HS
  clear HS hbase
  rintro k a w_ ⟨hk1, hk2, ⟨g0, g1, g7, g8, g9, g10, g11, g12, g13, g14, g15, g16, g17, g18, g19, g20, g21, g22, g23, g24, g25, g26, g27, g28, g29, g30, g31, g32, g33, g34, g35, g36, g37, g38, g39, g40, g41, g42, g43, g44, g45, g46, g47, g48, g49, g50, g51, g52, g53, g54, g55, g56, g57, g58, g59, g60, g61, g62, g63, g64, g65, g66, g67, g68, rfl⟩, HS⟩
  by_cases hk : (k : Int) ≤ t.length
  · go_wp2_with (first | ((with_reducible refine' q_alloc ?_); refine' a_alloc HS ?_; clear HS; intro b_ w_ HS) | ((with_reducible refine' q_box ?_); refine' a_box HS ?_; clear HS; intro b_ w_ HS) | ((with_reducible refine' q_load ?_); refine' a_load HS ?_) | ((with_reducible refine' q_store ?_); refine' a_store HS ?_; clear HS; intro w_ HS))
    refine wp_loop_st (σ := Nat) (fun j a wr => 1 ≤ j ∧ j ≤ h.length + 1 ∧ (∃ g0 g1 g8 g9 g10 g11 g12 g13 g14 g15 g16 g17 g18 g19 g20 g21 g22 g23 g24 g25 g26 g27 g28 g29 g30 g31 g32 g33 g34 g35 g36 g37 g38 g39 g40 g41 g42 g43 g44 g45 g46 g47 g48 g49 g50 g51 g52 g53 g54 g55 g56 g57 g58 g59 g60 g61 g62 g63 g64 g65 g66 g67 g68 : Value, a = { tmps := #[g0, g1, .pointer (some ⟨b2, 0, none⟩), .pointer (some ⟨b3, 0, none⟩), .pointer (some ⟨b4, 0, none⟩), .pointer (some ⟨b_, 0, none⟩), .int .i64 k, .int .i64 j, g8, g9, g10, g11, g12, g13, g14, g15, g16, g17, g18, g19, g20, g21, g22, g23, g24, g25, g26, g27, g28, g29, g30, g31, g32, g33, g34, g35, g36, g37, g38, g39, g40, g41, g42, g43, g44, g45, g46, g47, g48, g49, g50, g51, g52, g53, g54, g55, g56, g57, g58, g59, g60, g61, g62, g63, g64, g65, g66, g67, g68], defers := [] }) ∧
      St (fun k => w.heap.size ≤ k) w wr M [(b_, .cells [.int .i64 0, .int .i64 (seamA K E V k j).1, .int .i64 (seamA K E V k j).2, .int .i64 0].toArray 85 (0, 0)),
      (b4, .cells [.int .i64 0, .int .i64 0, .int .i64 0, .int .i64 0].toArray 85 (0, 0)),
      (b3, .cells [w1, w2, w3, w4, .string (sOf h), .string (sOf x2)].toArray 87 (0, 0)), (b2, .cells [v1, v2, v3, v4, .string (sOf x1), .string (sOf t)].toArray 87 (0, 0))]) (fun j => h.length + 1 - j) 1
      ⟨Nat.le_refl _, by omega, ⟨_, _, _, _, _, _, _, _, _, _, _, _, _, _, _, _, _, _, _, _, _, _, _, _, _, _, _, _, _, _, _, _, _, _, _, _, _, _, _, _, _, _, _, _, _, _, _, _, _, _, _, _, _, _, _, _, _, _, _, _, _, _, _, rfl⟩, HS⟩ ?_
    clear HS
    rintro j a w_ ⟨hj1, hj2, ⟨g0, g1, g8, g9, g10, g11, g12, g13, g14, g15, g16, g17, g18, g19, g20, g21, g22, g23, g24, g25, g26, g27, g28, g29, g30, g31, g32, g33, g34, g35, g36, g37, g38, g39, g40, g41, g42, g43, g44, g45, g46, g47, g48, g49, g50, g51, g52, g53, g54, g55, g56, g57, g58, g59, g60, g61, g62, g63, g64, g65, g66, g67, g68, rfl⟩, HS⟩
    by_cases hj : (j : Int) ≤ h.length
    · have hk' : (1 : Int) ≤ k := by omega
      have hj' : (1 : Int) ≤ j := by omega
      have ht' : (t.length : Int) ≤ 3 := by omega
      have hh' : (h.length : Int) ≤ 3 := by omega
      have hcat : ¬ (9223372036854775807 < t.length - (t.length - k) + min j h.length) := by omega
      have hval := HV.out k j hk1 (by omega) hj1 (by omega)
      by_cases hc : K = k ∧ E = k + j
      · rw [if_pos hc] at hval
        have HVL := Lib.hid hval; clear hval
        go_wp2_with (first | ((with_reducible refine' q_alloc ?_); refine' a_alloc HS ?_; clear HS; intro b_ w_ HS) | ((with_reducible refine' q_box ?_); refine' a_box HS ?_; clear HS; intro b_ w_ HS) | ((with_reducible refine' q_load ?_); refine' a_load HS ?_) | ((with_reducible refine' q_store ?_); refine' a_store HS ?_; clear HS; intro w_ HS))
        refine wp_region_plan [] [(true, 0), (true, 1), (true, 2), (true, 3), (true, 4), (true, 5), (true, 6), (true, 7), (true, 8), (true, 9), (true, 10), (true, 11), (true, 12), (false, 13), (false, 14), (true, 15)] (fun W_ => St _ _ W_ _ _) (by kernel_rfl) (by kernel_rfl) rfl (by kernel_rfl) (HS).drew ?_
        have HS_ := HS.drew; clear HS; have HS := HS_; clear HS_
        refine' a_dSoft rfl ?_
        (try simp only [Act.put, List.setIfInBounds_toArray, List.set_cons_zero, List.set_cons_succ])
        (first | refine' a_dLoad rfl (fun w_ hw_ => hw_) ?_ | refine' a_dLoadC rfl (fun w_ hw_ => hw_) ?_)
        (try simp only [Act.put, List.setIfInBounds_toArray, List.set_cons_zero, List.set_cons_succ])
        refine' a_dSoft rfl ?_
        (try simp only [Act.put, List.setIfInBounds_toArray, List.set_cons_zero, List.set_cons_succ])
        (first | refine' a_dLoad rfl (fun w_ hw_ => hw_) ?_ | refine' a_dLoadC rfl (fun w_ hw_ => hw_) ?_)
        (try simp only [Act.put, List.setIfInBounds_toArray, List.set_cons_zero, List.set_cons_succ])
        refine' a_dSoft rfl ?_
        (try simp only [Act.put, List.setIfInBounds_toArray, List.set_cons_zero, List.set_cons_succ])
        refine' a_dSoft rfl ?_
        (try simp only [Act.put, List.setIfInBounds_toArray, List.set_cons_zero, List.set_cons_succ])
        (refine' dSub Tryd.underlying3 rfl ?hw ?hx ?hy ?hb ?_; (case hw => first | rfl | go_simp); (case hx => first | exact eval_lit rfl | rfl); (case hy => rfl); (case hb => first | omega | (simp; omega)))
        (try simp only [Act.put, List.setIfInBounds_toArray, List.set_cons_zero, List.set_cons_succ])
        (refine' dSliceS (t.length - k ) ( t.length) rfl ?hw Tryd.underlying9 ?hx ?hij ?_; (case hw => first | rfl | go_simp); (case hx => first | exact eval_lit rfl | rfl); (case hij => first | exact ⟨rfl, rfl, by omega, by omega⟩ | (refine ⟨?_, ?_, by omega, by omega⟩ <;> first | rfl | (refine congrArg (Value.int IntKind.i64) ?_; (repeat' split) <;> omega) | (simp; done) | (simp; omega))))
        (try simp only [Act.put, List.setIfInBounds_toArray, List.set_cons_zero, List.set_cons_succ])
        refine' a_dSoft rfl ?_
        (try simp only [Act.put, List.setIfInBounds_toArray, List.set_cons_zero, List.set_cons_succ])
        (first | refine' a_dLoad rfl (fun w_ hw_ => hw_) ?_ | refine' a_dLoadC rfl (fun w_ hw_ => hw_) ?_)
        (try simp only [Act.put, List.setIfInBounds_toArray, List.set_cons_zero, List.set_cons_succ])
        refine' a_dSoft rfl ?_
        (try simp only [Act.put, List.setIfInBounds_toArray, List.set_cons_zero, List.set_cons_succ])
        (refine' dSliceS (0 ) ( j) rfl ?hw Tryd.underlying9 ?hx ?hij ?_; (case hw => first | rfl | go_simp); (case hx => first | exact eval_lit rfl | rfl); (case hij => first | exact ⟨rfl, rfl, by omega, by omega⟩ | (refine ⟨?_, ?_, by omega, by omega⟩ <;> first | rfl | (refine congrArg (Value.int IntKind.i64) ?_; (repeat' split) <;> omega) | (simp; done) | (simp; omega))))
        (try simp only [Act.put, List.setIfInBounds_toArray, List.set_cons_zero, List.set_cons_succ])
        refine' a_dSoft rfl ?_
        (try simp only [Act.put, List.setIfInBounds_toArray, List.set_cons_zero, List.set_cons_succ])
        refine dHard rfl ?_
        ((with_reducible refine' st_conv_sb (S := 9) (D := 28) (e := 5) ?hw Tryd.underlying9 Tryd.underlying28 Tryd.underlying5 HS ?hx ?_); (case hw => rfl); (case hx => first | exact eval_lit rfl | rfl); intro M_ b_ c_ w_ hle_ hfr_ HS_ hsz_ hbs_; clear HS; have HS := HS_; clear HS_)
        refine lexD_done (fun _ => HS.less hle_) ?_
        (try simp only [Act.put, List.setIfInBounds_toArray, List.set_cons_zero, List.set_cons_succ])
        refine dHard rfl ?_
        refine' st_call ?hw Tryd.func141 (by kernel_rfl) rfl ?hargs (Value_any M_ (HG.out.mono hle_) _ _ _ hbs_ _ HS.imm) ?_
        case hw => rfl
        case hargs => first | rfl | (go_simp; done)
        rintro e w_ ⟨rfl, hb_⟩
        (have HS_ := HS.call hb_; clear HS hb_; have HS := HS_; clear HS_)
        refine ⟨_, rfl, ?_⟩
        refine lexD_done (fun _ => HS.less hle_) ?_
        (try simp only [Act.put, List.setIfInBounds_toArray, List.set_cons_zero, List.set_cons_succ])
        refine' a_dSoft rfl ?_
        (try simp only [Act.put, List.setIfInBounds_toArray, List.set_cons_zero, List.set_cons_succ])
        refine lexD_end ?_
        have HS_ := HS.less hle_; clear HS; have HS := HS_; clear HS_
        have hval := HVL.out
        have hu2 : uOf V ≤ 2 := by unfold uOf; split <;> omega
        have hu3 : 1 ≤ uOf V := by unfold uOf; split <;> omega
        have hV0 : (0 : Int) ≤ V := by omega
        have HC := Lib.hid hc; clear hc
        go_wp2_with (first | ((with_reducible refine' q_alloc ?_); refine' a_alloc HS ?_; clear HS; intro b_ w_ HS) | ((with_reducible refine' q_box ?_); refine' a_box HS ?_; clear HS; intro b_ w_ HS) | ((with_reducible refine' q_load ?_); refine' a_load HS ?_) | ((with_reducible refine' q_store ?_); refine' a_store HS ?_; clear HS; intro w_ HS) | (go_at_call 125; (with_reducible refine (units_any V hV _).mono ?_); rintro e w_ ⟨rfl, rfl⟩))
        have e1 := seamA_hit (V := V) HC.out hk1
        refine ⟨j + 1, ⟨by omega, by omega, ?hact, ?_⟩, by omega⟩
        case hact => first | exact ⟨_, _, _, _, _, _, _, _, _, _, _, _, _, _, _, _, _, _, _, _, _, _, _, _, _, _, _, _, _, _, _, _, _, _, _, _, _, _, _, _, _, _, _, _, _, _, _, _, _, _, _, _, _, _, _, _, _, _, _, _, _, _, _, rfl⟩ | omega
        have hc := HC.out
        have e2 : ((E - 1 : Nat) : Int) = k + j - 1 := by omega
        have e3 : ((E - uOf V : Nat) : Int) = k + j - uOf V := by omega
        rw [e1]
        simp only [e2, e3]
        exact HS
      · rw [if_neg hc] at hval
        have HVL := Lib.hid hval; clear hval
        have HC := Lib.hid hc; clear hc
        go_wp2_with (first | ((with_reducible refine' q_alloc ?_); refine' a_alloc HS ?_; clear HS; intro b_ w_ HS) | ((with_reducible refine' q_box ?_); refine' a_box HS ?_; clear HS; intro b_ w_ HS) | ((with_reducible refine' q_load ?_); refine' a_load HS ?_) | ((with_reducible refine' q_store ?_); refine' a_store HS ?_; clear HS; intro w_ HS))
        refine wp_region_plan [] [(true, 0), (true, 1), (true, 2), (true, 3), (true, 4), (true, 5), (true, 6), (true, 7), (true, 8), (true, 9), (true, 10), (true, 11), (true, 12), (false, 13), (false, 14), (true, 15)] (fun W_ => St _ _ W_ _ _) (by kernel_rfl) (by kernel_rfl) rfl (by kernel_rfl) (HS).drew ?_
        have HS_ := HS.drew; clear HS; have HS := HS_; clear HS_
        refine' a_dSoft rfl ?_
        (try simp only [Act.put, List.setIfInBounds_toArray, List.set_cons_zero, List.set_cons_succ])
        (first | refine' a_dLoad rfl (fun w_ hw_ => hw_) ?_ | refine' a_dLoadC rfl (fun w_ hw_ => hw_) ?_)
        (try simp only [Act.put, List.setIfInBounds_toArray, List.set_cons_zero, List.set_cons_succ])
        refine' a_dSoft rfl ?_
        (try simp only [Act.put, List.setIfInBounds_toArray, List.set_cons_zero, List.set_cons_succ])
        (first | refine' a_dLoad rfl (fun w_ hw_ => hw_) ?_ | refine' a_dLoadC rfl (fun w_ hw_ => hw_) ?_)
        (try simp only [Act.put, List.setIfInBounds_toArray, List.set_cons_zero, List.set_cons_succ])
        refine' a_dSoft rfl ?_
        (try simp only [Act.put, List.setIfInBounds_toArray, List.set_cons_zero, List.set_cons_succ])
        refine' a_dSoft rfl ?_
        (try simp only [Act.put, List.setIfInBounds_toArray, List.set_cons_zero, List.set_cons_succ])
        (refine' dSub Tryd.underlying3 rfl ?hw ?hx ?hy ?hb ?_; (case hw => first | rfl | go_simp); (case hx => first | exact eval_lit rfl | rfl); (case hy => rfl); (case hb => first | omega | (simp; omega)))
        (try simp only [Act.put, List.setIfInBounds_toArray, List.set_cons_zero, List.set_cons_succ])
        (refine' dSliceS (t.length - k ) ( t.length) rfl ?hw Tryd.underlying9 ?hx ?hij ?_; (case hw => first | rfl | go_simp); (case hx => first | exact eval_lit rfl | rfl); (case hij => first | exact ⟨rfl, rfl, by omega, by omega⟩ | (refine ⟨?_, ?_, by omega, by omega⟩ <;> first | rfl | (refine congrArg (Value.int IntKind.i64) ?_; (repeat' split) <;> omega) | (simp; done) | (simp; omega))))
        (try simp only [Act.put, List.setIfInBounds_toArray, List.set_cons_zero, List.set_cons_succ])
        refine' a_dSoft rfl ?_
        (try simp only [Act.put, List.setIfInBounds_toArray, List.set_cons_zero, List.set_cons_succ])
        (first | refine' a_dLoad rfl (fun w_ hw_ => hw_) ?_ | refine' a_dLoadC rfl (fun w_ hw_ => hw_) ?_)
        (try simp only [Act.put, List.setIfInBounds_toArray, List.set_cons_zero, List.set_cons_succ])
        refine' a_dSoft rfl ?_
        (try simp only [Act.put, List.setIfInBounds_toArray, List.set_cons_zero, List.set_cons_succ])
        (refine' dSliceS (0 ) ( j) rfl ?hw Tryd.underlying9 ?hx ?hij ?_; (case hw => first | rfl | go_simp); (case hx => first | exact eval_lit rfl | rfl); (case hij => first | exact ⟨rfl, rfl, by omega, by omega⟩ | (refine ⟨?_, ?_, by omega, by omega⟩ <;> first | rfl | (refine congrArg (Value.int IntKind.i64) ?_; (repeat' split) <;> omega) | (simp; done) | (simp; omega))))
        (try simp only [Act.put, List.setIfInBounds_toArray, List.set_cons_zero, List.set_cons_succ])
        refine' a_dSoft rfl ?_
        (try simp only [Act.put, List.setIfInBounds_toArray, List.set_cons_zero, List.set_cons_succ])
        refine dHard rfl ?_
        ((with_reducible refine' st_conv_sb (S := 9) (D := 28) (e := 5) ?hw Tryd.underlying9 Tryd.underlying28 Tryd.underlying5 HS ?hx ?_); (case hw => rfl); (case hx => first | exact eval_lit rfl | rfl); intro M_ b_ c_ w_ hle_ hfr_ HS_ hsz_ hbs_; clear HS; have HS := HS_; clear HS_)
        refine lexD_done (fun _ => HS.less hle_) ?_
        (try simp only [Act.put, List.setIfInBounds_toArray, List.set_cons_zero, List.set_cons_succ])
        refine dHard rfl ?_
        refine' st_call ?hw Tryd.func141 (by kernel_rfl) rfl ?hargs (Value_any M_ (HG.out.mono hle_) _ _ _ hbs_ _ HS.imm) ?_
        case hw => rfl
        case hargs => first | rfl | (go_simp; done)
        rintro e w_ ⟨rfl, hb_⟩
        (have HS_ := HS.call hb_; clear HS hb_; have HS := HS_; clear HS_)
        refine ⟨_, rfl, ?_⟩
        refine lexD_done (fun _ => HS.less hle_) ?_
        (try simp only [Act.put, List.setIfInBounds_toArray, List.set_cons_zero, List.set_cons_succ])
        refine' a_dSoft rfl ?_
        (try simp only [Act.put, List.setIfInBounds_toArray, List.set_cons_zero, List.set_cons_succ])
        refine lexD_end ?_
        have HS_ := HS.less hle_; clear HS; have HS := HS_; clear HS_
        have hval := HVL.out
        go_wp2_with (first | ((with_reducible refine' q_alloc ?_); refine' a_alloc HS ?_; clear HS; intro b_ w_ HS) | ((with_reducible refine' q_box ?_); refine' a_box HS ?_; clear HS; intro b_ w_ HS) | ((with_reducible refine' q_load ?_); refine' a_load HS ?_) | ((with_reducible refine' q_store ?_); refine' a_store HS ?_; clear HS; intro w_ HS))
        refine ⟨j + 1, ⟨by omega, by omega, ?hact, ?_⟩, by omega⟩
        case hact => first | exact ⟨_, _, _, _, _, _, _, _, _, _, _, _, _, _, _, _, _, _, _, _, _, _, _, _, _, _, _, _, _, _, _, _, _, _, _, _, _, _, _, _, _, _, _, _, _, _, _, _, _, _, _, _, _, _, _, _, _, _, _, _, _, _, _, rfl⟩ | omega
        rw [seamA_miss HC.out]
        exact HS
    · go_wp2_with (first | ((with_reducible refine' q_alloc ?_); refine' a_alloc HS ?_; clear HS; intro b_ w_ HS) | ((with_reducible refine' q_box ?_); refine' a_box HS ?_; clear HS; intro b_ w_ HS) | ((with_reducible refine' q_load ?_); refine' a_load HS ?_) | ((with_reducible refine' q_store ?_); refine' a_store HS ?_; clear HS; intro w_ HS))
      have hK := HK.out
      refine ⟨k + 1, ⟨by omega, by omega, ?hact, ?_⟩, by omega⟩
      case hact => first | exact ⟨_, _, _, _, _, _, _, _, _, _, _, _, _, _, _, _, _, _, _, _, _, _, _, _, _, _, _, _, _, _, _, _, _, _, _, _, _, _, _, _, _, _, _, _, _, _, _, _, _, _, _, _, _, _, _, _, _, _, _, _, _, _, _, _, rfl⟩ | omega
      have e0 : j = h.length + 1 := by omega
      rw [e0, seamA_row (by omega) (by omega)] at HS
      exact HS
  · have e0 : k = t.length + 1 := by omega
    have e1 : seamA K E V k 1 = (R0, U0) := by
      have hK := HK.out
      rw [HR0.out, HU0.out]
      unfold seamA
      by_cases h : K ≠ 0
      · rw [if_pos (by omega), if_pos h, if_pos h]
      · rw [if_neg (by omega), if_neg h, if_neg h]
    rw [e1] at HS
    clear e1 e0
    have ht' : (t.length : Int) ≤ 268435456 := by omega
    have hT : ∀ w, Calls Tryd.prog 142 #[.string (sOf t), .int .u8 13] w fun e w' => e = .returned (.bool (decide (t.getLast?.map UInt8.toNat = some 13))) ∧ w' = w := fun w => tailIs_any t 13 (by omega) ht' w
    have hh' : (h.length : Int) ≤ 3 := by omega
    by_cases hA : t.getLast?.map UInt8.toNat = some 13
    · rw [decide_eq_true hA] at hT
      have HT := Lib.hid hT; clear hT
      have HA := Lib.hid hA; clear hA
      by_cases hB : (0 : Int) < h.length
      · have hb0 : h.head? = some 10 ↔ byt h 0 = 10 := by
          cases h with
          | nil => simp at hB
          | cons x t => rw [byt_cons, List.head?_cons, Option.some.injEq, ← UInt8.toNat_inj]; rfl
        have HB0 := Lib.hid hb0; clear hb0
        by_cases hC : byt h 0 = 10
        · have HC := Lib.hid hC
          have hC' : ((byt h 0 : Int) == 10) = true := by simp; omega
          clear hC
          go_wp2_with (first | ((with_reducible refine' q_alloc ?_); refine' a_alloc HS ?_; clear HS; intro b_ w_ HS) | ((with_reducible refine' q_box ?_); refine' a_box HS ?_; clear HS; intro b_ w_ HS) | ((with_reducible refine' q_load ?_); refine' a_load HS ?_) | ((with_reducible refine' q_store ?_); refine' a_store HS ?_; clear HS; intro w_ HS) | ((with_reducible refine' st_index_str (T := 9) ?hw Tryd.underlying9 ?hx ?hi ?hj ?_); (case hw => rfl); (case hx => first | exact eval_lit rfl | rfl); (case hi => first | exact eval_lit rfl | rfl); (case hj => omega)) | (go_at_call 142; (with_reducible refine (HT.out _).mono ?_); rintro e w_ ⟨rfl, rfl⟩))
          (refine post_cell (p := 4) (T := 85) rfl HS rfl rfl (by (first | (apply Blk.loc; (repeat (first | (with_reducible exact List.mem_cons_self) | apply List.mem_cons_of_mem)); done) | (apply Blk.imm; with_reducible assumption))) (by exact Eq.refl true) ?_)
          exact ⟨by rw [HN0.out, if_pos ⟨HA.out, HB0.out.2 HC.out⟩] <;> rfl, HS.below⟩
        · have HC := Lib.hid hC
          have hC' : ((byt h 0 : Int) == 10) = false := by simp; omega
          clear hC
          go_wp2_with (first | ((with_reducible refine' q_alloc ?_); refine' a_alloc HS ?_; clear HS; intro b_ w_ HS) | ((with_reducible refine' q_box ?_); refine' a_box HS ?_; clear HS; intro b_ w_ HS) | ((with_reducible refine' q_load ?_); refine' a_load HS ?_) | ((with_reducible refine' q_store ?_); refine' a_store HS ?_; clear HS; intro w_ HS) | ((with_reducible refine' st_index_str (T := 9) ?hw Tryd.underlying9 ?hx ?hi ?hj ?_); (case hw => rfl); (case hx => first | exact eval_lit rfl | rfl); (case hi => first | exact eval_lit rfl | rfl); (case hj => omega)) | (go_at_call 142; (with_reducible refine (HT.out _).mono ?_); rintro e w_ ⟨rfl, rfl⟩))
          (refine post_cell (p := 4) (T := 85) rfl HS rfl rfl (by (first | (apply Blk.loc; (repeat (first | (with_reducible exact List.mem_cons_self) | apply List.mem_cons_of_mem)); done) | (apply Blk.imm; with_reducible assumption))) (by exact Eq.refl true) ?_)
          exact ⟨by rw [HN0.out, if_neg (fun hh => HC.out (HB0.out.1 hh.2))] <;> rfl, HS.below⟩
      · have hb0 : h = [] := List.length_eq_zero_iff.1 (by omega)
        have HB0 := Lib.hid hb0; clear hb0
        go_wp2_with (first | ((with_reducible refine' q_alloc ?_); refine' a_alloc HS ?_; clear HS; intro b_ w_ HS) | ((with_reducible refine' q_box ?_); refine' a_box HS ?_; clear HS; intro b_ w_ HS) | ((with_reducible refine' q_load ?_); refine' a_load HS ?_) | ((with_reducible refine' q_store ?_); refine' a_store HS ?_; clear HS; intro w_ HS) | ((with_reducible refine' st_index_str (T := 9) ?hw Tryd.underlying9 ?hx ?hi ?hj ?_); (case hw => rfl); (case hx => first | exact eval_lit rfl | rfl); (case hi => first | exact eval_lit rfl | rfl); (case hj => omega)) | (go_at_call 142; (with_reducible refine (HT.out _).mono ?_); rintro e w_ ⟨rfl, rfl⟩))
        (refine post_cell (p := 4) (T := 85) rfl HS rfl rfl (by (first | (apply Blk.loc; (repeat (first | (with_reducible exact List.mem_cons_self) | apply List.mem_cons_of_mem)); done) | (apply Blk.imm; with_reducible assumption))) (by exact Eq.refl true) ?_)
        exact ⟨by rw [HN0.out, if_neg (fun hh => by rw [HB0.out] at hh; simp at hh)] <;> rfl, HS.below⟩
    · rw [decide_eq_false hA] at hT
      have HT := Lib.hid hT; clear hT
      have HA := Lib.hid hA; clear hA
      go_wp2_with (first | ((with_reducible refine' q_alloc ?_); refine' a_alloc HS ?_; clear HS; intro b_ w_ HS) | ((with_reducible refine' q_box ?_); refine' a_box HS ?_; clear HS; intro b_ w_ HS) | ((with_reducible refine' q_load ?_); refine' a_load HS ?_) | ((with_reducible refine' q_store ?_); refine' a_store HS ?_; clear HS; intro w_ HS) | ((with_reducible refine' st_index_str (T := 9) ?hw Tryd.underlying9 ?hx ?hi ?hj ?_); (case hw => rfl); (case hx => first | exact eval_lit rfl | rfl); (case hi => first | exact eval_lit rfl | rfl); (case hj => omega)) | (go_at_call 142; (with_reducible refine (HT.out _).mono ?_); rintro e w_ ⟨rfl, rfl⟩))
      (refine post_cell (p := 4) (T := 85) rfl HS rfl rfl (by (first | (apply Blk.loc; (repeat (first | (with_reducible exact List.mem_cons_self) | apply List.mem_cons_of_mem)); done) | (apply Blk.imm; with_reducible assumption))) (by exact Eq.refl true) ?_)
      exact ⟨by rw [HN0.out, if_neg (fun hh => HA.out hh.1)] <;> rfl, HS.below⟩
end Go.Proofs.YtbogoehjoglneaaDoor
