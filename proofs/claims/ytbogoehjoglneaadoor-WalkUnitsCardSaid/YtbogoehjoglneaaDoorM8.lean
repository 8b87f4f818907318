/- seek.first, around, floor. -/
import Derived.Test.YtbogoehjoglneaaDoorM7
set_option linter.unusedVariables false
set_option linter.unusedSimpArgs false
set_option linter.unnecessarySimpa false
set_option linter.unusedSectionVars false
namespace Go.Proofs.YtbogoehjoglneaaDoor
open Go.RowKit
set_option linter.unusedVariables false
set_option linter.unusedSimpArgs false
set_option maxRecDepth 100000
attribute [local go_sem] byt_drop byt_tail Int.toNat_natCast sOf_size

theorem inside_none {l : List UInt8} {p : Nat} (h : ∀ j, 1 ≤ j → j ≤ 3 → j ≤ p → ¬ (j < enc (l.drop (p - j)))) : inside l p = 0 := by
  unfold inside
  rw [if_neg (fun ⟨a, b⟩ => h 1 (by omega) (by omega) a b), if_neg (fun ⟨a, b⟩ => h 2 (by omega) (by omega) a b), if_neg (fun ⟨a, b⟩ => h 3 (by omega) (by omega) a b)]
theorem around_part {l : List UInt8} {lo hi q : Nat} (h1 : lo ≤ q) (h2 : q ≤ hi) (h3 : hi ≤ l.length) : (((l.take hi).drop lo).take (hi - lo)).drop (q - lo) = (l.take hi).drop q := by
  rw [List.take_of_length_le (by rw [List.length_drop, List.length_take]; omega), List.drop_drop, show lo + (q - lo) = q from by omega]

theorem sfirst_any (M : Mem) (hG : Gl M) (A : Option Addr) (c n : Nat) (l : List UInt8) (hb : BS M A c l) (hn : n = l.length) (h0 : l ≠ []) (hm : (l.length : Int) ≤ 268435456) (w : World) (hi : Imm M w) :
    Calls Tryd.prog 69 #[.slice A n c] w fun e w' => e = .returned (stV (stp l)) ∧ Below w.heap.size w w' := by
  subst hn
  have hF : ∀ w, Imm M w → Calls Tryd.prog 98 #[.slice A l.length c, .int .i64 0] w fun e w' => e = .returned (.tuple #[stV (stp l), .int .i64 0]) ∧ Below w.heap.size w w' := fun w hi => by
    have := At_in M hG A c l hb 0 (by omega) (by have := List.length_pos_iff.2 h0; omega) (by omega) w hi
    simpa [inside_at_zero] using this
  have HF := Lib.hid hF
  clear hF hG hb
  (have HS := St.start hi; go_enter Tryd.func69, Tryd.ntmps69)
  go_wp2_with (first | ((with_reducible refine' q_alloc ?_); refine' a_alloc HS ?_; clear HS; intro b_ w_ HS) | ((with_reducible refine' q_box ?_); refine' a_box HS ?_; clear HS; intro b_ w_ HS) | ((with_reducible refine' q_load ?_); refine' a_load HS ?_) | ((with_reducible refine' q_store ?_); refine' a_store HS ?_; clear HS; intro w_ HS) | (go_at_call 98; (with_reducible refine (HF.out _ HS.imm).mono ?_); rintro e w_ ⟨rfl, hb_⟩; have HS_ := HS.call hb_; clear HS hb_; have HS := HS_; clear HS_))
  (refine post_cell (p := 2) (T := 43) rfl HS rfl rfl (by (first | (apply Blk.loc; (repeat (first | (with_reducible exact List.mem_cons_self) | apply List.mem_cons_of_mem)); done) | (apply Blk.imm; with_reducible assumption))) (by exact Eq.refl true) ?_)
  exact ⟨rfl, HS.below⟩

set_option maxHeartbeats 1000000 in
theorem around_any (M : Mem) (r : Nat) (l : List UInt8) (hr : RopeAt M r l) (p : Nat) (hp : p ≤ l.length) (w : World) (hi : Imm M w) :
    Calls Tryd.prog 68 #[ptr r, .int .i64 p] w fun e w' => ∃ A c M' lo hi, lo = p - 6 ∧ hi = min l.length (p + 6) ∧ e = .returned (.tuple #[.slice A (hi - lo : Nat) c, .int .i64 lo]) ∧ Grew M M' w w' ∧ BS M' A c ((l.take hi).drop lo) := by
  have HR := Lib.hid hr
  have hm := hr.small
  clear hr
  obtain ⟨lo, hlo⟩ : ∃ lo, lo = p - 6 := ⟨_, rfl⟩
  obtain ⟨h9, hh⟩ : ∃ h9, h9 = min l.length (p + 6) := ⟨_, rfl⟩
  have hB := fun w hi => RBytes_any M r l HR.out lo h9 (by omega) (by omega) w hi
  have HLO := Lib.hid hlo
  have HH := Lib.hid hh
  have fin : ∀ (e : Ending) (w' : World), (∃ A c M', e = .returned (.tuple #[.slice A (h9 - lo : Nat) c, .int .i64 lo]) ∧ Grew M M' w w' ∧ BS M' A c ((l.take h9).drop lo)) → ∃ A c M' lo hi, lo = p - 6 ∧ hi = min l.length (p + 6) ∧ e = .returned (.tuple #[.slice A (hi - lo : Nat) c, .int .i64 lo]) ∧ Grew M M' w w' ∧ BS M' A c ((l.take hi).drop lo) :=
    fun e w' ⟨A, c, M', q1, q2, q3⟩ => ⟨A, c, M', lo, h9, HLO.out, HH.out, q1, q2, q3⟩
  refine Calls.mono ?_ fin
  clear fin
  rcases Nat.lt_trichotomy p 6 with c1 | c1 | c1 <;> rcases Nat.lt_trichotomy (p + 6) l.length with c2 | c2 | c2
  all_goals
    first
      | (have c1' : (p : Int) - 6 < 0 := by omega)
      | (have c1' : (p : Int) - 6 = 0 := by omega)
      | (have c1' : 0 < ((p : Int) - 6) := by omega)
    first
      | (have c2' : (p : Int) + 6 < l.length := by omega)
      | (have c2' : (p : Int) + 6 = l.length := by omega)
      | (have c2' : (l.length : Int) < (p : Int) + 6 := by omega)
    first
      | (have e1 : (lo : Int) = 0 := by omega)
      | (have e1 : (lo : Int) = (p : Int) - 6 := by omega)
    first
      | (have e2 : (h9 : Int) = l.length := by omega)
      | (have e2 : (h9 : Int) = (p : Int) + 6 := by omega)
    clear c1 c2
    rw [e1, e2] at hB
    have HB := Lib.hid hB
    have E1 := Lib.hid e1
    clear hlo hh hB e1 e2
    (have HS := St.start hi; go_enter Tryd.func68, Tryd.ntmps68)
    go_wp2_with (first | ((with_reducible refine' q_alloc ?_); refine' a_alloc HS ?_; clear HS; intro b_ w_ HS) | ((with_reducible refine' q_box ?_); refine' a_box HS ?_; clear HS; intro b_ w_ HS) | ((with_reducible refine' q_load ?_); refine' a_load HS ?_) | ((with_reducible refine' q_store ?_); refine' a_store HS ?_; clear HS; intro w_ HS) | (go_at_call 51; (with_reducible refine (RLen_any M r l HR.out _ HS.imm).mono ?_); rintro e w_ ⟨rfl, hb_⟩; have HS_ := HS.call hb_; clear HS hb_; have HS := HS_; clear HS_) | (go_at_call 50; (with_reducible refine (HB.out _ HS.imm).mono ?_); rintro e w_ ⟨A, c, M1, rfl, hg1, hbs⟩; have hs_hg1 := HS.moved.size; have HS_ := HS.callM hg1.below hg1.fresh hg1.imm; clear HS; have HS := HS_; clear HS_))
    go_ret2
    exact ⟨A, c, M1, by rw [E1.out] <;> rfl, ⟨HS.below, hg1.le, hg1.fresh.less hs_hg1, HS.imm⟩, hbs⟩

set_option maxHeartbeats 4000000 in
theorem sfloor_any (M : Mem) (hG : Gl M) (r : Nat) (l : List UInt8) (hr : RopeAt M r l) (p : Nat) (hp : p ≤ l.length) (w : World) (hi : Imm M w) :
    Calls Tryd.prog 67 #[ptr r, .int .i64 p] w fun e w' => e = .returned (.int .i64 (floorN l p)) ∧ Below w.heap.size w w' := by
  have HG := Lib.hid hG; clear hG
  have HR := Lib.hid hr
  have hm := hr.small
  clear hr
  (have HS := St.start hi; go_enter Tryd.func67, Tryd.ntmps67)
  go_wp2_with (first | ((with_reducible refine' q_alloc ?_); refine' a_alloc HS ?_; clear HS; intro b_ w_ HS) | ((with_reducible refine' q_box ?_); refine' a_box HS ?_; clear HS; intro b_ w_ HS) | ((with_reducible refine' q_load ?_); refine' a_load HS ?_) | ((with_reducible refine' q_store ?_); refine' a_store HS ?_; clear HS; intro w_ HS) | (go_at_call 68; (with_reducible refine (around_any M r l HR.out p hp _ HS.imm).mono ?_); rintro e w_ ⟨A, c, M1, lo, h9, hlo, hh, rfl, hg1, hbs⟩; have HLO := Lib.hid hlo; have HHI := Lib.hid hh; clear hlo hh; have hs_hg1 := HS.moved.size; have HS_ := HS.callM hg1.below hg1.fresh hg1.imm; clear HS; have HS := HS_; clear HS_))
  have hle := hg1.le
  refine wp_loop_st (σ := Nat) (fun k a w1 => (∃ g2 g3 g4 g8 g9 g10 g11 g12 g13 g14 g15 g16 g17 g18 g19 g20 g21 g22 g23 g24 g25 g26 g27 g28 g29 g30 g31 g32 g33 g34 g35 g36 g37 g38 g39 : Value, a = { tmps := #[ptr r, .int .i64 p, g2, g3, g4, .slice A (h9 - lo : Nat) c, .int .i64 lo, .int .i64 k, g8, g9, g10, g11, g12, g13, g14, g15, g16, g17, g18, g19, g20, g21, g22, g23, g24, g25, g26, g27, g28, g29, g30, g31, g32, g33, g34, g35, g36, g37, g38, g39], defers := [] }) ∧ 1 ≤ k ∧ k ≤ 4 ∧ (∀ j, 1 ≤ j → j < k → j ≤ p → ¬ (j < enc (l.drop (p - j)))) ∧
    St (fun k => w.heap.size ≤ k) w w1 M1 []) (fun k => 4 - k) 1
    ⟨⟨_, _, _, _, _, _, _, _, _, _, _, _, _, _, _, _, _, _, _, _, _, _, _, _, _, _, _, _, _, _, _, _, _, _, _, rfl⟩, Nat.le_refl _, by omega, fun j h1 h2 => (by omega), HS⟩ ?_
  clear HS
  rintro k a w1 ⟨⟨g2, g3, g4, g8, g9, g10, g11, g12, g13, g14, g15, g16, g17, g18, g19, g20, g21, g22, g23, g24, g25, g26, g27, g28, g29, g30, g31, g32, g33, g34, g35, g36, g37, g38, g39, rfl⟩, hk1, hk4, hk, HS⟩
  by_cases hc : k ≤ 3 ∧ k ≤ p
  · obtain ⟨hc1, hc2⟩ := hc
    have hlo := HLO.out
    have hh := HHI.out
    have hc1' : (k : Int) ≤ 3 := by omega
    have hc2' : (k : Int) ≤ p := by omega
    obtain ⟨q, hq⟩ : ∃ q, q = p - k := ⟨_, rfl⟩
    have hj : ((q - lo : Nat) : Int) = (p : Int) - k - lo := by omega
    have hx := around_part (l := l) (lo := lo) (hi := h9) (q := q) (by omega) (by omega) (by omega)
    have hst : stp ((l.take h9).drop q) = stp (l.drop q) := stp_take (by omega)
    have hne : (l.take h9).drop q ≠ [] := fun h => by
      have := congrArg List.length h
      rw [List.length_drop, List.length_take] at this
      simp at this; omega
    have hl9 : ((l.take h9).drop q).length = h9 - q := by rw [List.length_drop, List.length_take]; omega
    have hwd := wide_enc (l.drop q) hk1
    have hin := fun h => inside_spec (l := l) hk1 hc2 h
    rw [← hq] at hin
    have hs4 := stp_w (l.drop q)
    obtain ⟨s, hs⟩ : ∃ s, s = stp (l.drop q) := ⟨_, rfl⟩
    rw [← hs] at hwd hs4
    have hF : ∀ (A' : Option Addr) (hb : BS M1 A' (c - (q - lo)) ((((l.take h9).drop lo).take (h9 - lo)).drop (q - lo))) (w : World), Imm M1 w → Calls Tryd.prog 69 #[.slice A' (h9 - lo - (q - lo)) (c - (q - lo))] w fun e w' => e = .returned (stV s) ∧ Below w.heap.size w w' := fun A' hb w hi => by
      have := sfirst_any M1 (HG.out.mono hle) A' (c - (q - lo)) (h9 - lo - (q - lo)) ((l.take h9).drop q) (by rw [← hx]; exact hb) (by rw [hl9]; omega) hne (by rw [hl9]; omega) w hi
      rwa [hst, ← hs] at this
    have HF := Lib.hid hF
    have HWD := Lib.hid hwd
    have HIN := Lib.hid hin
    have HQ := Lib.hid hq
    clear hq
    have hn1 : q - lo ≤ h9 - lo := by omega
    have hhl : h9 ≤ l.length := by omega
    clear hlo hh
    have HS5 := Lib.hid hs
    clear hx hst hne hl9 hin hF hs hwd
    by_cases hw : (k : Int) < s.w
    · go_wp2_with (first | ((with_reducible refine' q_alloc ?_); refine' a_alloc HS ?_; clear HS; intro b_ w_ HS) | ((with_reducible refine' q_box ?_); refine' a_box HS ?_; clear HS; intro b_ w_ HS) | ((with_reducible refine' q_load ?_); refine' a_load HS ?_) | ((with_reducible refine' q_store ?_); refine' a_store HS ?_; clear HS; intro w_ HS) | ((with_reducible refine' st_slice_bs (S := 28) (e := 5) (i := q - lo) (j := h9 - lo) ?hw Tryd.underlying28 (by kernel_rfl) ?hx ?hb ?hn ?hij ?_); (case hw => first | rfl | (go_simp; done)); (case hx => first | exact eval_lit rfl | rfl); (case hb => assumption); (case hn => (first | rfl | omega | (simp; done) | (simp; omega))); (case hij => first | exact ⟨rfl, rfl, by omega, by omega⟩ | (refine ⟨?_, rfl, by omega, by omega⟩; (refine congrArg (Value.int IntKind.i64) ?_; omega))); intro A_ hA_) | (go_at_call 69; (with_reducible refine (HF.out _ hA_ _ HS.imm).mono ?_); rintro e w_ ⟨rfl, hb_⟩; have HS_ := HS.call hb_; clear HS hb_; have HS := HS_; clear HS_))
      go_ret
      have hi9 : inside l p = k := HIN.out (HWD.out.1 (by omega))
      refine ⟨?_, HS.below⟩
      unfold floorN
      rw [hi9]
      refine congrArg (fun x => Ending.returned (Value.int IntKind.i64 x)) ?_
      omega
    · go_wp2_with (first | ((with_reducible refine' q_alloc ?_); refine' a_alloc HS ?_; clear HS; intro b_ w_ HS) | ((with_reducible refine' q_box ?_); refine' a_box HS ?_; clear HS; intro b_ w_ HS) | ((with_reducible refine' q_load ?_); refine' a_load HS ?_) | ((with_reducible refine' q_store ?_); refine' a_store HS ?_; clear HS; intro w_ HS) | ((with_reducible refine' st_slice_bs (S := 28) (e := 5) (i := q - lo) (j := h9 - lo) ?hw Tryd.underlying28 (by kernel_rfl) ?hx ?hb ?hn ?hij ?_); (case hw => first | rfl | (go_simp; done)); (case hx => first | exact eval_lit rfl | rfl); (case hb => assumption); (case hn => (first | rfl | omega | (simp; done) | (simp; omega))); (case hij => first | exact ⟨rfl, rfl, by omega, by omega⟩ | (refine ⟨?_, rfl, by omega, by omega⟩; (refine congrArg (Value.int IntKind.i64) ?_; omega))); intro A_ hA_) | (go_at_call 69; (with_reducible refine (HF.out _ hA_ _ HS.imm).mono ?_); rintro e w_ ⟨rfl, hb_⟩; have HS_ := HS.call hb_; clear HS hb_; have HS := HS_; clear HS_))
      refine ⟨k + 1, ⟨⟨_, _, _, _, _, _, _, _, _, _, _, _, _, _, _, _, _, _, _, _, _, _, _, _, _, _, _, _, _, _, _, _, _, _, _, rfl⟩, by omega, by omega, fun j h1 h2 h3 => ?_, HS.drop⟩, by omega⟩
      by_cases hjk : j = k
      · subst hjk
        intro h
        have := HWD.out.2 (by rw [HQ.out]; exact h)
        omega
      · exact hk j h1 (by omega) h3
  · have h0 : inside l p = 0 := inside_none fun j h1 h2 h3 => hk j h1 (by omega) h3
    have h0' := Lib.hid h0; clear h0
    by_cases hc3 : (k : Int) ≤ 3
    · have hc4 : ¬ ((k : Int) ≤ p) := by omega
      clear hc
      go_wp2_with (first | ((with_reducible refine' q_alloc ?_); refine' a_alloc HS ?_; clear HS; intro b_ w_ HS) | ((with_reducible refine' q_box ?_); refine' a_box HS ?_; clear HS; intro b_ w_ HS) | ((with_reducible refine' q_load ?_); refine' a_load HS ?_) | ((with_reducible refine' q_store ?_); refine' a_store HS ?_; clear HS; intro w_ HS))
      go_ret
      exact ⟨by rw [floor_self h0'.out]; rfl, HS.below⟩
    · clear hc
      go_wp2_with (first | ((with_reducible refine' q_alloc ?_); refine' a_alloc HS ?_; clear HS; intro b_ w_ HS) | ((with_reducible refine' q_box ?_); refine' a_box HS ?_; clear HS; intro b_ w_ HS) | ((with_reducible refine' q_load ?_); refine' a_load HS ?_) | ((with_reducible refine' q_store ?_); refine' a_store HS ?_; clear HS; intro w_ HS))
      go_ret
      exact ⟨by rw [floor_self h0'.out]; rfl, HS.below⟩
end Go.Proofs.YtbogoehjoglneaaDoor

/- Steps in regions that draw their order: elements and aggregates of slices over immutable memory; temporaries by their number. -/
namespace Go.Proofs.YtbogoehjoglneaaDoor
open Go.RowKit
set_option linter.unusedVariables false
set_option linter.unusedSimpArgs false
set_option maxRecDepth 100000

theorem St.at3 {B : Nat → Prop} {M : Mem} {w0 w : World} {c : Nat} {o : Obj} {q q2 q3 : Nat × Obj} {L : List (Nat × Obj)} (h : St B w0 w M (q :: q2 :: q3 :: (c, o) :: L)) : w.heap[c]? = some o := h.loc (c, o) (.tail _ (.tail _ (.tail _ (.head _))))
section
variable {P : Program} {ops : List Oper} {Q : Exit → Act → World → Prop} {S : World → Prop} {brk : Nat → Bool} {r : List (Bool × Nat)} {i : Nat} {a : Act} {w : World}
theorem dIdxL {d : Option Tmp} {T e ty : TypeId} {z : Value} {size bytes : Nat} [RI P T e z size bytes] {x ix : Operand} {ps : String} {af : Array Edge} {g : Option (Nat × Bool)} {M : Mem} {A : Option Addr} {n c : Nat} {xs : List Value} {j : Int}
    (hi : nth ops i = some { dst := d, op := .indexAddr T x ix, type := ty, pos := ps, after := af, guard := g }) (hw : Region.wanted { dst := d, op := .indexAddr T x ix, type := ty, pos := ps, after := af, guard := g } (yielded ops.toArray a.tmps) = true)
    (hx : a.eval x = .slice A n c) (hb : SL M size A n c xs) (hix : a.eval ix = .int .i64 j) (hj : 0 ≤ j ∧ j < n)
    (k : ∀ b o, (∀ t u, xs[j.toNat * size + t]? = some u → cellM M b (o + t) = some u) → lexD P ops.toArray Q S brk r (a.put d (.pointer (some ⟨b, o, Option.none⟩))) w) :
    lexD P ops.toArray Q S brk ((true, i) :: r) a w := by
  cases A with
  | none => have := hb.nil rfl; omega
  | some ad =>
    obtain ⟨h1, h2⟩ := hb.at_ ad rfl
    obtain ⟨b, off, sp⟩ := ad
    simp only at h1 h2
    subst h1
    exact dSoft (v := .pointer (some ⟨b, off + j.toNat * size, Option.none⟩)) hi hw (fun w _ => by simp [execOp, hx, hix, Instr.indexAt, asIntOf, run_underlying (RI.under (P := P) (T := T)), Result.andThen, hj, RI.sizeOf (P := P) (T := T) w, Addr.add_lit]) (k b (off + j.toNat * size) (fun t u h => by rw [Nat.add_assoc]; exact h2 _ _ h))
theorem dLoadAggM {d : Option Tmp} {T ty : TypeId} {x : Operand} {ps : String} {af : Array Edge} {g : Option (Nat × Bool)} {z : List Value} [TI P T true z] {B : Nat → Prop} {w0 : World} {M : Mem} {L : List (Nat × Obj)} {b off : Nat} {vs : List Value}
    (hi : nth ops i = some { dst := d, op := .load T x, type := ty, pos := ps, after := af, guard := g }) (hw : Region.wanted { dst := d, op := .load T x, type := ty, pos := ps, after := af, guard := g } (yielded ops.toArray a.tmps) = true)
    (HS : ∀ w, S w → St B w0 w M L) (hx : a.eval x = .pointer (some ⟨b, off, Option.none⟩)) (hc : ∀ t u, vs[t]? = some u → cellM M b (off + t) = some u) (hl : Nat.beq vs.length z.length = true)
    (k : lexD P ops.toArray Q S brk r (a.put d (.agg vs.toArray)) w) : lexD P ops.toArray Q S brk ((true, i) :: r) a w :=
  dSoft hi hw (fun w h => by
    have hl' := Nat.eq_of_beq_eq_true hl
    have h1 := run_loadCells_list (P := P) w ⟨b, off, none⟩ vs (fun j v hj => by
      rw [Addr.add_lit]; exact (HS w h).imm.cell (hc j v hj))
    rw [hl'] at h1
    have h2 : (loadVar T ⟨b, off, Option.none⟩).run P w = .ok (.agg vs.toArray) w := by
      unfold loadVar
      rw [Sem.run_bind, TI.isAgg w]
      simp only [Result.andThen, if_true, Sem.run_bind, TI.sizeOf w, h1, Sem.run_pure]
    simp only [execOp, hx, Instr.loadAt, Instr.sureAddr, Sem.run_bind, Sem.run_pure, Result.andThen, h2]) k
end
theorem dLoadCI {P : Program} {ops : List Oper} {Q : Exit → Act → World → Prop} {S : World → Prop} {brk : Nat → Bool} {r : List (Bool × Nat)} {i : Nat} {a : Act} {w : World} {d : Option Tmp} {T ty : TypeId} {x : Operand} {ps : String} {af : Array Edge} {g : Option (Nat × Bool)} {z : List Value} [TI P T false z] {M : Mem} {b off : Nat} {v : Value}
    (hi : nth ops i = some { dst := d, op := .load T x, type := ty, pos := ps, after := af, guard := g }) (hw : Region.wanted { dst := d, op := .load T x, type := ty, pos := ps, after := af, guard := g } (yielded ops.toArray a.tmps) = true)
    (HS : ∀ w, S w → Imm M w) (hx : a.eval x = .pointer (some ⟨b, off, Option.none⟩)) (hc : cellM M b off = some v)
    (k : lexD P ops.toArray Q S brk r (a.put d v) w) : lexD P ops.toArray Q S brk ((true, i) :: r) a w :=
  dSoft hi hw (fun w h => by
    have hcell := (HS w h).cell hc
    have hl : (loadVar T ⟨b, off, Option.none⟩).run P w = .ok v w := by
      unfold loadVar
      rw [Sem.run_bind, TI.isAgg w]
      simp only [Result.andThen, Bool.false_eq_true, if_false, run_load, hcell]
    simp only [execOp, hx, Instr.loadAt, Instr.sureAddr, Sem.run_bind, Sem.run_pure, Result.andThen, hl]) k
theorem actg {A : Act} {F : (Nat → Value) → Act} (h : A = F (fun i => A.tmps.getD i undef)) : ∃ g, A = F g := ⟨_, h⟩
end Go.Proofs.YtbogoehjoglneaaDoor

/- A loop over an own state whose invariant stays shut within a round. -/
namespace Go.Proofs.YtbogoehjoglneaaDoor
open Go.RowKit
theorem wp_loop_i {P : Program} {Q : Exit → Act → World → Prop} {a : Act} {w : World} {c : Code} {σ : Type} (I : σ → Act → World → Prop) (μ : σ → Nat) (s : σ) (h₀ : I s a w)
    (round : ∀ J : σ → Act → World → Prop, (∀ s a w, I s a w → J s a w) → ∀ s a w, I s a w → c.wp P (Exit.then (fun a' w' => ∃ s', J s' a' w' ∧ μ s' < μ s) Q) a w) : (Code.loop c).wp P Q a w :=
  wp_loop_st I μ s h₀ (round I fun _ _ _ h => h)

/- A contract whose postcondition stays shut within the walk. -/
theorem calls_shut {P : Program} {f : FuncId} {args : Array Value} {w : World} {R : Ending → World → Prop} (h : ∀ R' : Ending → World → Prop, (∀ e w', R e w' → R' e w') → Calls P f args w R') : Calls P f args w R := h R fun _ _ h => h
end Go.Proofs.YtbogoehjoglneaaDoor

/- seek.Floor, Step, sizes, by, To of a byte place. -/
namespace Go.Proofs.YtbogoehjoglneaaDoor
open Go.RowKit
set_option linter.unusedVariables false
set_option linter.unusedSimpArgs false
set_option maxRecDepth 100000
attribute [local go_sem] byt_drop byt_tail Int.toNat_natCast sOf_size

theorem SFloor_in (M : Mem) (hG : Gl M) (r : Nat) (l : List UInt8) (hr : RopeAt M r l) (p : Nat) (hp : p ≤ l.length) (w : World) (hi : Imm M w) :
    Calls Tryd.prog 39 #[ptr r, .int .i64 p] w fun e w' => e = .returned (.tuple #[.int .i64 (floorN l p), .int .i64 0]) ∧ Below w.heap.size w w' := by
  have HG := Lib.hid hG; clear hG
  have HR := Lib.hid hr
  have hm := hr.small
  have hp' : (p : Int) ≤ l.length := by omega
  clear hr
  (have HS := St.start hi; go_enter Tryd.func39, Tryd.ntmps39)
  go_wp2_with (first | ((with_reducible refine' q_alloc ?_); refine' a_alloc HS ?_; clear HS; intro b_ w_ HS) | ((with_reducible refine' q_box ?_); refine' a_box HS ?_; clear HS; intro b_ w_ HS) | ((with_reducible refine' q_load ?_); refine' a_load HS ?_) | ((with_reducible refine' q_store ?_); refine' a_store HS ?_; clear HS; intro w_ HS) | (go_at_call 51; (with_reducible refine (RLen_any M r l HR.out _ HS.imm).mono ?_); rintro e w_ ⟨rfl, hb_⟩; have HS_ := HS.call hb_; clear HS hb_; have HS := HS_; clear HS_) | (go_at_call 67; (with_reducible refine (sfloor_any M HG.out r l HR.out p hp _ HS.imm).mono ?_); rintro e w_ ⟨rfl, hb_⟩; have HS_ := HS.call hb_; clear HS hb_; have HS := HS_; clear HS_))
  go_ret2
  exact ⟨rfl, HS.below⟩
theorem SFloor_out (M : Mem) (r : Nat) (l : List UInt8) (hr : RopeAt M r l) (x : Int) (hx : x < 0 ∨ (l.length : Int) < x) (w : World) (hi : Imm M w) :
    Calls Tryd.prog 39 #[ptr r, .int .i64 x] w fun e w' => e = .returned (.tuple #[.int .i64 0, .int .i64 2]) ∧ Below w.heap.size w w' := by
  have HR := Lib.hid hr
  have hm := hr.small
  clear hr
  rcases hx with hx | hx
  · (have HS := St.start hi; go_enter Tryd.func39, Tryd.ntmps39)
    go_wp2_with (first | ((with_reducible refine' q_alloc ?_); refine' a_alloc HS ?_; clear HS; intro b_ w_ HS) | ((with_reducible refine' q_box ?_); refine' a_box HS ?_; clear HS; intro b_ w_ HS) | ((with_reducible refine' q_load ?_); refine' a_load HS ?_) | ((with_reducible refine' q_store ?_); refine' a_store HS ?_; clear HS; intro w_ HS) | (go_at_call 51; (with_reducible refine (RLen_any M r l HR.out _ HS.imm).mono ?_); rintro e w_ ⟨rfl, hb_⟩; have HS_ := HS.call hb_; clear HS hb_; have HS := HS_; clear HS_))
    go_ret2
    exact ⟨rfl, HS.below⟩
  · have h0 : ¬ x < 0 := by omega
    (have HS := St.start hi; go_enter Tryd.func39, Tryd.ntmps39)
    go_wp2_with (first | ((with_reducible refine' q_alloc ?_); refine' a_alloc HS ?_; clear HS; intro b_ w_ HS) | ((with_reducible refine' q_box ?_); refine' a_box HS ?_; clear HS; intro b_ w_ HS) | ((with_reducible refine' q_load ?_); refine' a_load HS ?_) | ((with_reducible refine' q_store ?_); refine' a_store HS ?_; clear HS; intro w_ HS) | (go_at_call 51; (with_reducible refine (RLen_any M r l HR.out _ HS.imm).mono ?_); rintro e w_ ⟨rfl, hb_⟩; have HS_ := HS.call hb_; clear HS hb_; have HS := HS_; clear HS_))
    go_ret2
    exact ⟨rfl, HS.below⟩
theorem SFloor_nil (M : Mem) (x : Int) (w : World) (hi : Imm M w) :
    Calls Tryd.prog 39 #[.pointer none, .int .i64 x] w fun e w' => e = .returned (.tuple #[.int .i64 0, .int .i64 1]) ∧ Below w.heap.size w w' := by
  (have HS := St.start hi; go_enter Tryd.func39, Tryd.ntmps39)
  go_wp2_with (first | ((with_reducible refine' q_alloc ?_); refine' a_alloc HS ?_; clear HS; intro b_ w_ HS) | ((with_reducible refine' q_box ?_); refine' a_box HS ?_; clear HS; intro b_ w_ HS) | ((with_reducible refine' q_load ?_); refine' a_load HS ?_) | ((with_reducible refine' q_store ?_); refine' a_store HS ?_; clear HS; intro w_ HS))
  go_ret2
  exact ⟨rfl, HS.below⟩

set_option maxHeartbeats 2000000 in
theorem SStep_in (M : Mem) (hG : Gl M) (r : Nat) (l : List UInt8) (hr : RopeAt M r l) (p : Nat) (hp : p < l.length) (w : World) (hi : Imm M w) :
    Calls Tryd.prog 40 #[ptr r, .int .i64 p] w fun e w' => e = .returned (.tuple #[.int .i64 (floorN l p), stV (stp (l.drop (floorN l p))), .int .i64 0]) ∧ Below w.heap.size w w' := by
  have HG := Lib.hid hG; clear hG
  have HR := Lib.hid hr
  have hm := hr.small
  have hp' : (p : Int) < l.length := by omega
  clear hr
  have hfl := floor_le l p
  obtain ⟨q, hq⟩ : ∃ q, q = floorN l p := ⟨_, rfl⟩
  rw [← hq] at hfl ⊢
  have HF := Lib.hid (fun w hi => sfloor_any M HG.out r l HR.out p (by omega) w hi)
  rw [← hq] at HF
  have hst := fun (h9 : Nat) (hh : h9 = min l.length (q + 6)) => stp_take (l := l) (p := q) (q := h9) (by omega)
  have HST := Lib.hid hst
  obtain ⟨s, hs⟩ : ∃ s, s = stp (l.drop q) := ⟨_, rfl⟩
  rw [← hs] at HST ⊢
  clear hq hst hs
  (have HS := St.start hi; go_enter Tryd.func40, Tryd.ntmps40)
  go_wp2_with (first | ((with_reducible refine' q_alloc ?_); refine' a_alloc HS ?_; clear HS; intro b_ w_ HS) | ((with_reducible refine' q_box ?_); refine' a_box HS ?_; clear HS; intro b_ w_ HS) | ((with_reducible refine' q_load ?_); refine' a_load HS ?_) | ((with_reducible refine' q_store ?_); refine' a_store HS ?_; clear HS; intro w_ HS) | (go_at_call 51; (with_reducible refine (RLen_any M r l HR.out _ HS.imm).mono ?_); rintro e w_ ⟨rfl, hb_⟩; have HS_ := HS.call hb_; clear HS hb_; have HS := HS_; clear HS_) | (go_at_call 67; (with_reducible refine (HF.out _ HS.imm).mono ?_); rintro e w_ ⟨rfl, hb_⟩; have HS_ := HS.call hb_; clear HS hb_; have HS := HS_; clear HS_) | (go_at_call 68; (with_reducible refine (around_any M r l HR.out q (by omega) _ HS.imm).mono ?_); rintro e w_ ⟨A, c, M1, lo, h9, hlo, hh, rfl, hg1, hbs⟩; have hs_hg1 := HS.moved.size; have HS_ := HS.callM hg1.below hg1.fresh hg1.imm; clear HS; have HS := HS_; clear HS_; have hlq : lo ≤ q := (by omega); have hqh : q ≤ h9 := (by omega); have hqs : q < h9 := (by omega); have hhl : h9 ≤ l.length := (by omega); have HHI := Lib.hid hh; clear hlo hh; have hx := around_part (l := l) (lo := lo) (hi := h9) (q := q) (by omega) (by omega) (by omega); have HX := Lib.hid hx; clear hx; have hl9 : ((l.take h9).drop q).length = h9 - q := (by rw [List.length_drop, List.length_take]; omega); have HL9 := Lib.hid hl9; clear hl9; have hj : ((q - lo : Nat) : Int) = (q : Int) - lo := (by omega); have hn1 : q - lo ≤ h9 - lo := (by omega)) | ((with_reducible refine' st_slice_bs (S := 28) (e := 5) (i := q - lo) (j := h9 - lo) ?hw Tryd.underlying28 (by kernel_rfl) ?hx ?hb ?hn ?hij ?_); (case hw => first | rfl | (go_simp; done)); (case hx => first | exact eval_lit rfl | rfl); (case hb => assumption); (case hn => (first | rfl | omega | (simp; done) | (simp; omega))); (case hij => first | exact ⟨rfl, rfl, by omega, by omega⟩ | (refine ⟨?_, rfl, by omega, by omega⟩; (refine congrArg (Value.int IntKind.i64) ?_; omega))); intro A_ hA_) | (go_at_call 69; (with_reducible refine (sfirst_any M1 (HG.out.mono hg1.le) A_ _ _ ((l.take h9).drop q) (by rw [← HX.out]; exact hA_) (by rw [HL9.out]; omega) (fun h => by have := HL9.out; rw [h] at this; simp at this; omega) (by rw [HL9.out]; omega) _ HS.imm).mono ?_); rw [HST.out h9 HHI.out]; rintro e w_ ⟨rfl, hb_⟩; (have HS_ := HS.call hb_; clear HS hb_; have HS := HS_; clear HS_)))
  (refine post_tmp_cell_tmp (p := 5) (T := 43) rfl HS rfl rfl (by (first | (apply Blk.loc; (repeat (first | (with_reducible exact List.mem_cons_self) | apply List.mem_cons_of_mem)); done) | (apply Blk.imm; with_reducible assumption))) (by exact Eq.refl true) ?_)
  exact ⟨rfl, HS.below⟩
end Go.Proofs.YtbogoehjoglneaaDoor

/- seek.Step beyond a text, sizes, by, ruler, modes, mode at an edge, To of an edge by bytes. -/
namespace Go.Proofs.YtbogoehjoglneaaDoor
open Go.RowKit
set_option linter.unusedVariables false
set_option linter.unusedSimpArgs false
set_option maxRecDepth 100000
attribute [local go_sem] byt_drop byt_tail Int.toNat_natCast sOf_size

theorem field_weld (a b c d e f : Value) (w : World) : (Instr.field 87 (.agg #[a, b, c, d, e, f]) 0).run Tryd.prog w = .ok (.agg #[a, b, c, d]) w := by kernel_rfl
attribute [local go_sem] field_weld
abbrev st0 : Value := stV ⟨0, 0, false⟩
theorem SStep_out (M : Mem) (r : Nat) (l : List UInt8) (hr : RopeAt M r l) (x : Int) (hx : x < 0 ∨ (l.length : Int) ≤ x) (w : World) (hi : Imm M w) :
    Calls Tryd.prog 40 #[ptr r, .int .i64 x] w fun e w' => e = .returned (.tuple #[.int .i64 0, st0, .int .i64 2]) ∧ Below w.heap.size w w' := by
  have HR := Lib.hid hr
  have hm := hr.small
  clear hr
  rcases hx with hx | hx
  · (have HS := St.start hi; go_enter Tryd.func40, Tryd.ntmps40)
    go_wp2_with (first | ((with_reducible refine' q_alloc ?_); refine' a_alloc HS ?_; clear HS; intro b_ w_ HS) | ((with_reducible refine' q_box ?_); refine' a_box HS ?_; clear HS; intro b_ w_ HS) | ((with_reducible refine' q_load ?_); refine' a_load HS ?_) | ((with_reducible refine' q_store ?_); refine' a_store HS ?_; clear HS; intro w_ HS) | (go_at_call 51; (with_reducible refine (RLen_any M r l HR.out _ HS.imm).mono ?_); rintro e w_ ⟨rfl, hb_⟩; have HS_ := HS.call hb_; clear HS hb_; have HS := HS_; clear HS_))
    (refine post_tmp_cell_tmp (p := 5) (T := 43) rfl HS rfl rfl (by (first | (apply Blk.loc; (repeat (first | (with_reducible exact List.mem_cons_self) | apply List.mem_cons_of_mem)); done) | (apply Blk.imm; with_reducible assumption))) (by exact Eq.refl true) ?_)
    exact ⟨rfl, HS.below⟩
  · have h0 : ¬ x < 0 := by omega
    (have HS := St.start hi; go_enter Tryd.func40, Tryd.ntmps40)
    go_wp2_with (first | ((with_reducible refine' q_alloc ?_); refine' a_alloc HS ?_; clear HS; intro b_ w_ HS) | ((with_reducible refine' q_box ?_); refine' a_box HS ?_; clear HS; intro b_ w_ HS) | ((with_reducible refine' q_load ?_); refine' a_load HS ?_) | ((with_reducible refine' q_store ?_); refine' a_store HS ?_; clear HS; intro w_ HS) | (go_at_call 51; (with_reducible refine (RLen_any M r l HR.out _ HS.imm).mono ?_); rintro e w_ ⟨rfl, hb_⟩; have HS_ := HS.call hb_; clear HS hb_; have HS := HS_; clear HS_))
    (refine post_tmp_cell_tmp (p := 5) (T := 43) rfl HS rfl rfl (by (first | (apply Blk.loc; (repeat (first | (with_reducible exact List.mem_cons_self) | apply List.mem_cons_of_mem)); done) | (apply Blk.imm; with_reducible assumption))) (by exact Eq.refl true) ?_)
    exact ⟨rfl, HS.below⟩
theorem SStep_nil (M : Mem) (x : Int) (w : World) (hi : Imm M w) :
    Calls Tryd.prog 40 #[.pointer none, .int .i64 x] w fun e w' => e = .returned (.tuple #[.int .i64 0, st0, .int .i64 1]) ∧ Below w.heap.size w w' := by
  (have HS := St.start hi; go_enter Tryd.func40, Tryd.ntmps40)
  go_wp2_with (first | ((with_reducible refine' q_alloc ?_); refine' a_alloc HS ?_; clear HS; intro b_ w_ HS) | ((with_reducible refine' q_box ?_); refine' a_box HS ?_; clear HS; intro b_ w_ HS) | ((with_reducible refine' q_load ?_); refine' a_load HS ?_) | ((with_reducible refine' q_store ?_); refine' a_store HS ?_; clear HS; intro w_ HS))
  (refine post_tmp_cell_tmp (p := 5) (T := 43) rfl HS rfl rfl (by (first | (apply Blk.loc; (repeat (first | (with_reducible exact List.mem_cons_self) | apply List.mem_cons_of_mem)); done) | (apply Blk.imm; with_reducible assumption))) (by exact Eq.refl true) ?_)
  exact ⟨rfl, HS.below⟩

theorem sizes_any (M : Mem) (hG : Gl M) (r : Nat) (l : List UInt8) (hr : RopeAt M r l) (p : Nat) (hp : p ≤ l.length) (w : World) (hi : Imm M w) :
    Calls Tryd.prog 72 #[.func (.func 73) #[ptr r] #[], .int .i64 p] w fun e w' => e = .returned (szV (l.take p)) ∧ Below w.heap.size w w' := by
  have hF := fun w hi => RBefore_any M hG r l hr p hp w hi
  obtain ⟨t, ht⟩ : ∃ t, t = l.take p := ⟨_, rfl⟩
  rw [← ht] at hF ⊢
  have HF := Lib.hid hF
  clear hF ht hr hG
  (have HS := St.start hi; go_enter Tryd.func72, Tryd.ntmps72)
  go_wp2_with (first | ((with_reducible refine' q_alloc ?_); refine' a_alloc HS ?_; clear HS; intro b_ w_ HS) | ((with_reducible refine' q_box ?_); refine' a_box HS ?_; clear HS; intro b_ w_ HS) | ((with_reducible refine' q_load ?_); refine' a_load HS ?_) | ((with_reducible refine' q_store ?_); refine' a_store HS ?_; clear HS; intro w_ HS) | (go_at_call 73; (with_reducible refine (HF.out _ HS.imm).mono ?_); rintro e w_ ⟨rfl, hb_⟩; have HS_ := HS.call hb_; clear HS hb_; have HS := HS_; clear HS_))
  (refine post_cell (p := 4) (T := 85) rfl HS rfl rfl (by (first | (apply Blk.loc; (repeat (first | (with_reducible exact List.mem_cons_self) | apply List.mem_cons_of_mem)); done) | (apply Blk.imm; with_reducible assumption))) (by exact Eq.refl true) ?_)
  exact ⟨rfl, HS.below⟩

theorem by_any (M : Mem) (l : List UInt8) (u : Int) (w : World) (hi : Imm M w) :
    Calls Tryd.prog 76 #[szV l, .int .i64 u] w fun e w' => e = .returned (.int .i64 (zN u l)) ∧ Below w.heap.size w w' := by
  unfold zN
  rcases Classical.em (u = 1) with h1 | h1
  · rw [if_pos h1]; subst h1
    (have HS := St.start hi; go_enter Tryd.func76, Tryd.ntmps76)
    go_wp2_with (first | ((with_reducible refine' q_alloc ?_); refine' a_alloc HS ?_; clear HS; intro b_ w_ HS) | ((with_reducible refine' q_box ?_); refine' a_box HS ?_; clear HS; intro b_ w_ HS) | ((with_reducible refine' q_load ?_); refine' a_load HS ?_) | ((with_reducible refine' q_store ?_); refine' a_store HS ?_; clear HS; intro w_ HS))
    go_ret
    exact ⟨rfl, HS.below⟩
  · rcases Classical.em (u = 2) with h2 | h2
    · rw [if_neg h1, if_pos h2]; subst h2; clear h1
      (have HS := St.start hi; go_enter Tryd.func76, Tryd.ntmps76)
      go_wp2_with (first | ((with_reducible refine' q_alloc ?_); refine' a_alloc HS ?_; clear HS; intro b_ w_ HS) | ((with_reducible refine' q_box ?_); refine' a_box HS ?_; clear HS; intro b_ w_ HS) | ((with_reducible refine' q_load ?_); refine' a_load HS ?_) | ((with_reducible refine' q_store ?_); refine' a_store HS ?_; clear HS; intro w_ HS))
      go_ret
      exact ⟨rfl, HS.below⟩
    · rw [if_neg h1, if_neg h2]
      have e1 : (u == 1) = false := by simpa using h1
      have e2 : (u == 2) = false := by simpa using h2
      clear h1 h2
      (have HS := St.start hi; go_enter Tryd.func76, Tryd.ntmps76)
      go_wp2_with (first | ((with_reducible refine' q_alloc ?_); refine' a_alloc HS ?_; clear HS; intro b_ w_ HS) | ((with_reducible refine' q_box ?_); refine' a_box HS ?_; clear HS; intro b_ w_ HS) | ((with_reducible refine' q_load ?_); refine' a_load HS ?_) | ((with_reducible refine' q_store ?_); refine' a_store HS ?_; clear HS; intro w_ HS))
      go_ret
      exact ⟨rfl, HS.below⟩

theorem ruler_any (M : Mem) (u : Int) (w : World) (hi : Imm M w) :
    Calls Tryd.prog 74 #[.int .i64 u] w fun e w' => e = .returned (.bool (decide (1 ≤ u) && decide (u ≤ 3))) ∧ Below w.heap.size w w' := by
  by_cases h1 : 1 ≤ u
  · (have HS := St.start hi; go_enter Tryd.func74, Tryd.ntmps74)
    go_wp2_with (first | ((with_reducible refine' q_alloc ?_); refine' a_alloc HS ?_; clear HS; intro b_ w_ HS) | ((with_reducible refine' q_box ?_); refine' a_box HS ?_; clear HS; intro b_ w_ HS) | ((with_reducible refine' q_load ?_); refine' a_load HS ?_) | ((with_reducible refine' q_store ?_); refine' a_store HS ?_; clear HS; intro w_ HS))
    go_ret
    exact ⟨by simp [h1], HS.below⟩
  · (have HS := St.start hi; go_enter Tryd.func74, Tryd.ntmps74)
    go_wp2_with (first | ((with_reducible refine' q_alloc ?_); refine' a_alloc HS ?_; clear HS; intro b_ w_ HS) | ((with_reducible refine' q_box ?_); refine' a_box HS ?_; clear HS; intro b_ w_ HS) | ((with_reducible refine' q_load ?_); refine' a_load HS ?_) | ((with_reducible refine' q_store ?_); refine' a_store HS ?_; clear HS; intro w_ HS))
    go_ret
    exact ⟨by simp; omega, HS.below⟩
theorem modes_any (M : Mem) (u : Int) (w : World) (hi : Imm M w) :
    Calls Tryd.prog 75 #[.int .i64 u] w fun e w' => e = .returned (.bool (decide (1 ≤ u) && decide (u ≤ 3))) ∧ Below w.heap.size w w' := by
  by_cases h1 : 1 ≤ u
  · (have HS := St.start hi; go_enter Tryd.func75, Tryd.ntmps75)
    go_wp2_with (first | ((with_reducible refine' q_alloc ?_); refine' a_alloc HS ?_; clear HS; intro b_ w_ HS) | ((with_reducible refine' q_box ?_); refine' a_box HS ?_; clear HS; intro b_ w_ HS) | ((with_reducible refine' q_load ?_); refine' a_load HS ?_) | ((with_reducible refine' q_store ?_); refine' a_store HS ?_; clear HS; intro w_ HS))
    go_ret
    exact ⟨by simp [h1], HS.below⟩
  · (have HS := St.start hi; go_enter Tryd.func75, Tryd.ntmps75)
    go_wp2_with (first | ((with_reducible refine' q_alloc ?_); refine' a_alloc HS ?_; clear HS; intro b_ w_ HS) | ((with_reducible refine' q_box ?_); refine' a_box HS ?_; clear HS; intro b_ w_ HS) | ((with_reducible refine' q_load ?_); refine' a_load HS ?_) | ((with_reducible refine' q_store ?_); refine' a_store HS ?_; clear HS; intro w_ HS))
    go_ret
    exact ⟨by simp; omega, HS.below⟩

theorem mode_edge (M : Mem) (hG : Gl M) (r : Nat) (l : List UInt8) (hr : RopeAt M r l) (p : Nat) (hp : p ≤ l.length) (h0 : inside l p = 0) (m : Int) (w : World) (hi : Imm M w) :
    Calls Tryd.prog 77 #[ptr r, .int .i64 p, .int .i64 m] w fun e w' => e = .returned (.tuple #[.int .i64 p, .int .i64 0]) ∧ Below w.heap.size w w' := by
  have hF := fun w hi => sfloor_any M hG r l hr p hp w hi
  rw [floor_self h0] at hF
  have HF := Lib.hid hF
  clear hF hG hr h0
  (have HS := St.start hi; go_enter Tryd.func77, Tryd.ntmps77)
  go_wp2_with (first | ((with_reducible refine' q_alloc ?_); refine' a_alloc HS ?_; clear HS; intro b_ w_ HS) | ((with_reducible refine' q_box ?_); refine' a_box HS ?_; clear HS; intro b_ w_ HS) | ((with_reducible refine' q_load ?_); refine' a_load HS ?_) | ((with_reducible refine' q_store ?_); refine' a_store HS ?_; clear HS; intro w_ HS) | (go_at_call 67; (with_reducible refine (HF.out _ HS.imm).mono ?_); rintro e w_ ⟨rfl, hb_⟩; have HS_ := HS.call hb_; clear HS hb_; have HS := HS_; clear HS_))
  go_ret2
  exact ⟨rfl, HS.below⟩

set_option maxHeartbeats 2000000 in
theorem To_edge (M : Mem) (hG : Gl M) (r : Nat) (l : List UInt8) (hr : RopeAt M r l) (p : Nat) (hp : p ≤ l.length) (h0 : inside l p = 0) (u : Int) (h1 : 1 ≤ u) (h3 : u ≤ 3) (w : World) (hi : Imm M w) :
    Calls Tryd.prog 42 #[ptr r, .int .i64 1, .int .i64 p, .int .i64 u, .int .i64 3] w fun e w' => e = .returned (.tuple #[.int .i64 (zN u (l.take p)), .int .i64 0]) ∧ Below w.heap.size w w' := by
  have hp' : (p : Int) ≤ l.length := by omega
  have hz : zN 1 l = l.length := rfl
  have HG := Lib.hid hG; clear hG
  have HR := Lib.hid hr
  have hm := hr.small
  clear hr
  have HMo := Lib.hid (fun w hi => mode_edge M HG.out r l HR.out p hp h0 3 w hi)
  have HBy := Lib.hid (fun w hi => by have := by_any M l 1 w hi; rw [hz] at this; exact this)
  clear hz
  (have HS := St.start hi; go_enter Tryd.func42, Tryd.ntmps42)
  go_wp2_with (first | ((with_reducible refine' q_alloc ?_); refine' a_alloc HS ?_; clear HS; intro b_ w_ HS) | ((with_reducible refine' q_box ?_); refine' a_box HS ?_; clear HS; intro b_ w_ HS) | ((with_reducible refine' q_load ?_); refine' a_load HS ?_) | ((with_reducible refine' q_store ?_); refine' a_store HS ?_; clear HS; intro w_ HS) | (go_at_call 74; (with_reducible refine (ruler_any M 1 _ HS.imm).mono ?_); rintro e w_ ⟨rfl, hb_⟩; have HS_ := HS.call hb_; clear HS hb_; have HS := HS_; clear HS_) | (go_at_call 74; (with_reducible refine (ruler_any M u _ HS.imm).mono ?_); rintro e w_ ⟨rfl, hb_⟩; have HS_ := HS.call hb_; clear HS hb_; have HS := HS_; clear HS_) | (go_at_call 75; (with_reducible refine (modes_any M 3 _ HS.imm).mono ?_); rintro e w_ ⟨rfl, hb_⟩; have HS_ := HS.call hb_; clear HS hb_; have HS := HS_; clear HS_) | (go_at_call 45; (with_reducible refine (RWeld_any M HG.out r l HR.out _ HS.imm).mono ?_); rintro e w_ ⟨rfl, hb_⟩; have HS_ := HS.call hb_; clear HS hb_; have HS := HS_; clear HS_) | (go_at_call 76; (with_reducible refine (HBy.out _ HS.imm).mono ?_); rintro e w_ ⟨rfl, hb_⟩; have HS_ := HS.call hb_; clear HS hb_; have HS := HS_; clear HS_) | (go_at_call 77; (with_reducible refine (HMo.out _ HS.imm).mono ?_); rintro e w_ ⟨rfl, hb_⟩; have HS_ := HS.call hb_; clear HS hb_; have HS := HS_; clear HS_) | (go_at_call 72; (with_reducible refine (sizes_any M HG.out r l HR.out p hp _ HS.imm).mono ?_); rintro e w_ ⟨rfl, hb_⟩; have HS_ := HS.call hb_; clear HS hb_; have HS := HS_; clear HS_) | (go_at_call 76; (with_reducible refine (by_any M (l.take p) u _ HS.imm).mono ?_); rintro e w_ ⟨rfl, hb_⟩; have HS_ := HS.call hb_; clear HS hb_; have HS := HS_; clear HS_))
  go_ret2
  exact ⟨rfl, HS.below⟩

theorem To_bad (M : Mem) (r : Nat) (p : Int) (u : Int) (h1 : ¬ (1 ≤ u ∧ u ≤ 3)) (w : World) (hi : Imm M w) :
    Calls Tryd.prog 42 #[ptr r, .int .i64 1, .int .i64 p, .int .i64 u, .int .i64 3] w fun e w' => e = .returned (.tuple #[.int .i64 0, .int .i64 3]) ∧ Below w.heap.size w w' := by
  have hb : (decide (1 ≤ u) && decide (u ≤ 3)) = false := by
    by_cases g1 : 1 ≤ u
    · simp [g1]; omega
    · simp [g1]
  have HRu := Lib.hid (fun w hi => by have := ruler_any M u w hi; rw [hb] at this; exact this)
  clear hb h1
  (have HS := St.start hi; go_enter Tryd.func42, Tryd.ntmps42)
  go_wp2_with (first | ((with_reducible refine' q_alloc ?_); refine' a_alloc HS ?_; clear HS; intro b_ w_ HS) | ((with_reducible refine' q_box ?_); refine' a_box HS ?_; clear HS; intro b_ w_ HS) | ((with_reducible refine' q_load ?_); refine' a_load HS ?_) | ((with_reducible refine' q_store ?_); refine' a_store HS ?_; clear HS; intro w_ HS) | (go_at_call 74; (with_reducible refine (ruler_any M 1 _ HS.imm).mono ?_); rintro e w_ ⟨rfl, hb_⟩; have HS_ := HS.call hb_; clear HS hb_; have HS := HS_; clear HS_) | (go_at_call 74; (with_reducible refine (HRu.out _ HS.imm).mono ?_); rintro e w_ ⟨rfl, hb_⟩; have HS_ := HS.call hb_; clear HS hb_; have HS := HS_; clear HS_))
  go_ret2
  exact ⟨rfl, HS.below⟩
end Go.Proofs.YtbogoehjoglneaaDoor

/- walk: a cursor's New, Place, Next, Prev. -/
namespace Go.Proofs.YtbogoehjoglneaaDoor
open Go.RowKit
set_option linter.unusedVariables false
set_option linter.unusedSimpArgs false
set_option maxRecDepth 100000
attribute [local go_sem] byt_drop byt_tail Int.toNat_natCast sOf_size

/- A cursor at a place of a rope. -/
abbrev curC (p : Int) (r : Nat) : Obj := .cells [Value.int .i64 p, ptr r].toArray 118 (0, 0)
/- A call that turns one block. -/
structure Turned (c : Nat) (o' : Obj) (w w' : World) : Prop where
  moves : Moves (fun k => k = c) w w'
  now : w'.heap[c]? = some o'
theorem St.startC {M : Mem} {w : World} {c : Nat} {o : Obj} (hi : Imm M w) (hc : w.heap[c]? = some o) (hM : M c = none) : St (fun k => k = c ∨ w.heap.size ≤ k) w w M [(c, o)] :=
  ⟨Moves.refl _ _, hi, fun p hp => (by rw [List.mem_singleton] at hp; subst hp; exact hc), fun p hp => (by rw [List.mem_singleton] at hp; subst hp; exact ⟨.inl rfl, hM⟩), by simp, fun k hk => .inr hk⟩
theorem St.turnedC {M : Mem} {w0 w : World} {c : Nat} {o : Obj} {L : List (Nat × Obj)} (h : St (fun k => k = c ∨ w0.heap.size ≤ k) w0 w M L) (hm : (c, o) ∈ L) : Turned c o w0 w :=
  ⟨h.moved.more fun k hk ho => ho.elim id fun h' => (by omega), h.loc _ hm⟩
theorem St.turn {B : Nat → Prop} {M : Mem} {w0 w w' : World} {c : Nat} {o o' : Obj} {L L' : List (Nat × Obj)} (h : St B w0 w M L) (hr : Rep1 c o o' L L') (ht : Turned c o' w w') : St B w0 w' M L' where
  moved := h.moved.trans (ht.moves.more fun k _ e => e ▸ (h.base _ hr.mem).1)
  imm := fun b x e => by
    have h1 := h.imm b x e
    rw [ht.moves.same b (Array.getElem?_eq_some_iff.1 h1).1 (fun hb => by subst hb; rw [(h.base _ hr.mem).2] at e; cases e)]; exact h1
  loc := fun p hp => by
    rcases hr.mem' h.nodup p hp with rfl | ⟨hp, hne⟩
    · exact ht.now
    · have h1 := h.loc p hp
      rw [ht.moves.same p.1 (Array.getElem?_eq_some_iff.1 h1).1 hne]; exact h1
  base := fun p hp => by
    rcases hr.mem' h.nodup p hp with rfl | ⟨hp, _⟩
    · exact h.base (c, o) hr.mem
    · exact h.base p hp
  nodup := by rw [hr.fst]; exact h.nodup
  hB := h.hB
theorem St.init {B : Nat → Prop} {M : Mem} {w0 w : World} {K : List (Nat × Obj)} {p : Nat × Obj} (h : St B w0 w M (K ++ [p])) : St B w0 w M K := (h.perm (List.perm_append_comm (l₁ := K) (l₂ := [p]))).drop

theorem forwards_any (M : Mem) (c r : Nat) (p : Nat) (s : Stp) (hM : M c = none) (hp : (p : Int) ≤ 268435456) (hs : s.w ≤ 4) (w : World) (hi : Imm M w) (hc : w.heap[c]? = some (curC p r)) :
    Calls Tryd.prog 61 #[ptr c, stV s] w fun e w' => ∃ v, e = .returned v ∧ Turned c (curC (p + s.w : Nat) r) w w' := by
  have HS := St.startC hi hc hM
  clear hi hc
  have hs' : (s.w : Int) ≤ 4 := by omega
  go_enter Tryd.func61, Tryd.ntmps61
  go_wp2_with (first | ((with_reducible refine' q_alloc ?_); refine' a_alloc HS ?_; clear HS; intro b_ w_ HS) | ((with_reducible refine' q_box ?_); refine' a_box HS ?_; clear HS; intro b_ w_ HS) | ((with_reducible refine' q_load ?_); refine' a_load HS ?_) | ((with_reducible refine' q_store ?_); refine' a_store HS ?_; clear HS; intro w_ HS))
  have HSd := HS.init (K := [_])
  refine wp_region_plan [] [(true, 0), (true, 1), (true, 2), (true, 4), (true, 5), (false, 3), (true, 6), (true, 7), (true, 8), (false, 9)] (fun W_ => St _ _ W_ _ _) (by kernel_rfl) (by kernel_rfl) rfl (by kernel_rfl) (HSd).drew ?_
  have HS_ := HS.drew; clear HS; have HS := HS_; clear HS_
  refine' a_dSoft rfl ?_
  (try simp only [Act.put, List.setIfInBounds_toArray, List.set_cons_zero, List.set_cons_succ])
  refine' a_dSoft rfl ?_
  (try simp only [Act.put, List.setIfInBounds_toArray, List.set_cons_zero, List.set_cons_succ])
  refine' a_dSoft rfl ?_
  (try simp only [Act.put, List.setIfInBounds_toArray, List.set_cons_zero, List.set_cons_succ])
  refine' a_dSoft rfl ?_
  (try simp only [Act.put, List.setIfInBounds_toArray, List.set_cons_zero, List.set_cons_succ])
  (first | refine' a_dLoad rfl (fun w_ hw_ => hw_) ?_ | refine' a_dLoadC rfl (fun w_ hw_ => hw_) ?_)
  (try simp only [Act.put, List.setIfInBounds_toArray, List.set_cons_zero, List.set_cons_succ])
  refine dHard rfl ?_
  ((with_reducible refine' q_load ?_); refine' a_load HS ?_)
  refine lexD_done (fun _ => HS.init (K := [_])) ?_
  (try simp only [Act.put, List.setIfInBounds_toArray, List.set_cons_zero, List.set_cons_succ])
  (refine' dAdd Tryd.underlying3 rfl ?hw ?hx ?hy ?hb ?_; (case hw => first | rfl | go_simp); (case hx => first | exact eval_lit rfl | rfl); (case hy => rfl); (case hb => first | omega | (simp; omega)))
  (try simp only [Act.put, List.setIfInBounds_toArray, List.set_cons_zero, List.set_cons_succ])
  refine' a_dSoft rfl ?_
  (try simp only [Act.put, List.setIfInBounds_toArray, List.set_cons_zero, List.set_cons_succ])
  refine' a_dSoft rfl ?_
  (try simp only [Act.put, List.setIfInBounds_toArray, List.set_cons_zero, List.set_cons_succ])
  refine dHard rfl ?_
  ((with_reducible refine' q_store ?_); refine' a_store HS ?_; clear HS; intro w_ HS)
  refine lexD_done (fun _ => HS.init (K := [_])) ?_
  (try simp only [Act.put, List.setIfInBounds_toArray, List.set_cons_zero, List.set_cons_succ])
  refine lexD_end ?_
  go_end0
  exact ⟨_, rfl, HS.turnedC (.tail _ (.head _))⟩

theorem backwards_any (M : Mem) (c r : Nat) (p q : Nat) (s : Stp) (hM : M c = none) (hp : (p : Int) ≤ 268435456) (hs : s.w ≤ 4) (hq : q + s.w = p) (w : World) (hi : Imm M w) (hc : w.heap[c]? = some (curC p r)) :
    Calls Tryd.prog 62 #[ptr c, stV s] w fun e w' => ∃ v, e = .returned v ∧ Turned c (curC q r) w w' := by
  have HS := St.startC hi hc hM
  clear hi hc
  have hs' : (s.w : Int) ≤ 4 := by omega
  have hq2 : (s.w : Int) ≤ p := by omega
  go_enter Tryd.func62, Tryd.ntmps62
  go_wp2_with (first | ((with_reducible refine' q_alloc ?_); refine' a_alloc HS ?_; clear HS; intro b_ w_ HS) | ((with_reducible refine' q_box ?_); refine' a_box HS ?_; clear HS; intro b_ w_ HS) | ((with_reducible refine' q_load ?_); refine' a_load HS ?_) | ((with_reducible refine' q_store ?_); refine' a_store HS ?_; clear HS; intro w_ HS))
  have HSd := HS.init (K := [_])
  refine wp_region_plan [] [(true, 0), (true, 1), (true, 2), (true, 4), (true, 5), (false, 3), (true, 6), (true, 7), (true, 8), (false, 9)] (fun W_ => St _ _ W_ _ _) (by kernel_rfl) (by kernel_rfl) rfl (by kernel_rfl) (HSd).drew ?_
  have HS_ := HS.drew; clear HS; have HS := HS_; clear HS_
  refine' a_dSoft rfl ?_
  (try simp only [Act.put, List.setIfInBounds_toArray, List.set_cons_zero, List.set_cons_succ])
  refine' a_dSoft rfl ?_
  (try simp only [Act.put, List.setIfInBounds_toArray, List.set_cons_zero, List.set_cons_succ])
  refine' a_dSoft rfl ?_
  (try simp only [Act.put, List.setIfInBounds_toArray, List.set_cons_zero, List.set_cons_succ])
  refine' a_dSoft rfl ?_
  (try simp only [Act.put, List.setIfInBounds_toArray, List.set_cons_zero, List.set_cons_succ])
  (first | refine' a_dLoad rfl (fun w_ hw_ => hw_) ?_ | refine' a_dLoadC rfl (fun w_ hw_ => hw_) ?_)
  (try simp only [Act.put, List.setIfInBounds_toArray, List.set_cons_zero, List.set_cons_succ])
  refine dHard rfl ?_
  ((with_reducible refine' q_load ?_); refine' a_load HS ?_)
  refine lexD_done (fun _ => HS.init (K := [_])) ?_
  (try simp only [Act.put, List.setIfInBounds_toArray, List.set_cons_zero, List.set_cons_succ])
  (refine' dSub Tryd.underlying3 rfl ?hw ?hx ?hy ?hb ?_; (case hw => first | rfl | go_simp); (case hx => first | exact eval_lit rfl | rfl); (case hy => rfl); (case hb => first | omega | (simp; omega)))
  (try simp only [Act.put, List.setIfInBounds_toArray, List.set_cons_zero, List.set_cons_succ])
  refine' a_dSoft rfl ?_
  (try simp only [Act.put, List.setIfInBounds_toArray, List.set_cons_zero, List.set_cons_succ])
  refine' a_dSoft rfl ?_
  (try simp only [Act.put, List.setIfInBounds_toArray, List.set_cons_zero, List.set_cons_succ])
  refine dHard rfl ?_
  ((with_reducible refine' q_store ?_); refine' a_store HS ?_; clear HS; intro w_ HS)
  refine lexD_done (fun _ => HS.init (K := [_])) ?_
  (try simp only [Act.put, List.setIfInBounds_toArray, List.set_cons_zero, List.set_cons_succ])
  refine lexD_end ?_
  go_end0
  have e : (p : Int) - s.w = q := by omega
  have h : Turned c (.cells [Value.int .i64 ((p : Int) - s.w), ptr r].toArray 118 (0, 0)) w w_ := HS.turnedC (.tail _ (.head _))
  rw [e] at h
  exact ⟨_, rfl, h⟩

theorem WNew_in (M : Mem) (hG : Gl M) (r : Nat) (l : List UInt8) (hr : RopeAt M r l) (p : Nat) (hp : p ≤ l.length) (w : World) (hi : Imm M w) :
    Calls Tryd.prog 16 #[ptr r, .int .i64 p] w fun e w' => ∃ c, e = .returned (.tuple #[ptr c, .int .i64 0]) ∧ Below w.heap.size w w' ∧ w.heap.size ≤ c ∧ w'.heap[c]? = some (curC (floorN l p : Nat) r) := by
  have HF := Lib.hid (fun w hi => SFloor_in M hG r l hr p hp w hi)
  obtain ⟨q, hq⟩ : ∃ q, q = floorN l p := ⟨_, rfl⟩
  rw [← hq] at HF ⊢
  clear hG hr hq
  (have HS := St.start hi; go_enter Tryd.func16, Tryd.ntmps16)
  go_wp2_with (first | ((with_reducible refine' q_alloc ?_); refine' a_alloc HS ?_; clear HS; intro b_ w_ HS) | ((with_reducible refine' q_box ?_); refine' a_box2 HS ?_; clear HS; intro b_ w_ HS) | ((with_reducible refine' q_load ?_); refine' a_load HS ?_) | ((with_reducible refine' q_store ?_); refine' a_store HS ?_; clear HS; intro w_ HS) | (go_at_call 39; (with_reducible refine (HF.out _ HS.imm).mono ?_); rintro e w_ ⟨rfl, hb_⟩; have HS_ := HS.call hb_; clear HS hb_; have HS := HS_; clear HS_))
  go_ret2
  exact ⟨b_, rfl, HS.below, (HS.base _ (.head _)).1, HS.loc _ (.head _)⟩
theorem WNew_out (M : Mem) (r : Nat) (l : List UInt8) (hr : RopeAt M r l) (x : Int) (hx : x < 0 ∨ (l.length : Int) < x) (w : World) (hi : Imm M w) :
    Calls Tryd.prog 16 #[ptr r, .int .i64 x] w fun e w' => e = .returned (.tuple #[.pointer none, .int .i64 2]) ∧ Below w.heap.size w w' := by
  have HF := Lib.hid (fun w hi => SFloor_out M r l hr x hx w hi)
  clear hr hx
  (have HS := St.start hi; go_enter Tryd.func16, Tryd.ntmps16)
  go_wp2_with (first | ((with_reducible refine' q_alloc ?_); refine' a_alloc HS ?_; clear HS; intro b_ w_ HS) | ((with_reducible refine' q_box ?_); refine' a_box HS ?_; clear HS; intro b_ w_ HS) | ((with_reducible refine' q_load ?_); refine' a_load HS ?_) | ((with_reducible refine' q_store ?_); refine' a_store HS ?_; clear HS; intro w_ HS) | (go_at_call 39; (with_reducible refine (HF.out _ HS.imm).mono ?_); rintro e w_ ⟨rfl, hb_⟩; have HS_ := HS.call hb_; clear HS hb_; have HS := HS_; clear HS_))
  go_ret2
  exact ⟨rfl, HS.below⟩

theorem Place_edge (M : Mem) (hG : Gl M) (r : Nat) (l : List UInt8) (hr : RopeAt M r l) (c p : Nat) (hp : p ≤ l.length) (h0 : inside l p = 0) (u : Int) (h1 : 1 ≤ u) (h3 : u ≤ 3) (hM : M c = none) (w : World) (hi : Imm M w) (hc : w.heap[c]? = some (curC p r)) :
    Calls Tryd.prog 23 #[ptr c, .int .i64 u] w fun e w' => e = .returned (.tuple #[.int .i64 (zN u (l.take p)), .int .i64 0]) ∧ Below w.heap.size w w' := by
  obtain ⟨M1, hM1⟩ : ∃ M1, M1 = M.add c (curC p r) := ⟨_, rfl⟩
  have hle : M.le M1 := hM1 ▸ Mem.le_add hM
  have hcM : M1 c = some (curC p r) := hM1 ▸ Mem.add_same _ _ _
  have hi1 : Imm M1 w := fun b o e => by
    rw [hM1] at e
    unfold Mem.add at e
    split at e
    · rename_i hb; subst hb; cases e; exact hc
    · exact hi b o e
  have HF := Lib.hid (fun w hi => To_edge M1 (hG.mono hle) r l (hr.mono hle) p hp h0 u h1 h3 w hi)
  clear hi hc hG hr hM hM1 hle
  have hi := hi1; clear hi1
  (have HS := St.start hi; go_enter Tryd.func23, Tryd.ntmps23)
  go_wp2_with (first | ((with_reducible refine' q_alloc ?_); refine' a_alloc HS ?_; clear HS; intro b_ w_ HS) | ((with_reducible refine' q_box ?_); refine' a_box HS ?_; clear HS; intro b_ w_ HS) | ((with_reducible refine' q_load ?_); refine' a_load HS ?_) | ((with_reducible refine' q_store ?_); refine' a_store HS ?_; clear HS; intro w_ HS))
  refine wp_region_plan [] [(true, 0), (true, 1), (true, 2), (true, 3), (true, 4), (true, 5), (true, 6), (true, 7), (true, 8), (true, 9), (false, 10), (true, 11), (true, 12), (true, 13), (true, 14)] (fun W_ => St _ _ W_ _ _) (by kernel_rfl) (by kernel_rfl) rfl (by kernel_rfl) (HS).drew ?_
  have HS_ := HS.drew; clear HS; have HS := HS_; clear HS_
  refine' a_dSoft rfl ?_
  (try simp only [Act.put, List.setIfInBounds_toArray, List.set_cons_zero, List.set_cons_succ])
  refine' a_dSoft rfl ?_
  (try simp only [Act.put, List.setIfInBounds_toArray, List.set_cons_zero, List.set_cons_succ])
  refine' a_dSoft rfl ?_
  (try simp only [Act.put, List.setIfInBounds_toArray, List.set_cons_zero, List.set_cons_succ])
  (first | refine' a_dLoad rfl (fun w_ hw_ => hw_) ?_ | refine' a_dLoadC rfl (fun w_ hw_ => hw_) ?_)
  (try simp only [Act.put, List.setIfInBounds_toArray, List.set_cons_zero, List.set_cons_succ])
  refine' a_dSoft rfl ?_
  (try simp only [Act.put, List.setIfInBounds_toArray, List.set_cons_zero, List.set_cons_succ])
  refine' a_dSoft rfl ?_
  (try simp only [Act.put, List.setIfInBounds_toArray, List.set_cons_zero, List.set_cons_succ])
  refine' a_dSoft rfl ?_
  (try simp only [Act.put, List.setIfInBounds_toArray, List.set_cons_zero, List.set_cons_succ])
  refine' a_dSoft rfl ?_
  (try simp only [Act.put, List.setIfInBounds_toArray, List.set_cons_zero, List.set_cons_succ])
  (first | refine' a_dLoad rfl (fun w_ hw_ => hw_) ?_ | refine' a_dLoadC rfl (fun w_ hw_ => hw_) ?_)
  (try simp only [Act.put, List.setIfInBounds_toArray, List.set_cons_zero, List.set_cons_succ])
  refine' a_dSoft rfl ?_
  (try simp only [Act.put, List.setIfInBounds_toArray, List.set_cons_zero, List.set_cons_succ])
  refine dHard rfl ?_
  refine' st_call ?hw Tryd.func42 (by kernel_rfl) rfl ?hargs (HF.out _ HS.imm) ?_
  case hw => rfl
  case hargs => first | rfl | (go_simp; done)
  rintro e w_ ⟨rfl, hb_⟩
  (have HS_ := HS.call hb_; clear HS hb_; have HS := HS_; clear HS_)
  refine ⟨_, rfl, ?_⟩
  refine lexD_done (fun _ => HS) ?_
  (try simp only [Act.put, List.setIfInBounds_toArray, List.set_cons_zero, List.set_cons_succ])
  refine' a_dSoft rfl ?_
  (try simp only [Act.put, List.setIfInBounds_toArray, List.set_cons_zero, List.set_cons_succ])
  refine' a_dSoft rfl ?_
  (try simp only [Act.put, List.setIfInBounds_toArray, List.set_cons_zero, List.set_cons_succ])
  refine' a_dSoft rfl ?_
  (try simp only [Act.put, List.setIfInBounds_toArray, List.set_cons_zero, List.set_cons_succ])
  refine' a_dSoft rfl ?_
  (try simp only [Act.put, List.setIfInBounds_toArray, List.set_cons_zero, List.set_cons_succ])
  refine lexD_end ?_
  go_wp2_with (first | ((with_reducible refine' q_alloc ?_); refine' a_alloc HS ?_; clear HS; intro b_ w_ HS) | ((with_reducible refine' q_box ?_); refine' a_box HS ?_; clear HS; intro b_ w_ HS) | ((with_reducible refine' q_load ?_); refine' a_load HS ?_) | ((with_reducible refine' q_store ?_); refine' a_store HS ?_; clear HS; intro w_ HS))
  go_ret2
  exact ⟨rfl, HS.below⟩

theorem Place_bad (M : Mem) (r : Nat) (c p : Nat) (u : Int) (h1 : ¬ (1 ≤ u ∧ u ≤ 3)) (hM : M c = none) (w : World) (hi : Imm M w) (hc : w.heap[c]? = some (curC p r)) :
    Calls Tryd.prog 23 #[ptr c, .int .i64 u] w fun e w' => e = .returned (.tuple #[.int .i64 0, .int .i64 3]) ∧ Below w.heap.size w w' := by
  obtain ⟨M1, hM1⟩ : ∃ M1, M1 = M.add c (curC p r) := ⟨_, rfl⟩
  have hle : M.le M1 := hM1 ▸ Mem.le_add hM
  have hcM : M1 c = some (curC p r) := hM1 ▸ Mem.add_same _ _ _
  have hi1 : Imm M1 w := fun b o e => by
    rw [hM1] at e
    unfold Mem.add at e
    split at e
    · rename_i hb; subst hb; cases e; exact hc
    · exact hi b o e
  have HF := Lib.hid (fun w hi => To_bad M1 r p u h1 w hi)
  clear hi hc hM hM1 hle
  have hi := hi1; clear hi1
  (have HS := St.start hi; go_enter Tryd.func23, Tryd.ntmps23)
  go_wp2_with (first | ((with_reducible refine' q_alloc ?_); refine' a_alloc HS ?_; clear HS; intro b_ w_ HS) | ((with_reducible refine' q_box ?_); refine' a_box HS ?_; clear HS; intro b_ w_ HS) | ((with_reducible refine' q_load ?_); refine' a_load HS ?_) | ((with_reducible refine' q_store ?_); refine' a_store HS ?_; clear HS; intro w_ HS))
  refine wp_region_plan [] [(true, 0), (true, 1), (true, 2), (true, 3), (true, 4), (true, 5), (true, 6), (true, 7), (true, 8), (true, 9), (false, 10), (true, 11), (true, 12), (true, 13), (true, 14)] (fun W_ => St _ _ W_ _ _) (by kernel_rfl) (by kernel_rfl) rfl (by kernel_rfl) (HS).drew ?_
  have HS_ := HS.drew; clear HS; have HS := HS_; clear HS_
  refine' a_dSoft rfl ?_
  (try simp only [Act.put, List.setIfInBounds_toArray, List.set_cons_zero, List.set_cons_succ])
  refine' a_dSoft rfl ?_
  (try simp only [Act.put, List.setIfInBounds_toArray, List.set_cons_zero, List.set_cons_succ])
  refine' a_dSoft rfl ?_
  (try simp only [Act.put, List.setIfInBounds_toArray, List.set_cons_zero, List.set_cons_succ])
  (first | refine' a_dLoad rfl (fun w_ hw_ => hw_) ?_ | refine' a_dLoadC rfl (fun w_ hw_ => hw_) ?_)
  (try simp only [Act.put, List.setIfInBounds_toArray, List.set_cons_zero, List.set_cons_succ])
  refine' a_dSoft rfl ?_
  (try simp only [Act.put, List.setIfInBounds_toArray, List.set_cons_zero, List.set_cons_succ])
  refine' a_dSoft rfl ?_
  (try simp only [Act.put, List.setIfInBounds_toArray, List.set_cons_zero, List.set_cons_succ])
  refine' a_dSoft rfl ?_
  (try simp only [Act.put, List.setIfInBounds_toArray, List.set_cons_zero, List.set_cons_succ])
  refine' a_dSoft rfl ?_
  (try simp only [Act.put, List.setIfInBounds_toArray, List.set_cons_zero, List.set_cons_succ])
  (first | refine' a_dLoad rfl (fun w_ hw_ => hw_) ?_ | refine' a_dLoadC rfl (fun w_ hw_ => hw_) ?_)
  (try simp only [Act.put, List.setIfInBounds_toArray, List.set_cons_zero, List.set_cons_succ])
  refine' a_dSoft rfl ?_
  (try simp only [Act.put, List.setIfInBounds_toArray, List.set_cons_zero, List.set_cons_succ])
  refine dHard rfl ?_
  refine' st_call ?hw Tryd.func42 (by kernel_rfl) rfl ?hargs (HF.out _ HS.imm) ?_
  case hw => rfl
  case hargs => first | rfl | (go_simp; done)
  rintro e w_ ⟨rfl, hb_⟩
  (have HS_ := HS.call hb_; clear HS hb_; have HS := HS_; clear HS_)
  refine ⟨_, rfl, ?_⟩
  refine lexD_done (fun _ => HS) ?_
  (try simp only [Act.put, List.setIfInBounds_toArray, List.set_cons_zero, List.set_cons_succ])
  refine' a_dSoft rfl ?_
  (try simp only [Act.put, List.setIfInBounds_toArray, List.set_cons_zero, List.set_cons_succ])
  refine' a_dSoft rfl ?_
  (try simp only [Act.put, List.setIfInBounds_toArray, List.set_cons_zero, List.set_cons_succ])
  refine' a_dSoft rfl ?_
  (try simp only [Act.put, List.setIfInBounds_toArray, List.set_cons_zero, List.set_cons_succ])
  refine' a_dSoft rfl ?_
  (try simp only [Act.put, List.setIfInBounds_toArray, List.set_cons_zero, List.set_cons_succ])
  refine lexD_end ?_
  go_wp2_with (first | ((with_reducible refine' q_alloc ?_); refine' a_alloc HS ?_; clear HS; intro b_ w_ HS) | ((with_reducible refine' q_box ?_); refine' a_box HS ?_; clear HS; intro b_ w_ HS) | ((with_reducible refine' q_load ?_); refine' a_load HS ?_) | ((with_reducible refine' q_store ?_); refine' a_store HS ?_; clear HS; intro w_ HS))
  go_ret2
  exact ⟨rfl, HS.below⟩


theorem Place_nil (M : Mem) (u : Int) (w : World) (hi : Imm M w) :
    Calls Tryd.prog 23 #[.pointer none, .int .i64 u] w fun e w' => e = .returned (.tuple #[.int .i64 0, .int .i64 1]) ∧ Below w.heap.size w w' := by
  (have HS := St.start hi; go_enter Tryd.func23, Tryd.ntmps23)
  go_wp2_with (first | ((with_reducible refine' q_alloc ?_); refine' a_alloc HS ?_; clear HS; intro b_ w_ HS) | ((with_reducible refine' q_box ?_); refine' a_box HS ?_; clear HS; intro b_ w_ HS) | ((with_reducible refine' q_load ?_); refine' a_load HS ?_) | ((with_reducible refine' q_store ?_); refine' a_store HS ?_; clear HS; intro w_ HS))
  go_ret2
  exact ⟨rfl, HS.below⟩
theorem Next_nil (M : Mem) (w : World) (hi : Imm M w) :
    Calls Tryd.prog 19 #[.pointer none] w fun e w' => e = .returned (.tuple #[st0, .bool false]) ∧ Below w.heap.size w w' := by
  (have HS := St.start hi; go_enter Tryd.func19, Tryd.ntmps19)
  go_wp2_with (first | ((with_reducible refine' q_alloc ?_); refine' a_alloc HS ?_; clear HS; intro b_ w_ HS) | ((with_reducible refine' q_box ?_); refine' a_box HS ?_; clear HS; intro b_ w_ HS) | ((with_reducible refine' q_load ?_); refine' a_load HS ?_) | ((with_reducible refine' q_store ?_); refine' a_store HS ?_; clear HS; intro w_ HS))
  (refine post_cell_tmp (p := 2) (T := 43) rfl HS rfl rfl (by (first | (apply Blk.loc; (repeat (first | (with_reducible exact List.mem_cons_self) | apply List.mem_cons_of_mem)); done) | (apply Blk.imm; with_reducible assumption))) (by exact Eq.refl true) ?_)
  exact ⟨rfl, HS.below⟩
theorem Prev_nil (M : Mem) (w : World) (hi : Imm M w) :
    Calls Tryd.prog 20 #[.pointer none] w fun e w' => e = .returned (.tuple #[st0, .bool false]) ∧ Below w.heap.size w w' := by
  (have HS := St.start hi; go_enter Tryd.func20, Tryd.ntmps20)
  go_wp2_with (first | ((with_reducible refine' q_alloc ?_); refine' a_alloc HS ?_; clear HS; intro b_ w_ HS) | ((with_reducible refine' q_box ?_); refine' a_box HS ?_; clear HS; intro b_ w_ HS) | ((with_reducible refine' q_load ?_); refine' a_load HS ?_) | ((with_reducible refine' q_store ?_); refine' a_store HS ?_; clear HS; intro w_ HS))
  (refine post_cell_tmp (p := 2) (T := 43) rfl HS rfl rfl (by (first | (apply Blk.loc; (repeat (first | (with_reducible exact List.mem_cons_self) | apply List.mem_cons_of_mem)); done) | (apply Blk.imm; with_reducible assumption))) (by exact Eq.refl true) ?_)
  exact ⟨rfl, HS.below⟩

set_option maxHeartbeats 2000000 in
theorem Next_in (M : Mem) (hG : Gl M) (r : Nat) (l : List UInt8) (hr : RopeAt M r l) (c p : Nat) (hp : p < l.length) (h0 : inside l p = 0) (hM : M c = none) (w : World) (hi : Imm M w) (hc : w.heap[c]? = some (curC p r)) :
    Calls Tryd.prog 19 #[ptr c] w fun e w' => e = .returned (.tuple #[stV (stp (l.drop p)), .bool true]) ∧ Turned c (curC (p + (stp (l.drop p)).w : Nat) r) w w' := by
  have HS := St.startC hi hc hM
  have hF := fun w hi => SStep_in M hG r l hr p hp w hi
  rw [floor_self h0] at hF
  have hs4 := stp_w (l.drop p)
  obtain ⟨s, hs⟩ : ∃ s, s = stp (l.drop p) := ⟨_, rfl⟩
  rw [← hs] at hF hs4 ⊢
  have HF := Lib.hid hF
  have hm := hr.small
  have hT := fun (w : World) (hi : Imm M w) (hc : w.heap[c]? = some (curC p r)) => forwards_any M c r p s hM (by omega) hs4.2 w hi hc
  have HT := Lib.hid hT
  clear hi hc hF hs hT hG hr hs4
  go_enter Tryd.func19, Tryd.ntmps19
  go_wp2_with (first | ((with_reducible refine' q_alloc ?_); refine' a_alloc HS ?_; clear HS; intro b_ w_ HS) | ((with_reducible refine' q_box ?_); refine' a_box HS ?_; clear HS; intro b_ w_ HS) | ((with_reducible refine' q_load ?_); refine' a_load HS ?_) | ((with_reducible refine' q_store ?_); refine' a_store HS ?_; clear HS; intro w_ HS))
  refine' wp_region_tree1 [] (.soft 0 (.soft 1 (.soft 2 (.soft 3 (.soft 4 (.soft 5 (.soft 6 (.soft 7 (.soft 8 (.two 9 (.soft 10 (.soft 11 (.soft 12 (.soft 13 (.one 14 (.soft 15 (.one 16 (.soft 17 .done)))))))) 14 (.one 9 (.soft 10 (.soft 11 (.soft 12 (.soft 13 (.soft 15 (.one 16 (.soft 17 .done)))))))))))))))))) (fun W_ => St _ _ W_ _ _) (by kernel_rfl) (by kernel_rfl) (by kernel_rfl) (by kernel_rfl) (HS).drew ?htree ?_
  case htree =>
    have HS_ := HS.drew; have HS := HS_; clear HS_
    refine lexT_soft ?_
    refine' a_dSoft rfl ?_
    refine ⟨rfl, ?_⟩
    (try simp only [Act.put, List.setIfInBounds_toArray, List.set_cons_zero, List.set_cons_succ])
    refine lexT_soft ?_
    refine' a_dSoft rfl ?_
    refine ⟨rfl, ?_⟩
    (try simp only [Act.put, List.setIfInBounds_toArray, List.set_cons_zero, List.set_cons_succ])
    refine lexT_soft ?_
    refine' a_dSoft rfl ?_
    refine ⟨rfl, ?_⟩
    (try simp only [Act.put, List.setIfInBounds_toArray, List.set_cons_zero, List.set_cons_succ])
    refine lexT_soft ?_
    (first | refine' a_dLoad rfl (fun w_ hw_ => hw_) ?_ | refine' a_dLoadC rfl (fun w_ hw_ => hw_) ?_)
    refine ⟨rfl, ?_⟩
    (try simp only [Act.put, List.setIfInBounds_toArray, List.set_cons_zero, List.set_cons_succ])
    refine lexT_soft ?_
    refine' a_dSoft rfl ?_
    refine ⟨rfl, ?_⟩
    (try simp only [Act.put, List.setIfInBounds_toArray, List.set_cons_zero, List.set_cons_succ])
    refine lexT_soft ?_
    refine' a_dSoft rfl ?_
    refine ⟨rfl, ?_⟩
    (try simp only [Act.put, List.setIfInBounds_toArray, List.set_cons_zero, List.set_cons_succ])
    refine lexT_soft ?_
    refine' a_dSoft rfl ?_
    refine ⟨rfl, ?_⟩
    (try simp only [Act.put, List.setIfInBounds_toArray, List.set_cons_zero, List.set_cons_succ])
    refine lexT_soft ?_
    refine' a_dSoft rfl ?_
    refine ⟨rfl, ?_⟩
    (try simp only [Act.put, List.setIfInBounds_toArray, List.set_cons_zero, List.set_cons_succ])
    refine lexT_soft ?_
    (first | refine' a_dLoad rfl (fun w_ hw_ => hw_) ?_ | refine' a_dLoadC rfl (fun w_ hw_ => hw_) ?_)
    refine ⟨rfl, ?_⟩
    (try simp only [Act.put, List.setIfInBounds_toArray, List.set_cons_zero, List.set_cons_succ])
    refine ⟨?_, ?_⟩
    · refine lexT_hardL rfl ?_
      refine' st_call ?hw Tryd.func40 (by kernel_rfl) rfl ?hargs (HF.out _ HS.imm) ?_
      case hw => rfl
      case hargs => first | rfl | (go_simp; done)
      rintro e w_ ⟨rfl, hb_⟩
      (have HS_ := HS.call hb_; clear HS hb_; have HS := HS_; clear HS_)
      refine ⟨_, rfl, ?_⟩
      refine lexT_next (fun _ => HS) ?_
      (try simp only [Act.put, List.setIfInBounds_toArray, List.set_cons_zero, List.set_cons_succ])
      refine lexT_soft ?_
      refine' a_dSoft rfl ?_
      refine ⟨rfl, ?_⟩
      (try simp only [Act.put, List.setIfInBounds_toArray, List.set_cons_zero, List.set_cons_succ])
      refine lexT_soft ?_
      refine' a_dSoft rfl ?_
      refine ⟨rfl, ?_⟩
      (try simp only [Act.put, List.setIfInBounds_toArray, List.set_cons_zero, List.set_cons_succ])
      refine lexT_soft ?_
      refine' a_dSoft rfl ?_
      refine ⟨rfl, ?_⟩
      (try simp only [Act.put, List.setIfInBounds_toArray, List.set_cons_zero, List.set_cons_succ])
      refine lexT_soft ?_
      refine' a_dSoft rfl ?_
      refine ⟨rfl, ?_⟩
      (try simp only [Act.put, List.setIfInBounds_toArray, List.set_cons_zero, List.set_cons_succ])
      refine lexT_hardL rfl ?_
      ((with_reducible refine' q_alloc ?_); refine' a_alloc HS ?_; clear HS; intro b14_ w_ HS)
      refine lexT_next (fun _ => HS.drop) ?_
      (try simp only [Act.put, List.setIfInBounds_toArray, List.set_cons_zero, List.set_cons_succ])
      refine lexT_soft ?_
      refine' a_dSoft rfl ?_
      refine ⟨rfl, ?_⟩
      (try simp only [Act.put, List.setIfInBounds_toArray, List.set_cons_zero, List.set_cons_succ])
      refine lexT_hardL rfl ?_
      ((with_reducible refine' q_store ?_); refine' a_store HS ?_; clear HS; intro w_ HS)
      refine lexT_next (fun _ => HS.drop) ?_
      (try simp only [Act.put, List.setIfInBounds_toArray, List.set_cons_zero, List.set_cons_succ])
      refine lexT_soft ?_
      refine' a_dSoft rfl ?_
      refine ⟨rfl, ?_⟩
      (try simp only [Act.put, List.setIfInBounds_toArray, List.set_cons_zero, List.set_cons_succ])
      (first | exact lexT_end ⟨b14_, rfl, HS⟩ | exact lexT_end ⟨b14_, rfl, HS.perm (.swap _ _ _)⟩)
    · refine lexT_hardL rfl ?_
      ((with_reducible refine' q_alloc ?_); refine' a_alloc HS ?_; clear HS; intro b14_ w_ HS)
      refine lexT_next (fun _ => HS.drop) ?_
      (try simp only [Act.put, List.setIfInBounds_toArray, List.set_cons_zero, List.set_cons_succ])
      refine lexT_hardL rfl ?_
      refine' st_call ?hw Tryd.func40 (by kernel_rfl) rfl ?hargs (HF.out _ HS.imm) ?_
      case hw => rfl
      case hargs => first | rfl | (go_simp; done)
      rintro e w_ ⟨rfl, hb_⟩
      (have HS_ := HS.call hb_; clear HS hb_; have HS := HS_; clear HS_)
      refine ⟨_, rfl, ?_⟩
      refine lexT_next (fun _ => HS.drop) ?_
      (try simp only [Act.put, List.setIfInBounds_toArray, List.set_cons_zero, List.set_cons_succ])
      refine lexT_soft ?_
      refine' a_dSoft rfl ?_
      refine ⟨rfl, ?_⟩
      (try simp only [Act.put, List.setIfInBounds_toArray, List.set_cons_zero, List.set_cons_succ])
      refine lexT_soft ?_
      refine' a_dSoft rfl ?_
      refine ⟨rfl, ?_⟩
      (try simp only [Act.put, List.setIfInBounds_toArray, List.set_cons_zero, List.set_cons_succ])
      refine lexT_soft ?_
      refine' a_dSoft rfl ?_
      refine ⟨rfl, ?_⟩
      (try simp only [Act.put, List.setIfInBounds_toArray, List.set_cons_zero, List.set_cons_succ])
      refine lexT_soft ?_
      refine' a_dSoft rfl ?_
      refine ⟨rfl, ?_⟩
      (try simp only [Act.put, List.setIfInBounds_toArray, List.set_cons_zero, List.set_cons_succ])
      refine lexT_soft ?_
      refine' a_dSoft rfl ?_
      refine ⟨rfl, ?_⟩
      (try simp only [Act.put, List.setIfInBounds_toArray, List.set_cons_zero, List.set_cons_succ])
      refine lexT_hardL rfl ?_
      ((with_reducible refine' q_store ?_); refine' a_store HS ?_; clear HS; intro w_ HS)
      refine lexT_next (fun _ => HS.drop) ?_
      (try simp only [Act.put, List.setIfInBounds_toArray, List.set_cons_zero, List.set_cons_succ])
      refine lexT_soft ?_
      refine' a_dSoft rfl ?_
      refine ⟨rfl, ?_⟩
      (try simp only [Act.put, List.setIfInBounds_toArray, List.set_cons_zero, List.set_cons_succ])
      (first | exact lexT_end ⟨b14_, rfl, HS⟩ | exact lexT_end ⟨b14_, rfl, HS.perm (.swap _ _ _)⟩)
  clear HS
  intro b14_ w_ HS
  go_wp2_with (first | ((with_reducible refine' q_alloc ?_); refine' a_alloc HS ?_; clear HS; intro b_ w_ HS) | ((with_reducible refine' q_box ?_); refine' a_box HS ?_; clear HS; intro b_ w_ HS) | ((with_reducible refine' q_load ?_); refine' a_load HS ?_) | ((with_reducible refine' q_store ?_); refine' a_store HS ?_; clear HS; intro w_ HS))
  have HSd := HS.init (K := [_, _])
  refine wp_region_plan [] [(true, 0), (true, 1), (true, 2), (true, 3), (false, 4)] (fun W_ => St _ _ W_ _ _) (by kernel_rfl) (by kernel_rfl) rfl (by kernel_rfl) (HSd).drew ?_
  have HS_ := HS.drew; clear HS; have HS := HS_; clear HS_
  refine' a_dSoft rfl ?_
  (try simp only [Act.put, List.setIfInBounds_toArray, List.set_cons_zero, List.set_cons_succ])
  refine' a_dSoft rfl ?_
  (try simp only [Act.put, List.setIfInBounds_toArray, List.set_cons_zero, List.set_cons_succ])
  refine' a_dSoft rfl ?_
  (try simp only [Act.put, List.setIfInBounds_toArray, List.set_cons_zero, List.set_cons_succ])
  (first | refine' a_dLoad rfl (fun w_ hw_ => hw_) ?_ | refine' a_dLoadC rfl (fun w_ hw_ => hw_) ?_)
  (try simp only [Act.put, List.setIfInBounds_toArray, List.set_cons_zero, List.set_cons_succ])
  refine dHard rfl ?_
  refine' st_call ?hw Tryd.func61 (by kernel_rfl) rfl ?hargs (HT.out _ HS.imm (HS.loc _ (.tail _ (.tail _ (.head _))))) ?_
  case hw => rfl
  case hargs => first | rfl | (go_simp; done)
  rintro e w_ ⟨v, rfl, ht⟩
  have HS_ := HS.turn (.tail _ (.tail _ (.head _))) ht; clear HS; have HS := HS_; clear HS_
  refine ⟨_, rfl, ?_⟩
  refine lexD_done (fun _ => HS.init (K := [_, _])) ?_
  (try simp only [Act.put, List.setIfInBounds_toArray, List.set_cons_zero, List.set_cons_succ])
  refine lexD_end ?_
  go_wp2_with (first | ((with_reducible refine' q_alloc ?_); refine' a_alloc HS ?_; clear HS; intro b_ w_ HS) | ((with_reducible refine' q_box ?_); refine' a_box HS ?_; clear HS; intro b_ w_ HS) | ((with_reducible refine' q_load ?_); refine' a_load HS ?_) | ((with_reducible refine' q_store ?_); refine' a_store HS ?_; clear HS; intro w_ HS))
  (refine post_cell_tmp (p := 2) (T := 43) rfl HS rfl rfl (by (first | (apply Blk.loc; (repeat (first | (with_reducible exact List.mem_cons_self) | apply List.mem_cons_of_mem)); done) | (apply Blk.imm; with_reducible assumption))) (by exact Eq.refl true) ?_)
  exact ⟨rfl, HS.turnedC (.tail _ (.tail _ (.head _)))⟩
end Go.Proofs.YtbogoehjoglneaaDoor
