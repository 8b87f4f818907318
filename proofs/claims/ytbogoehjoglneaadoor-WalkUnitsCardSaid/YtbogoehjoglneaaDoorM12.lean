/- The reference of layer 2: at, in, Long, Inside, Of: what the Go functions answer. -/
import Derived.Test.YtbogoehjoglneaaDoorM8
import Derived.Test.YtbogoehjoglneaaDoorM9
import Derived.Test.YtbogoehjoglneaaDoorM10
set_option linter.unusedVariables false
set_option linter.unusedSimpArgs false
set_option linter.unnecessarySimpa false
set_option linter.unusedSectionVars false
namespace Go.Proofs.YtbogoehjoglneaaDoor
open Go.RowKit
set_option linter.unusedVariables false
set_option linter.unusedSimpArgs false
set_option maxRecDepth 100000
attribute [local go_sem] byt_drop byt_tail Int.toNat_natCast sOf_size

/- The byte at a place as the reference has it: -1 for none. -/
def atV (l : List UInt8) (p : Nat) : Int := if p < l.length then (byt l p : Int) else -1
theorem atV_in {l : List UInt8} {p : Nat} (h : p < l.length) : atV l p = (byt l p : Int) := if_pos h
theorem atV_out {l : List UInt8} {p : Nat} (h : l.length ≤ p) : atV l p = -1 := if_neg (by omega)
theorem atV_or (l : List UInt8) (p : Nat) : (byt l p < 256 ∧ atV l p = (byt l p : Int)) ∨ (byt l p = 256 ∧ atV l p = -1) := by
  rcases Nat.lt_or_ge p l.length with h | h
  · exact .inl ⟨(byt_lt h).2, atV_in h⟩
  · exact .inr ⟨byt_ge h, atV_out h⟩

theorem rat_any (M : Mem) (A : Option Addr) (c n : Nat) (l : List UInt8) (hb : BS M A c l) (hn : n = l.length) (p : Nat) (hp : p ≤ 1152921504606846976) (w : World) (hi : Imm M w) :
    Calls Tryd.prog 116 #[.slice A n c, .int .i64 p] w fun e w' => e = .returned (.int .i64 (atV l p)) ∧ Below w.heap.size w w' := by
  subst hn
  by_cases h : p < l.length
  · have h' : (p : Int) < l.length := by omega
    have hbl := byt_le l p
    rw [atV_in h]
    (have HS := St.start hi; go_enter Tryd.func116, Tryd.ntmps116)
    have hb8 := (byt_lt h).1
    go_wp2_with (first | ((with_reducible refine' st_indexAddr_bs (T := 28) (e := 5) ?hw Tryd.underlying28 (by kernel_rfl) ?hx ?hb ?hn ?hi ?hj ?_); (case hw => rfl); (case hx => first | exact eval_lit rfl | rfl); (case hb => assumption); (case hn => (first | rfl | omega | (simp; done) | (simp; omega))); (case hi => first | exact eval_lit rfl | rfl); (case hj => first | omega | (simp; omega)); intro b_ o_ hc_) | ((with_reducible refine' st_load_cellM ?hw HS ?hx ?hc ?_); (case hw => rfl); (case hx => first | exact eval_lit rfl | rfl); (case hc => assumption)))
    go_ret
    exact ⟨congrArg (fun z => Ending.returned (Value.int .i64 z)) (by rw [hb8]), HS.below⟩
  · have h' : (l.length : Int) ≤ p := by omega
    rw [atV_out (by omega)]
    (have HS := St.start hi; go_enter Tryd.func116, Tryd.ntmps116)
    go_wp2
    go_ret
    exact ⟨rfl, HS.below⟩

theorem rin_any (M : Mem) (x lo up : Int) (w : World) (hi : Imm M w) :
    Calls Tryd.prog 117 #[.int .i64 x, .int .i64 lo, .int .i64 up] w fun e w' => e = .returned (.bool (decide (lo ≤ x ∧ x ≤ up))) ∧ Below w.heap.size w w' := by
  by_cases h : lo ≤ x
  · (have HS := St.start hi; go_enter Tryd.func117, Tryd.ntmps117)
    go_wp2
    go_ret
    exact ⟨congrArg (fun z => Ending.returned (Value.bool z)) (by simp [h]), HS.below⟩
  · rw [decide_eq_false (fun h' => h h'.1)]
    (have HS := St.start hi; go_enter Tryd.func117, Tryd.ntmps117)
    go_wp2
    go_ret
    exact ⟨rfl, HS.below⟩

/- How many bytes an encoding has, by the reference's table. -/
def longN (x y z w : Int) : Int :=
  if 0 ≤ x ∧ x ≤ 127 then 1
  else if (194 ≤ x ∧ x ≤ 223) ∧ (128 ≤ y ∧ y ≤ 191) then 2
  else if (128 ≤ z ∧ z ≤ 191) ∧ ((x = 224 ∧ 160 ≤ y ∧ y ≤ 191) ∨ ((225 ≤ x ∧ x ≤ 236) ∧ 128 ≤ y ∧ y ≤ 191) ∨ (x = 237 ∧ 128 ≤ y ∧ y ≤ 159) ∨ ((238 ≤ x ∧ x ≤ 239) ∧ 128 ≤ y ∧ y ≤ 191)) then 3
  else if (128 ≤ z ∧ z ≤ 191) ∧ (128 ≤ w ∧ w ≤ 191) ∧ ((x = 240 ∧ 144 ≤ y ∧ y ≤ 191) ∨ ((241 ≤ x ∧ x ≤ 243) ∧ 128 ≤ y ∧ y ≤ 191) ∨ (x = 244 ∧ 128 ≤ y ∧ y ≤ 143)) then 4
  else 0
theorem atV_rng {x : Int} {x' : Nat} (h : (x' < 256 ∧ x = (x' : Int)) ∨ (x' = 256 ∧ x = -1)) (lo hi : Nat) (hh : hi < 256) : ((lo : Int) ≤ x ∧ x ≤ (hi : Int)) ↔ (lo ≤ x' ∧ x' ≤ hi) := by omega
theorem atV_eq {x : Int} {x' : Nat} (h : (x' < 256 ∧ x = (x' : Int)) ∨ (x' = 256 ∧ x = -1)) (k : Nat) (hh : k < 256) : x = (k : Int) ↔ x' = k := by omega
theorem longN_enc (l : List UInt8) (p : Nat) : longN (atV l p) (atV l (p + 1)) (atV l (p + 2)) (atV l (p + 3)) = (enc (l.drop p) : Int) := by
  unfold enc
  simp only [byt_drop, Nat.add_zero]
  have a := atV_or l p
  have b := atV_or l (p + 1)
  have c := atV_or l (p + 2)
  have d := atV_or l (p + 3)
  generalize atV l p = x at *
  generalize atV l (p + 1) = y at *
  generalize atV l (p + 2) = z at *
  generalize atV l (p + 3) = v at *
  generalize byt l p = x' at *
  generalize byt l (p + 1) = y' at *
  generalize byt l (p + 2) = z' at *
  generalize byt l (p + 3) = v' at *
  have e0 : (0 ≤ x ∧ x ≤ 127) ↔ x' ≤ 127 := (atV_rng a 0 127 (by decide)).trans ⟨fun h => h.2, fun h => ⟨Nat.zero_le _, h⟩⟩
  have e1 : ((194 ≤ x ∧ x ≤ 223) ↔ (194 ≤ x' ∧ x' ≤ 223)) := atV_rng a 194 223 (by decide)
  have e2 : ((225 ≤ x ∧ x ≤ 236) ↔ (225 ≤ x' ∧ x' ≤ 236)) := atV_rng a 225 236 (by decide)
  have e3 : ((238 ≤ x ∧ x ≤ 239) ↔ (238 ≤ x' ∧ x' ≤ 239)) := atV_rng a 238 239 (by decide)
  have e4 : ((241 ≤ x ∧ x ≤ 243) ↔ (241 ≤ x' ∧ x' ≤ 243)) := atV_rng a 241 243 (by decide)
  have e5 : x = 224 ↔ x' = 224 := atV_eq a 224 (by decide)
  have e6 : x = 237 ↔ x' = 237 := atV_eq a 237 (by decide)
  have e7 : x = 240 ↔ x' = 240 := atV_eq a 240 (by decide)
  have e8 : x = 244 ↔ x' = 244 := atV_eq a 244 (by decide)
  have e9 : ((128 ≤ y ∧ y ≤ 191) ↔ (128 ≤ y' ∧ y' ≤ 191)) := atV_rng b 128 191 (by decide)
  have e10 : ((160 ≤ y ∧ y ≤ 191) ↔ (160 ≤ y' ∧ y' ≤ 191)) := atV_rng b 160 191 (by decide)
  have e11 : ((128 ≤ y ∧ y ≤ 159) ↔ (128 ≤ y' ∧ y' ≤ 159)) := atV_rng b 128 159 (by decide)
  have e12 : ((144 ≤ y ∧ y ≤ 191) ↔ (144 ≤ y' ∧ y' ≤ 191)) := atV_rng b 144 191 (by decide)
  have e13 : ((128 ≤ y ∧ y ≤ 143) ↔ (128 ≤ y' ∧ y' ≤ 143)) := atV_rng b 128 143 (by decide)
  have e14 : ((128 ≤ z ∧ z ≤ 191) ↔ (128 ≤ z' ∧ z' ≤ 191)) := atV_rng c 128 191 (by decide)
  have e15 : ((128 ≤ v ∧ v ≤ 191) ↔ (128 ≤ v' ∧ v' ≤ 191)) := atV_rng d 128 191 (by decide)
  unfold longN encN
  simp only [e0, e1, e2, e3, e4, e5, e6, e7, e8, e9, e10, e11, e12, e13, e14, e15]
  (repeat' split) <;> rfl

set_option maxHeartbeats 8000000 in
theorem Long_any (M : Mem) (A : Option Addr) (c n : Nat) (l : List UInt8) (hb : BS M A c l) (hn : n = l.length) (p : Nat) (hp : p ≤ 576460752303423488) (w : World) (hi : Imm M w) :
    Calls Tryd.prog 97 #[.slice A n c, .int .i64 p] w fun e w' => e = .returned (.int .i64 (enc (l.drop p))) ∧ Below w.heap.size w w' := by
  rw [← longN_enc]
  have H0 := fun w hi => rat_any M A c n l hb hn p (by omega) w hi
  have H1 : ∀ w, Imm M w → Calls Tryd.prog 116 #[.slice A n c, .int .i64 ((p : Int) + 1)] w fun e w' => e = .returned (.int .i64 (atV l (p + 1))) ∧ Below w.heap.size w w' := fun w hi => by
    have := rat_any M A c n l hb hn (p + 1) (by omega) w hi
    rwa [Int.natCast_add] at this
  have H2 : ∀ w, Imm M w → Calls Tryd.prog 116 #[.slice A n c, .int .i64 ((p : Int) + 2)] w fun e w' => e = .returned (.int .i64 (atV l (p + 2))) ∧ Below w.heap.size w w' := fun w hi => by
    have := rat_any M A c n l hb hn (p + 2) (by omega) w hi
    rwa [Int.natCast_add] at this
  have H3 : ∀ w, Imm M w → Calls Tryd.prog 116 #[.slice A n c, .int .i64 ((p : Int) + 3)] w fun e w' => e = .returned (.int .i64 (atV l (p + 3))) ∧ Below w.heap.size w w' := fun w hi => by
    have := rat_any M A c n l hb hn (p + 3) (by omega) w hi
    rwa [Int.natCast_add] at this
  clear hb hn
  generalize atV l p = x at *
  generalize atV l (p + 1) = y at *
  generalize atV l (p + 2) = z at *
  generalize atV l (p + 3) = v at *
  have G0 := Lib.hid H0
  have G1 := Lib.hid H1
  have G2 := Lib.hid H2
  have G3 := Lib.hid H3
  clear H0 H1 H2 H3
  (have HS := St.start hi; go_enter Tryd.func97, Tryd.ntmps97)
  go_wp2_with (first | (go_at_call 116; (with_reducible refine (G0.out _ HS.imm).mono ?_); rintro e w_ ⟨rfl, hb_⟩; have HS_ := HS.call hb_; clear HS hb_; have HS := HS_; clear HS_) | (go_at_call 116; (with_reducible refine (G1.out _ HS.imm).mono ?_); rintro e w_ ⟨rfl, hb_⟩; have HS_ := HS.call hb_; clear HS hb_; have HS := HS_; clear HS_) | (go_at_call 116; (with_reducible refine (G2.out _ HS.imm).mono ?_); rintro e w_ ⟨rfl, hb_⟩; have HS_ := HS.call hb_; clear HS hb_; have HS := HS_; clear HS_) | (go_at_call 116; (with_reducible refine (G3.out _ HS.imm).mono ?_); rintro e w_ ⟨rfl, hb_⟩; have HS_ := HS.call hb_; clear HS hb_; have HS := HS_; clear HS_) | (go_at_call 117; (with_reducible refine (rin_any M _ _ _ _ HS.imm).mono ?_); rintro e w_ ⟨rfl, hb_⟩; have HS_ := HS.call hb_; clear HS hb_; have HS := HS_; clear HS_))
  all_goals
    go_ret
    refine ⟨congrArg (fun z => Ending.returned (Value.int .i64 z)) ?_, HS.below⟩
    first
      | (simp [longN, *]; done)
      | (unfold longN; (repeat' split) <;> first | rfl | omega)
end Go.Proofs.YtbogoehjoglneaaDoor

/- The reference of layer 2: Inside, Of, Floor: what the Go functions answer. -/
namespace Go.Proofs.YtbogoehjoglneaaDoor
open Go.RowKit
set_option linter.unusedVariables false
set_option linter.unusedSimpArgs false
set_option maxRecDepth 100000
attribute [local go_sem] byt_drop byt_tail Int.toNat_natCast sOf_size

set_option maxHeartbeats 1000000 in
theorem rInside_any (M : Mem) (A : Option Addr) (c n : Nat) (l : List UInt8) (hb : BS M A c l) (hn : n = l.length) (p : Nat) (hp : p ≤ 288230376151711744) (w : World) (hi : Imm M w) :
    Calls Tryd.prog 58 #[.slice A n c, .int .i64 p] w fun e w' => e = .returned (.bool (decide (inside l p ≠ 0))) ∧ Below w.heap.size w w' := by
  subst hn
  have HB := Lib.hid hb; clear hb
  (have HS := St.start hi; go_enter Tryd.func58, Tryd.ntmps58)
  go_wp2
  refine wp_loop_st (σ := Nat) (fun k a w1 => (∃ g2 g3 g4 g6 g7 g8 g9 g10 g11 g12 g13 g14 g15 g16 g17 g18 g19 g20 g21 g22 : Value, a = { tmps := #[.slice A l.length c, .int .i64 p, g2, g3, g4, .int .i64 k, g6, g7, g8, g9, g10, g11, g12, g13, g14, g15, g16, g17, g18, g19, g20, g21, g22], defers := [] }) ∧ 1 ≤ k ∧ k ≤ 4 ∧ (∀ j, 1 ≤ j → j < k → j ≤ p → ¬ (j < enc (l.drop (p - j)))) ∧
    St (fun k => w.heap.size ≤ k) w w1 M []) (fun k => 4 - k) 1
    ⟨⟨_, _, _, _, _, _, _, _, _, _, _, _, _, _, _, _, _, _, _, _, rfl⟩, Nat.le_refl _, by omega, fun j h1 h2 => (by omega), HS⟩ ?_
  clear HS hi
  rintro k a w1 ⟨⟨g2, g3, g4, g6, g7, g8, g9, g10, g11, g12, g13, g14, g15, g16, g17, g18, g19, g20, g21, g22, rfl⟩, hk1, hk4, hk, HS⟩
  have HK := Lib.hid hk; clear hk
  by_cases hc1 : (k : Int) ≤ 3
  · by_cases hc2 : k ≤ p
    · have hc2' : 0 ≤ (p : Int) - k := by omega
      have hL : ∀ w, Imm M w → Calls Tryd.prog 97 #[.slice A l.length c, .int .i64 ((p : Int) - k)] w fun e w' => e = .returned (.int .i64 (enc (l.drop (p - k)))) ∧ Below w.heap.size w w' := fun w hi => by
        have := Long_any M A c l.length l HB.out rfl (p - k) (by omega) w hi
        rwa [Int.natCast_sub hc2] at this
      have HL := Lib.hid hL; clear hL
      obtain ⟨m, hm⟩ : ∃ m, m = enc (l.drop (p - k)) := ⟨_, rfl⟩
      rw [← hm] at HL
      have HM := Lib.hid hm; clear hm
      by_cases hw : (k : Int) < m
      · go_wp2_with (first | (go_at_call 97; (with_reducible refine (HL.out _ HS.imm).mono ?_); rintro e w_ ⟨rfl, hb_⟩; have HS_ := HS.call hb_; clear HS hb_; have HS := HS_; clear HS_))
        go_ret
        have hi9 : inside l p = k := inside_spec hk1 hc2 (by rw [← HM.out]; omega)
        exact ⟨by rw [hi9, decide_eq_true (by omega)]; rfl, HS.below⟩
      · go_wp2_with (first | (go_at_call 97; (with_reducible refine (HL.out _ HS.imm).mono ?_); rintro e w_ ⟨rfl, hb_⟩; have HS_ := HS.call hb_; clear HS hb_; have HS := HS_; clear HS_))
        refine ⟨k + 1, ⟨⟨_, _, _, _, _, _, _, _, _, _, _, _, _, _, _, _, _, _, _, _, rfl⟩, by omega, by omega, fun j h1 h2 h3 => ?_, HS⟩, by omega⟩
        by_cases hjk : j = k
        · subst hjk; rw [← HM.out]; omega
        · exact HK.out j h1 (by omega) h3
    · have hc2' : ¬ 0 ≤ (p : Int) - k := by omega
      go_wp2
      exact ⟨k + 1, ⟨rfl, by omega, by omega, fun j h1 h2 h3 => by have := HK.out j h1 (by omega) h3; omega⟩, by omega⟩
  · have : k = 4 := by omega
    subst this
    have hi9 : inside l p = 0 := inside_none (fun j h1 h2 h3 => HK.out j h1 (by omega) h3)
    have HI := Lib.hid hi9; clear hi9
    go_wp2
    go_ret
    exact ⟨by rw [HI.out]; rfl, HS.below⟩

/- The reference's floor: it goes down byte by byte. -/
theorem floor_down {l : List UInt8} {p q : Nat} (h1 : floorN l p ≤ q) (h2 : q ≤ p) : (inside l q ≠ 0 ↔ floorN l p < q) := by
  rcases Nat.lt_or_ge (floorN l p) q with h | h
  · refine ⟨fun _ => h, fun _ e => ?_⟩
    have hp := floor_edge l p
    rcases Nat.lt_or_ge p l.length with hlt | hge
    · have := floor_within hp (q := q) (by omega) (by have := floor_step l p hlt; omega)
      rw [floor_self e] at this; omega
    · have := floor_self (inside_len l hge)
      omega
  · have : q = floorN l p := by omega
    subst this
    exact ⟨fun hh => absurd (floor_edge l p) hh, fun hh => by omega⟩

set_option maxHeartbeats 1000000 in
theorem rFloor_in (M : Mem) (A : Option Addr) (c n : Nat) (l : List UInt8) (hb : BS M A c l) (hn : n = l.length) (hl : l.length ≤ 268435456) (p : Nat) (hp : p ≤ l.length) (w : World) (hi : Imm M w) :
    Calls Tryd.prog 17 #[.slice A n c, .int .i64 p] w fun e w' => e = .returned (.tuple #[.int .i64 (floorN l p), .int .i64 0]) ∧ Below w.heap.size w w' := by
  subst hn
  have HB := Lib.hid hb; clear hb
  have hp' : ¬ (l.length : Int) < p := by omega
  (have HS := St.start hi; go_enter Tryd.func17, Tryd.ntmps17)
  go_wp2
  refine wp_loop_st (σ := Nat) (fun q a w1 => (∃ g2 g3 g4 g5 g6 g7 g8 g9 g10 g11 g12 g13 g14 g15 g16 g17 g18 g19 : Value, a = { tmps := #[.slice A l.length c, .int .i64 q, g2, g3, g4, g5, g6, g7, g8, g9, g10, g11, g12, g13, g14, g15, g16, g17, g18, g19], defers := [] }) ∧ floorN l p ≤ q ∧ q ≤ p ∧
    St (fun k => w.heap.size ≤ k) w w1 M []) (fun q => q - floorN l p) p
    ⟨⟨_, _, _, _, _, _, _, _, _, _, _, _, _, _, _, _, _, _, rfl⟩, floor_le _ _, Nat.le_refl _, HS⟩ ?_
  clear HS hi
  rintro q a w1 ⟨⟨g2, g3, g4, g5, g6, g7, g8, g9, g10, g11, g12, g13, g14, g15, g16, g17, g18, g19, rfl⟩, h1, h2, HS⟩
  have hd := floor_down h1 h2
  have hI := fun w hi => rInside_any M A c l.length l HB.out rfl q (by omega) w hi
  by_cases hin : floorN l p < q
  · have HI := Lib.hid hI; clear hI
    rw [decide_eq_true (hd.2 hin)] at HI
    clear hd
    go_wp2_with (first | (go_at_call 58; (with_reducible refine (HI.out _ HS.imm).mono ?_); rintro e w_ ⟨rfl, hb_⟩; have HS_ := HS.call hb_; clear HS hb_; have HS := HS_; clear HS_))
    rw [show (q : Int) - 1 = ((q - 1 : Nat) : Int) from by omega]
    refine ⟨q - 1, ⟨⟨_, _, _, _, _, _, _, _, _, _, _, _, _, _, _, _, _, _, rfl⟩, by omega, by omega, HS⟩, by omega⟩
  · have HI := Lib.hid hI; clear hI
    rw [decide_eq_false (fun h => hin (hd.1 h))] at HI
    clear hd
    obtain rfl : q = floorN l p := by omega
    go_wp2_with (first | (go_at_call 58; (with_reducible refine (HI.out _ HS.imm).mono ?_); rintro e w_ ⟨rfl, hb_⟩; have HS_ := HS.call hb_; clear HS hb_; have HS := HS_; clear HS_))
    go_ret2
    exact ⟨rfl, HS.below⟩
theorem rFloor_out (M : Mem) (A : Option Addr) (c n : Nat) (x : Int) (hx : x < 0 ∨ (n : Int) < x) (w : World) (hi : Imm M w) :
    Calls Tryd.prog 17 #[.slice A n c, .int .i64 x] w fun e w' => e = .returned (.tuple #[.int .i64 0, .int .i64 2]) ∧ Below w.heap.size w w' := by
  by_cases h : x < 0
  · (have HS := St.start hi; go_enter Tryd.func17, Tryd.ntmps17)
    go_wp2
    go_ret2
    exact ⟨rfl, HS.below⟩
  · have h2 : (n : Int) < x := by omega
    (have HS := St.start hi; go_enter Tryd.func17, Tryd.ntmps17)
    go_wp2
    go_ret2
    exact ⟨rfl, HS.below⟩
end Go.Proofs.YtbogoehjoglneaaDoor

/- The reference of layer 2: Of: the step that begins at a place. -/
namespace Go.Proofs.YtbogoehjoglneaaDoor
open Go.RowKit
set_option linter.unusedVariables false
set_option linter.unusedSimpArgs false
set_option maxRecDepth 100000
attribute [local go_sem] byt_drop byt_tail Int.toNat_natCast sOf_size

/- A value gathered from bytes, six bits each. -/
def accN (f : Nat → Nat) (r0 : Nat) : Nat → Nat
  | 0 => r0
  | i + 1 => accN f r0 i * 64 + f (i + 1) % 64
theorem accN_le (f : Nat → Nat) {r0 : Nat} (h : r0 ≤ 127) (i : Nat) (hi : i ≤ 3) : accN f r0 i ≤ 33554431 := by
  have hc : i = 0 ∨ i = 1 ∨ i = 2 ∨ i = 3 := by omega
  rcases hc with e | e | e | e <;> subst e <;> simp only [accN] <;> omega
def r0N (n x : Nat) : Nat := if n = 2 then x % 32 else if n = 3 then x % 16 else if n = 4 then x % 8 else x
theorem accN_val (l : List UInt8) (p : Nat) (h : enc (l.drop p) ≠ 0) : accN (fun j => byt l (p + j)) (r0N (enc (l.drop p)) (byt l p)) (enc (l.drop p) - 1) = val (l.drop p) := by
  have h4 := enc_le (l.drop p)
  unfold val
  simp only [byt_drop, Nat.add_zero]
  generalize enc (l.drop p) = n at *
  have hc : n = 1 ∨ n = 2 ∨ n = 3 ∨ n = 4 := by omega
  rcases hc with e | e | e | e <;> subst e <;> simp [accN, r0N, valN] <;> omega

set_option maxHeartbeats 2000000 in
theorem rOf_any (M : Mem) (A : Option Addr) (c n : Nat) (l : List UInt8) (hb : BS M A c l) (hn : n = l.length) (hl : l.length ≤ 268435456) (p : Nat) (hp : p < l.length) (w : World) (hi : Imm M w) :
    Calls Tryd.prog 60 #[.slice A n c, .int .i64 p] w fun e w' => e = .returned (stV (stp (l.drop p))) ∧ Below w.heap.size w w' := by
  subst hn
  have HL := Lib.hid (fun w hi => Long_any M A c l.length l hb rfl p (by omega) w hi)
  have hval := accN_val l p
  have henc := enc_len (l.drop p)
  have h4 := enc_le (l.drop p)
  have h1v := (encN_spec (byt (l.drop p) 0) (byt (l.drop p) 1) (byt (l.drop p) 2) (byt (l.drop p) 3)).1
  rw [List.length_drop] at henc
  have hbl := (byt_lt hp).2
  have hb0 := (byt_lt hp).1
  obtain ⟨x, hx⟩ : ∃ x, x = byt l p := ⟨_, rfl⟩
  rw [← hx] at hval hbl hb0
  by_cases h0 : enc (l.drop p) = 0
  · rw [stp_zero h0]
    rw [h0] at HL
    clear hval henc h4 h1v hbl hb0 hx h0
    (have HS := St.start hi; go_enter Tryd.func60, Tryd.ntmps60)
    go_wp2_with (first | ((with_reducible refine' q_alloc ?_); refine' a_alloc HS ?_; clear HS; intro b_ w_ HS) | ((with_reducible refine' q_box ?_); refine' a_box2 HS ?_; clear HS; intro b_ w_ HS) | ((with_reducible refine' q_load ?_); refine' a_load HS ?_) | ((with_reducible refine' q_store ?_); refine' a_store2 HS ?_; clear HS; intro w_ HS) | (go_at_call 97; (with_reducible refine (HL.out _ HS.imm).mono ?_); rintro e w_ ⟨rfl, hb_⟩; have HS_ := HS.call hb_; clear HS hb_; have HS := HS_; clear HS_))
    (refine post_cell (p := 4) (T := 43) rfl HS rfl rfl (by (first | (apply Blk.loc; (repeat (first | (with_reducible exact List.mem_cons_self) | apply List.mem_cons_of_mem)); done) | (apply Blk.imm; with_reducible assumption))) (by exact Eq.refl true) ?_)
    exact ⟨rfl, HS.below⟩
  rw [stp_enc_pos h0, ← hval h0]
  have h1 : enc (l.drop p) = 1 → x ≤ 127 := fun e => by
    have := h1v.1 e
    rw [byt_drop, Nat.add_zero, ← hx] at this
    exact this
  clear hval h1v
  generalize enc (l.drop p) = n at *
  have hr0 : r0N n x ≤ 127 := by
    unfold r0N
    have hc : n = 1 ∨ n = 2 ∨ n = 3 ∨ n = 4 := by omega
    rcases hc with e | e | e | e <;> subst e <;> simp <;> omega
  have hX := Lib.hid hx; clear hx hb0
  have H1 := Lib.hid h1; clear h1
  have HR0 := Lib.hid hr0; clear hr0
  have hc : n = 1 ∨ n = 2 ∨ n = 3 ∨ n = 4 := by omega
  rcases hc with e | e | e | e <;> subst e
  · (have HS := St.start hi; go_enter Tryd.func60, Tryd.ntmps60)
    go_wp2_with (first | ((with_reducible refine' q_alloc ?_); refine' a_alloc HS ?_; clear HS; intro b_ w_ HS) | ((with_reducible refine' q_box ?_); refine' a_box2 HS ?_; clear HS; intro b_ w_ HS) | ((with_reducible refine' q_load ?_); refine' a_load HS ?_) | ((with_reducible refine' q_store ?_); refine' a_store2 HS ?_; clear HS; intro w_ HS) | (go_at_call 97; (with_reducible refine (HL.out _ HS.imm).mono ?_); rintro e w_ ⟨rfl, hb_⟩; have HS_ := HS.call hb_; clear HS hb_; have HS := HS_; clear HS_) | ((with_reducible refine' st_indexAddr_bs (T := 28) (e := 5) ?hw Tryd.underlying28 (by kernel_rfl) ?hx ?hb ?hn ?hi ?hj ?_); (case hw => rfl); (case hx => first | exact eval_lit rfl | rfl); (case hb => assumption); (case hn => (first | rfl | omega | (simp; done) | (simp; omega))); (case hi => first | exact eval_lit rfl | rfl); (case hj => first | omega | (simp; omega)); intro bi_ oi_ hc_) | ((with_reducible refine' st_load_cellM ?hw HS ?hx ?hc ?_); (case hw => rfl); (case hx => first | exact eval_lit rfl | rfl); (case hc => assumption)))
    have w1 : wrap64 ((byt l p : Nat) : Int) = (x : Int) := by rw [← hX.out]; unfold wrap64; omega
    rw [w1]
    rw [show (x : Int) = ((r0N 1 x : Nat) : Int) from rfl]
    have HLEN := Lib.hid henc
    clear w1 hc_ h4 h0 HL H1 henc
    refine wp_loop_st (σ := Nat) (fun i a w1 => ∃ z : Int, (∃ g2 g3 g8 g9 g10 g11 g12 g13 g14 g15 g16 g17 g18 g19 g20 g21 g22 g23 g24 g25 g26 g27 g28 g29 g30 g31 g32 g33 g34 g35 g36 g37 g38 g39 g40 g41 g42 g43 g44 g45 g46 g47 g48 g49 g50 g51 : Value, a = { tmps := #[.slice A l.length c, .int .i64 p, g2, g3, ptr b_, .int .i64 1, .int .i64 z, .int .i64 i, g8, g9, g10, g11, g12, g13, g14, g15, g16, g17, g18, g19, g20, g21, g22, g23, g24, g25, g26, g27, g28, g29, g30, g31, g32, g33, g34, g35, g36, g37, g38, g39, g40, g41, g42, g43, g44, g45, g46, g47, g48, g49, g50, g51], defers := [] }) ∧ z = ((accN (fun j => byt l (p + j)) (r0N 1 x) (i - 1) : Nat) : Int) ∧ 1 ≤ i ∧ i ≤ 1 ∧
      St (fun k => w.heap.size ≤ k) w w1 M [(b_, .cells [.int .i32 0, .int .i64 0, .bool false].toArray 43 (0, 0))]) (fun i => 1 - i) 1
      ⟨_, ⟨_, _, _, _, _, _, _, _, _, _, _, _, _, _, _, _, _, _, _, _, _, _, _, _, _, _, _, _, _, _, _, _, _, _, _, _, _, _, _, _, _, _, _, _, _, _, rfl⟩, rfl, by omega, by omega, HS⟩ ?_
    clear HS
    rintro i a w1 ⟨z, ⟨g2, g3, g8, g9, g10, g11, g12, g13, g14, g15, g16, g17, g18, g19, g20, g21, g22, g23, g24, g25, g26, g27, g28, g29, g30, g31, g32, g33, g34, g35, g36, g37, g38, g39, g40, g41, g42, g43, g44, g45, g46, g47, g48, g49, g50, g51, rfl⟩, rfl, hi1, hi2, HS⟩
    have hacc := accN_le (fun j => byt l (p + j)) HR0.out (i - 1) (by omega)
    have HAC := Lib.hid (rfl : accN (fun j => byt l (p + j)) (r0N 1 x) (i - 1) = accN (fun j => byt l (p + j)) (r0N 1 x) (i - 1))
    by_cases hlt : (i : Int) < 1
    · omega
    · obtain rfl : i = 1 := by omega
      clear hacc
      have hacc := accN_le (fun j => byt l (p + j)) HR0.out (1 - 1) (by omega)
      generalize hz : accN (fun j => byt l (p + j)) (r0N 1 x) (1 - 1) = z at *
      have HZ := Lib.hid hz; clear hz
      go_wp2_with (first | ((with_reducible refine' q_alloc ?_); refine' a_alloc HS ?_; clear HS; intro b_ w_ HS) | ((with_reducible refine' q_box ?_); refine' a_box2 HS ?_; clear HS; intro b_ w_ HS) | ((with_reducible refine' q_load ?_); refine' a_load HS ?_) | ((with_reducible refine' q_store ?_); refine' a_store2 HS ?_; clear HS; intro w_ HS))
      (refine post_cell (p := 4) (T := 43) rfl HS rfl rfl (by (first | (apply Blk.loc; (repeat (first | (with_reducible exact List.mem_cons_self) | apply List.mem_cons_of_mem)); done) | (apply Blk.imm; with_reducible assumption))) (by exact Eq.refl true) ?_)
      refine ⟨?_, HS.below⟩
      rw [← HZ.out]; rfl
  · (have HS := St.start hi; go_enter Tryd.func60, Tryd.ntmps60)
    go_wp2_with (first | ((with_reducible refine' q_alloc ?_); refine' a_alloc HS ?_; clear HS; intro b_ w_ HS) | ((with_reducible refine' q_box ?_); refine' a_box2 HS ?_; clear HS; intro b_ w_ HS) | ((with_reducible refine' q_load ?_); refine' a_load HS ?_) | ((with_reducible refine' q_store ?_); refine' a_store2 HS ?_; clear HS; intro w_ HS) | (go_at_call 97; (with_reducible refine (HL.out _ HS.imm).mono ?_); rintro e w_ ⟨rfl, hb_⟩; have HS_ := HS.call hb_; clear HS hb_; have HS := HS_; clear HS_) | ((with_reducible refine' st_indexAddr_bs (T := 28) (e := 5) ?hw Tryd.underlying28 (by kernel_rfl) ?hx ?hb ?hn ?hi ?hj ?_); (case hw => rfl); (case hx => first | exact eval_lit rfl | rfl); (case hb => assumption); (case hn => (first | rfl | omega | (simp; done) | (simp; omega))); (case hi => first | exact eval_lit rfl | rfl); (case hj => first | omega | (simp; omega)); intro bi_ oi_ hc_) | ((with_reducible refine' st_load_cellM ?hw HS ?hx ?hc ?_); (case hw => rfl); (case hx => first | exact eval_lit rfl | rfl); (case hc => assumption)))
    have w1 : wrap64 ((byt l p : Nat) : Int) = (x : Int) := by rw [← hX.out]; unfold wrap64; omega
    rw [w1]
    rw [show (x : Int).tmod 32 = ((r0N 2 x : Nat) : Int) from rfl]
    have HLEN := Lib.hid henc
    clear w1 hc_ h4 h0 HL H1 henc
    refine wp_loop_st (σ := Nat) (fun i a w1 => ∃ z : Int, (∃ g2 g3 g8 g9 g10 g11 g12 g13 g14 g15 g16 g17 g18 g19 g20 g21 g22 g23 g24 g25 g26 g27 g28 g29 g30 g31 g32 g33 g34 g35 g36 g37 g38 g39 g40 g41 g42 g43 g44 g45 g46 g47 g48 g49 g50 g51 : Value, a = { tmps := #[.slice A l.length c, .int .i64 p, g2, g3, ptr b_, .int .i64 2, .int .i64 z, .int .i64 i, g8, g9, g10, g11, g12, g13, g14, g15, g16, g17, g18, g19, g20, g21, g22, g23, g24, g25, g26, g27, g28, g29, g30, g31, g32, g33, g34, g35, g36, g37, g38, g39, g40, g41, g42, g43, g44, g45, g46, g47, g48, g49, g50, g51], defers := [] }) ∧ z = ((accN (fun j => byt l (p + j)) (r0N 2 x) (i - 1) : Nat) : Int) ∧ 1 ≤ i ∧ i ≤ 2 ∧
      St (fun k => w.heap.size ≤ k) w w1 M [(b_, .cells [.int .i32 0, .int .i64 0, .bool false].toArray 43 (0, 0))]) (fun i => 2 - i) 1
      ⟨_, ⟨_, _, _, _, _, _, _, _, _, _, _, _, _, _, _, _, _, _, _, _, _, _, _, _, _, _, _, _, _, _, _, _, _, _, _, _, _, _, _, _, _, _, _, _, _, _, rfl⟩, rfl, by omega, by omega, HS⟩ ?_
    clear HS
    rintro i a w1 ⟨z, ⟨g2, g3, g8, g9, g10, g11, g12, g13, g14, g15, g16, g17, g18, g19, g20, g21, g22, g23, g24, g25, g26, g27, g28, g29, g30, g31, g32, g33, g34, g35, g36, g37, g38, g39, g40, g41, g42, g43, g44, g45, g46, g47, g48, g49, g50, g51, rfl⟩, rfl, hi1, hi2, HS⟩
    have hacc := accN_le (fun j => byt l (p + j)) HR0.out (i - 1) (by omega)
    have HAC := Lib.hid (rfl : accN (fun j => byt l (p + j)) (r0N 2 x) (i - 1) = accN (fun j => byt l (p + j)) (r0N 2 x) (i - 1))
    by_cases hlt : (i : Int) < 2
    · have hpi : p + i < l.length := by have := HLEN.out; omega
      have hbi := (byt_lt hpi).2
      generalize hz : accN (fun j => byt l (p + j)) (r0N 2 x) (i - 1) = z at *
      have HZ := Lib.hid hz; clear hz
      go_wp2_with (first | ((with_reducible refine' st_indexAddr_bs (T := 28) (e := 5) ?hw Tryd.underlying28 (by kernel_rfl) ?hx ?hb ?hn ?hi ?hj ?_); (case hw => rfl); (case hx => first | exact eval_lit rfl | rfl); (case hb => assumption); (case hn => (first | rfl | omega | (simp; done) | (simp; omega))); (case hi => first | exact eval_lit rfl | rfl); (case hj => first | omega | (simp; omega)); intro bi_ oi_ hc_) | ((with_reducible refine' st_load_cellM ?hw HS ?hx ?hc ?_); (case hw => rfl); (case hx => first | exact eval_lit rfl | rfl); (case hc => assumption)))
      obtain ⟨j, rfl⟩ : ∃ j, i = j + 1 := ⟨i - 1, by omega⟩
      refine ⟨j + 2, ⟨_, ⟨rfl, by omega⟩, ?_, by omega, by omega⟩, by omega⟩
      have hz := HZ.out
      rw [Nat.add_sub_cancel] at hz
      rw [show j + 2 - 1 = j + 1 from rfl]
      simp only [accN]
      rw [hz]
      omega
    · obtain rfl : i = 2 := by omega
      clear hacc
      have hacc := accN_le (fun j => byt l (p + j)) HR0.out (2 - 1) (by omega)
      generalize hz : accN (fun j => byt l (p + j)) (r0N 2 x) (2 - 1) = z at *
      have HZ := Lib.hid hz; clear hz
      go_wp2_with (first | ((with_reducible refine' q_alloc ?_); refine' a_alloc HS ?_; clear HS; intro b_ w_ HS) | ((with_reducible refine' q_box ?_); refine' a_box2 HS ?_; clear HS; intro b_ w_ HS) | ((with_reducible refine' q_load ?_); refine' a_load HS ?_) | ((with_reducible refine' q_store ?_); refine' a_store2 HS ?_; clear HS; intro w_ HS))
      (refine post_cell (p := 4) (T := 43) rfl HS rfl rfl (by (first | (apply Blk.loc; (repeat (first | (with_reducible exact List.mem_cons_self) | apply List.mem_cons_of_mem)); done) | (apply Blk.imm; with_reducible assumption))) (by exact Eq.refl true) ?_)
      refine ⟨?_, HS.below⟩
      rw [← HZ.out]; rfl
  · (have HS := St.start hi; go_enter Tryd.func60, Tryd.ntmps60)
    go_wp2_with (first | ((with_reducible refine' q_alloc ?_); refine' a_alloc HS ?_; clear HS; intro b_ w_ HS) | ((with_reducible refine' q_box ?_); refine' a_box2 HS ?_; clear HS; intro b_ w_ HS) | ((with_reducible refine' q_load ?_); refine' a_load HS ?_) | ((with_reducible refine' q_store ?_); refine' a_store2 HS ?_; clear HS; intro w_ HS) | (go_at_call 97; (with_reducible refine (HL.out _ HS.imm).mono ?_); rintro e w_ ⟨rfl, hb_⟩; have HS_ := HS.call hb_; clear HS hb_; have HS := HS_; clear HS_) | ((with_reducible refine' st_indexAddr_bs (T := 28) (e := 5) ?hw Tryd.underlying28 (by kernel_rfl) ?hx ?hb ?hn ?hi ?hj ?_); (case hw => rfl); (case hx => first | exact eval_lit rfl | rfl); (case hb => assumption); (case hn => (first | rfl | omega | (simp; done) | (simp; omega))); (case hi => first | exact eval_lit rfl | rfl); (case hj => first | omega | (simp; omega)); intro bi_ oi_ hc_) | ((with_reducible refine' st_load_cellM ?hw HS ?hx ?hc ?_); (case hw => rfl); (case hx => first | exact eval_lit rfl | rfl); (case hc => assumption)))
    have w1 : wrap64 ((byt l p : Nat) : Int) = (x : Int) := by rw [← hX.out]; unfold wrap64; omega
    rw [w1]
    rw [show (x : Int).tmod 16 = ((r0N 3 x : Nat) : Int) from rfl]
    have HLEN := Lib.hid henc
    clear w1 hc_ h4 h0 HL H1 henc
    refine wp_loop_st (σ := Nat) (fun i a w1 => ∃ z : Int, (∃ g2 g3 g8 g9 g10 g11 g12 g13 g14 g15 g16 g17 g18 g19 g20 g21 g22 g23 g24 g25 g26 g27 g28 g29 g30 g31 g32 g33 g34 g35 g36 g37 g38 g39 g40 g41 g42 g43 g44 g45 g46 g47 g48 g49 g50 g51 : Value, a = { tmps := #[.slice A l.length c, .int .i64 p, g2, g3, ptr b_, .int .i64 3, .int .i64 z, .int .i64 i, g8, g9, g10, g11, g12, g13, g14, g15, g16, g17, g18, g19, g20, g21, g22, g23, g24, g25, g26, g27, g28, g29, g30, g31, g32, g33, g34, g35, g36, g37, g38, g39, g40, g41, g42, g43, g44, g45, g46, g47, g48, g49, g50, g51], defers := [] }) ∧ z = ((accN (fun j => byt l (p + j)) (r0N 3 x) (i - 1) : Nat) : Int) ∧ 1 ≤ i ∧ i ≤ 3 ∧
      St (fun k => w.heap.size ≤ k) w w1 M [(b_, .cells [.int .i32 0, .int .i64 0, .bool false].toArray 43 (0, 0))]) (fun i => 3 - i) 1
      ⟨_, ⟨_, _, _, _, _, _, _, _, _, _, _, _, _, _, _, _, _, _, _, _, _, _, _, _, _, _, _, _, _, _, _, _, _, _, _, _, _, _, _, _, _, _, _, _, _, _, rfl⟩, rfl, by omega, by omega, HS⟩ ?_
    clear HS
    rintro i a w1 ⟨z, ⟨g2, g3, g8, g9, g10, g11, g12, g13, g14, g15, g16, g17, g18, g19, g20, g21, g22, g23, g24, g25, g26, g27, g28, g29, g30, g31, g32, g33, g34, g35, g36, g37, g38, g39, g40, g41, g42, g43, g44, g45, g46, g47, g48, g49, g50, g51, rfl⟩, rfl, hi1, hi2, HS⟩
    have hacc := accN_le (fun j => byt l (p + j)) HR0.out (i - 1) (by omega)
    have HAC := Lib.hid (rfl : accN (fun j => byt l (p + j)) (r0N 3 x) (i - 1) = accN (fun j => byt l (p + j)) (r0N 3 x) (i - 1))
    by_cases hlt : (i : Int) < 3
    · have hpi : p + i < l.length := by have := HLEN.out; omega
      have hbi := (byt_lt hpi).2
      generalize hz : accN (fun j => byt l (p + j)) (r0N 3 x) (i - 1) = z at *
      have HZ := Lib.hid hz; clear hz
      go_wp2_with (first | ((with_reducible refine' st_indexAddr_bs (T := 28) (e := 5) ?hw Tryd.underlying28 (by kernel_rfl) ?hx ?hb ?hn ?hi ?hj ?_); (case hw => rfl); (case hx => first | exact eval_lit rfl | rfl); (case hb => assumption); (case hn => (first | rfl | omega | (simp; done) | (simp; omega))); (case hi => first | exact eval_lit rfl | rfl); (case hj => first | omega | (simp; omega)); intro bi_ oi_ hc_) | ((with_reducible refine' st_load_cellM ?hw HS ?hx ?hc ?_); (case hw => rfl); (case hx => first | exact eval_lit rfl | rfl); (case hc => assumption)))
      obtain ⟨j, rfl⟩ : ∃ j, i = j + 1 := ⟨i - 1, by omega⟩
      refine ⟨j + 2, ⟨_, ⟨rfl, by omega⟩, ?_, by omega, by omega⟩, by omega⟩
      have hz := HZ.out
      rw [Nat.add_sub_cancel] at hz
      rw [show j + 2 - 1 = j + 1 from rfl]
      simp only [accN]
      rw [hz]
      omega
    · obtain rfl : i = 3 := by omega
      clear hacc
      have hacc := accN_le (fun j => byt l (p + j)) HR0.out (3 - 1) (by omega)
      generalize hz : accN (fun j => byt l (p + j)) (r0N 3 x) (3 - 1) = z at *
      have HZ := Lib.hid hz; clear hz
      go_wp2_with (first | ((with_reducible refine' q_alloc ?_); refine' a_alloc HS ?_; clear HS; intro b_ w_ HS) | ((with_reducible refine' q_box ?_); refine' a_box2 HS ?_; clear HS; intro b_ w_ HS) | ((with_reducible refine' q_load ?_); refine' a_load HS ?_) | ((with_reducible refine' q_store ?_); refine' a_store2 HS ?_; clear HS; intro w_ HS))
      (refine post_cell (p := 4) (T := 43) rfl HS rfl rfl (by (first | (apply Blk.loc; (repeat (first | (with_reducible exact List.mem_cons_self) | apply List.mem_cons_of_mem)); done) | (apply Blk.imm; with_reducible assumption))) (by exact Eq.refl true) ?_)
      refine ⟨?_, HS.below⟩
      rw [← HZ.out]; rfl
  · (have HS := St.start hi; go_enter Tryd.func60, Tryd.ntmps60)
    go_wp2_with (first | ((with_reducible refine' q_alloc ?_); refine' a_alloc HS ?_; clear HS; intro b_ w_ HS) | ((with_reducible refine' q_box ?_); refine' a_box2 HS ?_; clear HS; intro b_ w_ HS) | ((with_reducible refine' q_load ?_); refine' a_load HS ?_) | ((with_reducible refine' q_store ?_); refine' a_store2 HS ?_; clear HS; intro w_ HS) | (go_at_call 97; (with_reducible refine (HL.out _ HS.imm).mono ?_); rintro e w_ ⟨rfl, hb_⟩; have HS_ := HS.call hb_; clear HS hb_; have HS := HS_; clear HS_) | ((with_reducible refine' st_indexAddr_bs (T := 28) (e := 5) ?hw Tryd.underlying28 (by kernel_rfl) ?hx ?hb ?hn ?hi ?hj ?_); (case hw => rfl); (case hx => first | exact eval_lit rfl | rfl); (case hb => assumption); (case hn => (first | rfl | omega | (simp; done) | (simp; omega))); (case hi => first | exact eval_lit rfl | rfl); (case hj => first | omega | (simp; omega)); intro bi_ oi_ hc_) | ((with_reducible refine' st_load_cellM ?hw HS ?hx ?hc ?_); (case hw => rfl); (case hx => first | exact eval_lit rfl | rfl); (case hc => assumption)))
    have w1 : wrap64 ((byt l p : Nat) : Int) = (x : Int) := by rw [← hX.out]; unfold wrap64; omega
    rw [w1]
    rw [show (x : Int).tmod 8 = ((r0N 4 x : Nat) : Int) from rfl]
    have HLEN := Lib.hid henc
    clear w1 hc_ h4 h0 HL H1 henc
    refine wp_loop_st (σ := Nat) (fun i a w1 => ∃ z : Int, (∃ g2 g3 g8 g9 g10 g11 g12 g13 g14 g15 g16 g17 g18 g19 g20 g21 g22 g23 g24 g25 g26 g27 g28 g29 g30 g31 g32 g33 g34 g35 g36 g37 g38 g39 g40 g41 g42 g43 g44 g45 g46 g47 g48 g49 g50 g51 : Value, a = { tmps := #[.slice A l.length c, .int .i64 p, g2, g3, ptr b_, .int .i64 4, .int .i64 z, .int .i64 i, g8, g9, g10, g11, g12, g13, g14, g15, g16, g17, g18, g19, g20, g21, g22, g23, g24, g25, g26, g27, g28, g29, g30, g31, g32, g33, g34, g35, g36, g37, g38, g39, g40, g41, g42, g43, g44, g45, g46, g47, g48, g49, g50, g51], defers := [] }) ∧ z = ((accN (fun j => byt l (p + j)) (r0N 4 x) (i - 1) : Nat) : Int) ∧ 1 ≤ i ∧ i ≤ 4 ∧
      St (fun k => w.heap.size ≤ k) w w1 M [(b_, .cells [.int .i32 0, .int .i64 0, .bool false].toArray 43 (0, 0))]) (fun i => 4 - i) 1
      ⟨_, ⟨_, _, _, _, _, _, _, _, _, _, _, _, _, _, _, _, _, _, _, _, _, _, _, _, _, _, _, _, _, _, _, _, _, _, _, _, _, _, _, _, _, _, _, _, _, _, rfl⟩, rfl, by omega, by omega, HS⟩ ?_
    clear HS
    rintro i a w1 ⟨z, ⟨g2, g3, g8, g9, g10, g11, g12, g13, g14, g15, g16, g17, g18, g19, g20, g21, g22, g23, g24, g25, g26, g27, g28, g29, g30, g31, g32, g33, g34, g35, g36, g37, g38, g39, g40, g41, g42, g43, g44, g45, g46, g47, g48, g49, g50, g51, rfl⟩, rfl, hi1, hi2, HS⟩
    have hacc := accN_le (fun j => byt l (p + j)) HR0.out (i - 1) (by omega)
    have HAC := Lib.hid (rfl : accN (fun j => byt l (p + j)) (r0N 4 x) (i - 1) = accN (fun j => byt l (p + j)) (r0N 4 x) (i - 1))
    by_cases hlt : (i : Int) < 4
    · have hpi : p + i < l.length := by have := HLEN.out; omega
      have hbi := (byt_lt hpi).2
      generalize hz : accN (fun j => byt l (p + j)) (r0N 4 x) (i - 1) = z at *
      have HZ := Lib.hid hz; clear hz
      go_wp2_with (first | ((with_reducible refine' st_indexAddr_bs (T := 28) (e := 5) ?hw Tryd.underlying28 (by kernel_rfl) ?hx ?hb ?hn ?hi ?hj ?_); (case hw => rfl); (case hx => first | exact eval_lit rfl | rfl); (case hb => assumption); (case hn => (first | rfl | omega | (simp; done) | (simp; omega))); (case hi => first | exact eval_lit rfl | rfl); (case hj => first | omega | (simp; omega)); intro bi_ oi_ hc_) | ((with_reducible refine' st_load_cellM ?hw HS ?hx ?hc ?_); (case hw => rfl); (case hx => first | exact eval_lit rfl | rfl); (case hc => assumption)))
      obtain ⟨j, rfl⟩ : ∃ j, i = j + 1 := ⟨i - 1, by omega⟩
      refine ⟨j + 2, ⟨_, ⟨rfl, by omega⟩, ?_, by omega, by omega⟩, by omega⟩
      have hz := HZ.out
      rw [Nat.add_sub_cancel] at hz
      rw [show j + 2 - 1 = j + 1 from rfl]
      simp only [accN]
      rw [hz]
      omega
    · obtain rfl : i = 4 := by omega
      clear hacc
      have hacc := accN_le (fun j => byt l (p + j)) HR0.out (4 - 1) (by omega)
      generalize hz : accN (fun j => byt l (p + j)) (r0N 4 x) (4 - 1) = z at *
      have HZ := Lib.hid hz; clear hz
      go_wp2_with (first | ((with_reducible refine' q_alloc ?_); refine' a_alloc HS ?_; clear HS; intro b_ w_ HS) | ((with_reducible refine' q_box ?_); refine' a_box2 HS ?_; clear HS; intro b_ w_ HS) | ((with_reducible refine' q_load ?_); refine' a_load HS ?_) | ((with_reducible refine' q_store ?_); refine' a_store2 HS ?_; clear HS; intro w_ HS))
      (refine post_cell (p := 4) (T := 43) rfl HS rfl rfl (by (first | (apply Blk.loc; (repeat (first | (with_reducible exact List.mem_cons_self) | apply List.mem_cons_of_mem)); done) | (apply Blk.imm; with_reducible assumption))) (by exact Eq.refl true) ?_)
      refine ⟨?_, HS.below⟩
      rw [← HZ.out]; rfl
end Go.Proofs.YtbogoehjoglneaaDoor

/- The references of layers 2 and 11: Edges and All. -/
namespace Go.Proofs.YtbogoehjoglneaaDoor
open Go.RowKit
set_option linter.unusedVariables false
set_option linter.unusedSimpArgs false
set_option maxRecDepth 100000
attribute [local go_sem] byt_drop byt_tail Int.toNat_natCast sOf_size

def iv (p : Nat) : Value := .int .i64 (p : Nat)
theorem edgesN_succ (l : List UInt8) (p : Nat) : edgesN l 0 (p + 1) = edgesN l 0 p ++ (if inside l p = 0 then [p] else []) := by
  rw [edgesN_add]
  congr 1
  unfold edgesN
  by_cases h : inside l (0 + p) = 0
  · rw [Nat.zero_add] at h
    simp [List.range'_succ, h]
  · rw [Nat.zero_add] at h
    simp [List.range'_succ, h]
theorem edgesN_le (l : List UInt8) (p n : Nat) : (edgesN l p n).length ≤ n := by
  unfold edgesN
  exact Nat.le_trans (List.length_filter_le _ _) (by simp)
theorem iv_one (xs : List Nat) : ∀ u ∈ xs.map iv, u.oneCell' = true := fun u hu => by
  obtain ⟨x, _, rfl⟩ := List.mem_map.1 hu
  rfl

set_option maxHeartbeats 1000000 in
theorem Edges_any (M : Mem) (A : Option Addr) (c n : Nat) (l : List UInt8) (hb : BS M A c l) (hn : n = l.length) (hl : l.length ≤ 268435456) (w : World) (hi : Imm M w) :
    Calls Tryd.prog 59 #[.slice A n c] w fun e w' => ∃ A' c' M', e = .returned (.slice A' (edgesN l 0 (l.length + 1)).length c') ∧ Grew M M' w w' ∧ SL M' 1 A' (edgesN l 0 (l.length + 1)).length c' ((edgesN l 0 (l.length + 1)).map iv) := by
  subst hn
  have HB := Lib.hid hb; clear hb
  (have HS := St.start hi; go_enter Tryd.func59, Tryd.ntmps59)
  go_wp2
  refine wp_loop_st (σ := Nat) (fun p a w1 => p ≤ l.length + 1 ∧ ∃ v Lx, (∃ g1 g2 g5 g6 g7 g8 g9 g10 g11 g12 g13 g14 g15 g16 g17 g18 g19 : Value, a = { tmps := #[.slice A l.length c, g1, g2, v, .int .i64 (p : Nat), g5, g6, g7, g8, g9, g10, g11, g12, g13, g14, g15, g16, g17, g18, g19], defers := [] }) ∧ Row 3 1 v (edgesN l 0 p).length ((edgesN l 0 p).map iv) Lx ∧
    St (fun k => w.heap.size ≤ k) w w1 M Lx) (fun p => l.length + 1 - p) 0
    ⟨Nat.zero_le _, _, [], ⟨_, _, _, _, _, _, _, _, _, _, _, _, _, _, _, _, _, rfl⟩, Row.nil _ _, HS⟩ ?_
  clear HS hi
  rintro p a w1 ⟨hp, v, Lx, ⟨g1, g2, g5, g6, g7, g8, g9, g10, g11, g12, g13, g14, g15, g16, g17, g18, g19, rfl⟩, HRow, HS⟩
  have hle := edgesN_le l 0 p
  have hes := edgesN_succ l p
  by_cases hlt : (p : Int) ≤ l.length
  · have hI := fun w hi => rInside_any M A c l.length l HB.out rfl p (by omega) w hi
    by_cases hin : inside l p = 0
    · have HI := Lib.hid hI; clear hI
      rw [decide_eq_false (fun h => h hin)] at HI
      rw [if_pos hin] at hes
      have HES := Lib.hid hes; clear hes hin
      generalize hk : edgesN l 0 p = es at *
      go_wp2_with (first | (go_at_call 58; (with_reducible refine (HI.out _ HS.imm).mono ?_); rintro e w_ ⟨rfl, hb_⟩; have HS_ := HS.call hb_; clear HS hb_; have HS := HS_; clear HS_) | ((with_reducible refine' st_build (cl := [.int .i64 (p : Nat)]) ?hw HS ?hl ?h0 ?hf ?_); (case hw => rfl); (case hl => rfl); (case h0 => rfl); (case hf => first | (go_simp; done) | rfl | (simp [Instr.fill]; done)); intro b_ w_ HS_; clear HS; have HS := HS_; clear HS_) | (((with_reducible refine' st_append (F := fun y => _ :: y) HRow HS ?hF ?hw ?h1 ?h2 ?hs ?hm ?_); (case hF => repeat (first | exact Pre.nil | apply Pre.cons)); (case hw => rfl); (case h1 => first | exact eval_lit rfl | rfl); (case h2 => first | exact eval_lit rfl | rfl); (case hs => (exact Src.own (.head _) rfl rfl)); (case hm => omega); intro v_ Lx_ w_ HR_ HS_; clear HRow; have HRow := HR_; clear HR_; clear HS; have HS := HS_; clear HS_); obtain ⟨Ar_, cr_, rfl⟩ := HRow.shape))
      refine ⟨p + 1, ⟨by omega, _, Lx_, ⟨_, _, _, _, _, _, _, _, _, _, _, _, _, _, _, _, _, rfl⟩, ?_, HS.drop⟩, by omega⟩
      rw [HES.out, List.length_append, List.map_append]
      exact HRow
    · have HI := Lib.hid hI; clear hI
      rw [decide_eq_true hin] at HI
      rw [if_neg hin, List.append_nil] at hes
      have HES := Lib.hid hes; clear hes hin
      obtain ⟨Ar_, cr_, rfl⟩ := HRow.shape
      go_wp2_with (first | (go_at_call 58; (with_reducible refine (HI.out _ HS.imm).mono ?_); rintro e w_ ⟨rfl, hb_⟩; have HS_ := HS.call hb_; clear HS hb_; have HS := HS_; clear HS_))
      refine ⟨p + 1, ⟨by omega, _, Lx, ⟨_, _, _, _, _, _, _, _, _, _, _, _, _, _, _, _, _, rfl⟩, ?_, HS⟩, by omega⟩
      rw [HES.out]; exact HRow
  · have hpe : p = l.length + 1 := by omega
    subst hpe
    obtain ⟨Ar_, cr_, rfl⟩ := HRow.shape
    go_wp2
    obtain ⟨A', c', M3, e3, hle3, hfr3, HS3, hsl⟩ := HS.keepRow (F := fun y => y) .nil HRow (iv_one _) (fun _ h _ => h)
    cases e3
    go_ret
    exact ⟨_, _, rfl, M3, ⟨HS3.below, hle3, hfr3, HS3.imm⟩, hsl⟩

theorem edge_at {l : List UInt8} {i : Nat} {x : Nat × Stp} (h : (steps l 0)[i]? = some x) : ((edgesN l 0 (l.length + 1)).map iv)[i]? = some (iv x.1) := by
  have hlt := (List.getElem?_eq_some_iff.1 h).1
  rw [edges_all, List.map_append, List.getElem?_append_left (by simpa using hlt)]
  simp [h]
theorem edges_len (l : List UInt8) : (edgesN l 0 (l.length + 1)).length = (steps l 0).length + 1 := by
  rw [edges_all]; simp
theorem step_at {l : List UInt8} {i : Nat} {x : Nat × Stp} (h : (steps l 0)[i]? = some x) : x.1 < l.length ∧ inside l x.1 = 0 ∧ x.2 = stp (l.drop x.1) := by
  have hm := List.mem_of_getElem? h
  have := steps_places (l := l) l.length 0 (by omega) (inside_at_zero l) x (by simpa using hm)
  exact ⟨this.2.1, this.2.2.2.1, this.2.2.2.2⟩

set_option maxHeartbeats 2000000 in
theorem rAll_any (M : Mem) (A : Option Addr) (c n : Nat) (l : List UInt8) (hb : BS M A c l) (hn : n = l.length) (hl : l.length ≤ 268435456) (w : World) (hi : Imm M w) :
    Calls Tryd.prog 18 #[.slice A n c] w fun e w' => ∃ A' c' M', e = .returned (.slice A' (steps l 0).length c') ∧ Grew M M' w w' ∧ SL M' 4 A' (steps l 0).length c' ((steps l 0).flatMap atC) := by
  subst hn
  have HB := Lib.hid hb; clear hb
  have hE0 := fun w hi => Edges_any M A c l.length l HB.out rfl hl w hi
  rw [edges_len] at hE0
  have HE := Lib.hid hE0; clear hE0
  have hsl := steps_len l
  (have HS := St.start hi; go_enter Tryd.func18, Tryd.ntmps18)
  go_wp2_with (first | (go_at_call 59; (with_reducible refine (HE.out _ HS.imm).mono ?_); rintro e w_ ⟨A1, c1, M1, rfl, hg1, hE⟩; have hs_hg1 := HS.moved.size; have HS_ := HS.callM hg1.below hg1.fresh hg1.imm; clear HS; have HS := HS_; clear HS_))
  refine wp_loop_st (σ := Nat) (fun i a w1 => i ≤ (steps l 0).length ∧ ∃ v Lx, (∃ g1 g2 g6 g7 g8 g9 g10 g11 g12 g13 g14 g15 g16 g17 g18 g19 g20 g21 g22 g23 g24 g25 g26 g27 g28 g29 : Value, a = { tmps := #[.slice A l.length c, g1, g2, v, .slice A1 ((steps l 0).length + 1) c1, .int .i64 (i : Nat), g6, g7, g8, g9, g10, g11, g12, g13, g14, g15, g16, g17, g18, g19, g20, g21, g22, g23, g24, g25, g26, g27, g28, g29], defers := [] }) ∧ Row 47 4 v i (((steps l 0).take i).flatMap atC) Lx ∧
    St (fun k => w.heap.size ≤ k) w w1 M1 Lx) (fun i => (steps l 0).length - i) 0
    ⟨Nat.zero_le _, _, [], ⟨_, _, _, _, _, _, _, _, _, _, _, _, _, _, _, _, _, _, _, _, _, _, _, _, _, _, rfl⟩, Row.nil _ _, HS⟩ ?_
  clear HS hi
  rintro i a w1 ⟨hi, v, Lx, ⟨g1, g2, g6, g7, g8, g9, g10, g11, g12, g13, g14, g15, g16, g17, g18, g19, g20, g21, g22, g23, g24, g25, g26, g27, g28, g29, rfl⟩, HRow, HS⟩
  by_cases hlt : i < (steps l 0).length
  · obtain ⟨x, hx⟩ : ∃ x, (steps l 0)[i]? = some x := ⟨_, List.getElem?_eq_getElem hlt⟩
    obtain ⟨hp, hin, hst⟩ := step_at hx
    have hO := fun w hi => rOf_any M1 A c l.length l (HB.out.mono hg1.le) rfl hl x.1 hp w hi
    rw [← hst] at hO
    have HO := Lib.hid hO
    have HX := Lib.hid hx
    clear hO hst hin
    have hlt' : (i : Int) + 1 < (steps l 0).length + 1 := by omega
    have ei : (i : Int).toNat = i := by omega
    go_wp2
    refine wp_region_plan [] [(true, 0), (true, 1), (true, 2), (true, 3), (true, 4), (true, 5), (true, 6), (true, 7), (true, 8), (true, 9), (false, 10), (true, 11), (false, 12), (false, 13), (true, 14)] (fun W_ => Imm M1 W_) (by kernel_rfl) (by kernel_rfl) rfl (by kernel_rfl) (HS).drew.imm ?_
    have HS_ := HS.drew; clear HS; have HS := HS_; clear HS_
    refine' a_dSoft rfl ?_
    (try simp only [Act.put, List.setIfInBounds_toArray, List.set_cons_zero, List.set_cons_succ])
    refine' a_dSoft rfl ?_
    (try simp only [Act.put, List.setIfInBounds_toArray, List.set_cons_zero, List.set_cons_succ])
    refine' a_dSoft rfl ?_
    (try simp only [Act.put, List.setIfInBounds_toArray, List.set_cons_zero, List.set_cons_succ])
    (refine' dIdxL rfl ?hw ?hx ?hb ?hix ?hj ?_; (case hw => first | rfl | go_simp); (case hx => first | exact eval_lit rfl | rfl); (case hb => assumption); (case hix => first | exact eval_lit rfl | rfl); (case hj => omega); intro b2_ o2_ hc_)
    have hcB : cellM M1 b2_ o2_ = some (.int .i64 (x.1 : Nat)) := by have := hc_ 0 (iv x.1) (by simpa [ei] using edge_at HX.out); rwa [Nat.add_zero] at this
    clear hc_
    (refine' dLoadCI rfl ?hw (fun w_ hw_ => hw_) ?hx ?hc ?_; (case hw => first | rfl | go_simp); (case hx => first | exact eval_lit rfl | rfl); (case hc => assumption))
    refine' a_dSoft rfl ?_
    (try simp only [Act.put, List.setIfInBounds_toArray, List.set_cons_zero, List.set_cons_succ])
    refine' a_dSoft rfl ?_
    (try simp only [Act.put, List.setIfInBounds_toArray, List.set_cons_zero, List.set_cons_succ])
    refine' a_dSoft rfl ?_
    (try simp only [Act.put, List.setIfInBounds_toArray, List.set_cons_zero, List.set_cons_succ])
    (refine' dIdxL rfl ?hw ?hx ?hb ?hix ?hj ?_; (case hw => first | rfl | go_simp); (case hx => first | exact eval_lit rfl | rfl); (case hb => assumption); (case hix => first | exact eval_lit rfl | rfl); (case hj => omega); intro b3_ o3_ hc_)
    have hcC : cellM M1 b3_ o3_ = some (.int .i64 (x.1 : Nat)) := by have := hc_ 0 (iv x.1) (by simpa [ei] using edge_at HX.out); rwa [Nat.add_zero] at this
    clear hc_
    (refine' dLoadCI rfl ?hw (fun w_ hw_ => hw_) ?hx ?hc ?_; (case hw => first | rfl | go_simp); (case hx => first | exact eval_lit rfl | rfl); (case hc => assumption))
    refine dHard rfl ?_
    refine' st_call ?hw Tryd.func60 (by kernel_rfl) rfl ?hargs (HO.out _ HS.imm) ?_
    case hw => rfl
    case hargs => first | rfl | (go_simp; done)
    rintro e w_ ⟨rfl, hb_⟩
    (have HS_ := HS.call hb_; clear HS hb_; have HS := HS_; clear HS_)
    refine ⟨_, rfl, ?_⟩
    refine lexD_done (fun _ => HS.imm) ?_
    (try simp only [Act.put, List.setIfInBounds_toArray, List.set_cons_zero, List.set_cons_succ])
    refine' a_dSoft rfl ?_
    (try simp only [Act.put, List.setIfInBounds_toArray, List.set_cons_zero, List.set_cons_succ])
    refine dHard rfl ?_
    ((with_reducible refine' st_build (cl := [.int .i64 (x.1 : Nat), .int .i32 (x.2.r : Nat), .int .i64 (x.2.w : Nat), .bool x.2.ok]) ?hw HS ?hl ?h0 ?hf ?_); (case hw => rfl); (case hl => rfl); (case h0 => rfl); (case hf => first | (go_simp; done) | rfl | (simp [Instr.fill]; done)); intro b_ w_ HS_; clear HS; have HS := HS_; clear HS_)
    refine lexD_done (fun _ => HS.imm) ?_
    refine dHard rfl ?_
    ((with_reducible refine' st_append (F := fun y => _ :: y) HRow HS ?hF ?hw ?h1 ?h2 ?hs ?hm ?_); (case hF => repeat (first | exact Pre.nil | apply Pre.cons)); (case hw => rfl); (case h1 => first | exact eval_lit rfl | rfl); (case h2 => first | exact eval_lit rfl | rfl); (case hs => (exact Src.own (.head _) rfl rfl)); (case hm => omega); intro v_ Lx_ w_ HR_ HS_; clear HRow; have HRow := HR_; clear HR_; clear HS; have HS := HS_; clear HS_)
    obtain ⟨Ar_, cr_, rfl⟩ := HRow.shape
    refine lexD_done (fun _ => HS.imm) ?_
    refine' a_dSoft rfl ?_
    (try simp only [Act.put, List.setIfInBounds_toArray, List.set_cons_zero, List.set_cons_succ])
    refine lexD_end ?_
    go_wp2
    refine ⟨i + 1, ⟨by omega, _, Lx_, ⟨_, _, _, _, _, _, _, _, _, _, _, _, _, _, _, _, _, _, _, _, _, _, _, _, _, _, rfl⟩, ?_, HS.drop⟩, by omega⟩
    rw [List.take_add_one, HX.out]
    simpa [atC, List.flatMap_append] using HRow
  · obtain rfl : i = (steps l 0).length := by omega
    obtain ⟨Ar_, cr_, rfl⟩ := HRow.shape
    rw [List.take_length] at HRow
    go_wp2
    obtain ⟨A', c', M3, e3, hle3, hfr3, HS3, hsl⟩ := HS.keepRow (F := fun y => y) .nil HRow (atC_one _) (fun _ h _ => h)
    cases e3
    go_ret
    first
      | exact ⟨_, _, rfl, M3, ⟨HS3.below, Mem.le_trans hg1.le hle3, Mem.fresh_trans (hg1.fresh.less hs_hg1) hfr3 (Nat.le_refl _), HS3.imm⟩, hsl⟩
      | exact ⟨_, _, M3, rfl, ⟨HS3.below, Mem.le_trans hg1.le hle3, Mem.fresh_trans (hg1.fresh.less hs_hg1) hfr3 (Nat.le_refl _), HS3.imm⟩, hsl⟩
end Go.Proofs.YtbogoehjoglneaaDoor

/- The reference of layer 11: Steps and Back; the laws' same. -/
namespace Go.Proofs.YtbogoehjoglneaaDoor
open Go.RowKit
set_option linter.unusedVariables false
set_option linter.unusedSimpArgs false
set_option maxRecDepth 100000
attribute [local go_sem] byt_drop byt_tail Int.toNat_natCast sOf_size

theorem at_cells {M : Mem} {xs : List (Nat × Stp)} {j b o : Nat} {x : Nat × Stp} (h : ∀ t u, (xs.flatMap atC)[j * 4 + t]? = some u → cellM M b (o + t) = some u) (e : xs[j]? = some x) : ∀ t u, (atC x)[t]? = some u → cellM M b (o + t) = some u := fun t u hu => by
  have ht : t < 4 := by
    have := (List.getElem?_eq_some_iff.1 hu).1
    simpa [atC] using this
  exact h t u (by rw [flat_get atC 4 atC_len xs j t x e ht]; exact hu)

/- The steps ahead of the floor of a place, backwards. -/
def backF (l : List UInt8) (p : Nat) : List (Nat × Stp) := ((steps l 0).filter (fun x => decide (x.1 < floorN l p))).reverse
theorem filter_parts {l : List UInt8} {p : Nat} (hp : p ≤ l.length) : (steps l 0).filter (fun x => decide (floorN l p ≤ x.1)) = stepsF l p ∧ ∃ pre, steps l 0 = pre ++ stepsF l p ∧ backF l p = pre.reverse := by
  have hq := floor_le l p
  have he := floor_edge l p
  obtain ⟨pre, e, h⟩ := steps_from (l := l) (floorN l p) 0 (floorN l p) (by omega) (Nat.zero_le _) (by omega) (inside_at_zero l) he
  rw [List.drop_zero] at e
  have hs : ∀ x ∈ steps (l.drop (floorN l p)) (floorN l p), floorN l p ≤ x.1 := fun x hx => (steps_places l.length (floorN l p) (by omega) he x hx).1
  have hpre : ∀ x ∈ pre, x.1 < floorN l p := fun x hx => by
    obtain ⟨_, h2, _, h4⟩ := h x hx
    have := stp_w (l.drop x.1)
    rw [← h4] at this
    omega
  refine ⟨?_, pre, e, ?_⟩
  · rw [e, List.filter_append, List.filter_eq_nil_iff.2 (fun x hx => by have := hpre x hx; simp; omega), List.filter_eq_self.2 (fun x hx => by simpa using hs x hx)]
    rfl
  · unfold backF
    rw [e, List.filter_append, List.filter_eq_self.2 (fun x hx => by simpa using hpre x hx), List.filter_eq_nil_iff.2 (fun x hx => by have := hs x hx; simp; omega), List.append_nil]

theorem filter_take {α : Type} (q : α → Bool) (xs : List α) (i : Nat) (x : α) (h : xs[i]? = some x) : (xs.take (i + 1)).filter q = (xs.take i).filter q ++ (if q x = true then [x] else []) := by
  rw [List.take_add_one, h, List.filter_append]
  congr 1
  by_cases hq : q x = true <;> simp [hq]
theorem filter_len {α : Type} (q : α → Bool) (xs : List α) : (xs.filter q).length ≤ xs.length := List.length_filter_le _ _

set_option maxHeartbeats 2000000 in
theorem rSteps_in (M : Mem) (A : Option Addr) (c n : Nat) (l : List UInt8) (hb : BS M A c l) (hn : n = l.length) (hl : l.length ≤ 268435456) (p : Nat) (hp : p ≤ l.length) (w : World) (hi : Imm M w) :
    Calls Tryd.prog 29 #[.slice A n c, .int .i64 p] w fun e w' => ∃ A' c' M', e = .returned (.slice A' (stepsF l p).length c') ∧ Grew M M' w w' ∧ SL M' 4 A' (stepsF l p).length c' ((stepsF l p).flatMap atC) := by
  subst hn
  rw [← (filter_parts hp).1]
  have HB := Lib.hid hb; clear hb
  have HE := Lib.hid (fun w hi => rAll_any M A c l.length l HB.out rfl hl w hi)
  have HF := Lib.hid (fun w hi => rFloor_in M A c l.length l HB.out rfl hl p hp w hi)
  have hsl := steps_len l
  have hq := floor_le l p
  generalize floorN l p = q at *
  generalize hss : steps l 0 = ss at *
  clear hss
  (have HS := St.start hi; go_enter Tryd.func29, Tryd.ntmps29)
  go_wp2_with (first | (go_at_call 17; (with_reducible refine (HF.out _ HS.imm).mono ?_); rintro e w_ ⟨rfl, hb_⟩; have HS_ := HS.call hb_; clear HS hb_; have HS := HS_; clear HS_) | (go_at_call 18; (with_reducible refine (HE.out _ HS.imm).mono ?_); rintro e w_ ⟨A1, c1, M1, rfl, hg1, hE⟩; have hs_hg1 := HS.moved.size; have HS_ := HS.callM hg1.below hg1.fresh hg1.imm; clear HS; have HS := HS_; clear HS_))
  refine wp_loop_st (σ := Nat) (fun i a w1 => i ≤ ss.length ∧ ∃ v Lx, (∃ g1 g2 g3 g4 g6 g10 g11 g12 g13 g14 g15 g16 g17 g18 g19 g20 g21 g22 g23 g24 g25 g26 g27 g28 g29 g30 g31 g32 g33 g34 g35 g36 g37 g38 g39 g40 : Value, a = { tmps := #[.slice A l.length c, g1, g2, g3, g4, .int .i64 (q : Nat), g6, .slice A1 ss.length c1, v, .int .i64 (i : Nat), g10, g11, g12, g13, g14, g15, g16, g17, g18, g19, g20, g21, g22, g23, g24, g25, g26, g27, g28, g29, g30, g31, g32, g33, g34, g35, g36, g37, g38, g39, g40], defers := [] }) ∧ Row 47 4 v ((ss.take i).filter (fun x => decide (q ≤ x.1))).length (((ss.take i).filter (fun x => decide (q ≤ x.1))).flatMap atC) Lx ∧
    St (fun k => w.heap.size ≤ k) w w1 M1 Lx) (fun i => ss.length - i) 0
    ⟨Nat.zero_le _, _, [], ⟨_, _, _, _, _, _, _, _, _, _, _, _, _, _, _, _, _, _, _, _, _, _, _, _, _, _, _, _, _, _, _, _, _, _, _, _, rfl⟩, Row.nil _ _, HS⟩ ?_
  clear HS hi
  rintro i a w1 ⟨hi, v, Lx, ⟨g1, g2, g3, g4, g6, g10, g11, g12, g13, g14, g15, g16, g17, g18, g19, g20, g21, g22, g23, g24, g25, g26, g27, g28, g29, g30, g31, g32, g33, g34, g35, g36, g37, g38, g39, g40, rfl⟩, HRow, HS⟩
  by_cases hlt : i < ss.length
  · obtain ⟨x, hx⟩ : ∃ x, ss[i]? = some x := ⟨_, List.getElem?_eq_getElem hlt⟩
    have HX := Lib.hid hx
    have HT := Lib.hid (filter_take (fun x => decide (q ≤ x.1)) ss i x hx)
    have hle := filter_len (fun x => decide (q ≤ x.1)) (ss.take i)
    rw [List.length_take] at hle
    clear hx
    have hlt' : (i : Int) < ss.length := by omega
    generalize hys : (ss.take i).filter (fun x => decide (q ≤ x.1)) = ys at *
    by_cases hqx : (q : Int) ≤ x.1
    · go_wp2_with (first | (((with_reducible refine' st_idx_sl ?hw ?hx ?hb ?hi ?hj ?_); (case hw => rfl); (case hx => first | exact eval_lit rfl | rfl); (case hb => assumption); (case hi => first | exact eval_lit rfl | rfl); (case hj => first | omega | (simp; omega)); intro b_ o_ hc_); have hcA := at_cells hc_ (x := x) (by simpa using HX.out); clear hc_; have hc0 : cellM M1 b_ o_ = some (.int .i64 (x.1 : Nat)) := hcA 0 _ rfl) | ((with_reducible refine' st_load_cellM ?hw HS ?hx ?hc ?_); (case hw => rfl); (case hx => first | exact eval_lit rfl | rfl); (case hc => assumption)) | ((with_reducible refine' st_load_aggM (vs := [.int .i64 (x.1 : Nat), .int .i32 (x.2.r : Nat), .int .i64 (x.2.w : Nat), .bool x.2.ok]) ?hw HS ?hx ?hc ?hl ?_); (case hw => first | rfl | (go_simp; done)); (case hx => first | exact eval_lit rfl | rfl); (case hc => exact hcA); (case hl => rfl)) | ((with_reducible refine' st_build (cl := [.int .i64 (x.1 : Nat), .int .i32 (x.2.r : Nat), .int .i64 (x.2.w : Nat), .bool x.2.ok]) ?hw HS ?hl ?h0 ?hf ?_); (case hw => rfl); (case hl => rfl); (case h0 => rfl); (case hf => first | (go_simp; done) | rfl | (simp [Instr.fill]; done)); intro b_ w_ HS_; clear HS; have HS := HS_; clear HS_) | (((with_reducible refine' st_append (F := fun y => _ :: y) HRow HS ?hF ?hw ?h1 ?h2 ?hs ?hm ?_); (case hF => repeat (first | exact Pre.nil | apply Pre.cons)); (case hw => rfl); (case h1 => first | exact eval_lit rfl | rfl); (case h2 => first | exact eval_lit rfl | rfl); (case hs => (exact Src.own (.head _) rfl rfl)); (case hm => omega); intro v_ Lx_ w_ HR_ HS_; clear HRow; have HRow := HR_; clear HR_; clear HS; have HS := HS_; clear HS_); obtain ⟨Ar_, cr_, rfl⟩ := HRow.shape))
      refine ⟨i + 1, ⟨by omega, _, Lx_, ⟨_, _, _, _, _, _, _, _, _, _, _, _, _, _, _, _, _, _, _, _, _, _, _, _, _, _, _, _, _, _, _, _, _, _, _, _, rfl⟩, ?_, HS.drop⟩, by omega⟩
      rw [HT.out, if_pos (by simp; omega), List.length_append, List.flatMap_append]
      simpa [atC] using HRow
    · obtain ⟨Ar_, cr_, rfl⟩ := HRow.shape
      go_wp2_with (first | (((with_reducible refine' st_idx_sl ?hw ?hx ?hb ?hi ?hj ?_); (case hw => rfl); (case hx => first | exact eval_lit rfl | rfl); (case hb => assumption); (case hi => first | exact eval_lit rfl | rfl); (case hj => first | omega | (simp; omega)); intro b_ o_ hc_); have hcA := at_cells hc_ (x := x) (by simpa using HX.out); clear hc_; have hc0 : cellM M1 b_ o_ = some (.int .i64 (x.1 : Nat)) := hcA 0 _ rfl) | ((with_reducible refine' st_load_cellM ?hw HS ?hx ?hc ?_); (case hw => rfl); (case hx => first | exact eval_lit rfl | rfl); (case hc => assumption)))
      refine ⟨i + 1, ⟨by omega, _, ⟨rfl, by omega⟩, Lx, ?_, HS⟩, by omega⟩
      rw [HT.out, if_neg (by simp; omega), List.append_nil]
      exact HRow
  · obtain rfl : i = ss.length := by omega
    obtain ⟨Ar_, cr_, rfl⟩ := HRow.shape
    rw [List.take_length] at HRow
    rw [List.take_length]
    go_wp2
    obtain ⟨A', c', M3, e3, hle3, hfr3, HS3, hsl⟩ := HS.keepRow (F := fun y => y) .nil HRow (atC_one _) (fun _ h _ => h)
    cases e3
    go_ret
    first
      | exact ⟨_, _, rfl, M3, ⟨HS3.below, Mem.le_trans hg1.le hle3, Mem.fresh_trans (hg1.fresh.less hs_hg1) hfr3 (Nat.le_refl _), HS3.imm⟩, hsl⟩
      | exact ⟨_, _, M3, rfl, ⟨HS3.below, Mem.le_trans hg1.le hle3, Mem.fresh_trans (hg1.fresh.less hs_hg1) hfr3 (Nat.le_refl _), HS3.imm⟩, hsl⟩
theorem rSteps_out (M : Mem) (A : Option Addr) (c n : Nat) (x : Int) (hx : x < 0 ∨ (n : Int) < x) (w : World) (hi : Imm M w) :
    Calls Tryd.prog 29 #[.slice A n c, .int .i64 x] w fun e w' => e = .returned (.slice none 0 0) ∧ Below w.heap.size w w' := by
  have HF := Lib.hid (fun w hi => rFloor_out M A c n x hx w hi)
  clear hx
  (have HS := St.start hi; go_enter Tryd.func29, Tryd.ntmps29)
  go_wp2_with (first | (go_at_call 17; (with_reducible refine (HF.out _ HS.imm).mono ?_); rintro e w_ ⟨rfl, hb_⟩; have HS_ := HS.call hb_; clear HS hb_; have HS := HS_; clear HS_))
  go_ret
  exact ⟨rfl, HS.below⟩

theorem filter_drop {α : Type} (q : α → Bool) (xs : List α) (i : Nat) (x : α) (h : xs[i]? = some x) : ((xs.drop i).filter q).reverse = ((xs.drop (i + 1)).filter q).reverse ++ (if q x = true then [x] else []) := by
  have hlt := (List.getElem?_eq_some_iff.1 h).1
  rw [List.drop_eq_getElem_cons hlt]
  have hx : xs[i] = x := (List.getElem?_eq_some_iff.1 h).2
  rw [hx]
  by_cases hq : q x = true <;> simp [hq]

set_option maxHeartbeats 2000000 in
theorem rBack_in (M : Mem) (A : Option Addr) (c n : Nat) (l : List UInt8) (hb : BS M A c l) (hn : n = l.length) (hl : l.length ≤ 268435456) (p : Nat) (hp : p ≤ l.length) (w : World) (hi : Imm M w) :
    Calls Tryd.prog 30 #[.slice A n c, .int .i64 p] w fun e w' => ∃ A' c' M', e = .returned (.slice A' (backF l p).length c') ∧ Grew M M' w w' ∧ SL M' 4 A' (backF l p).length c' ((backF l p).flatMap atC) := by
  subst hn
  unfold backF
  have HB := Lib.hid hb; clear hb
  have HE := Lib.hid (fun w hi => rAll_any M A c l.length l HB.out rfl hl w hi)
  have HF := Lib.hid (fun w hi => rFloor_in M A c l.length l HB.out rfl hl p hp w hi)
  have hsl := steps_len l
  have hq := floor_le l p
  generalize floorN l p = q at *
  generalize hss : steps l 0 = ss at *
  clear hss
  (have HS := St.start hi; go_enter Tryd.func30, Tryd.ntmps30)
  go_wp2_with (first | (go_at_call 17; (with_reducible refine (HF.out _ HS.imm).mono ?_); rintro e w_ ⟨rfl, hb_⟩; have HS_ := HS.call hb_; clear HS hb_; have HS := HS_; clear HS_) | (go_at_call 18; (with_reducible refine (HE.out _ HS.imm).mono ?_); rintro e w_ ⟨A1, c1, M1, rfl, hg1, hE⟩; have hs_hg1 := HS.moved.size; have HS_ := HS.callM hg1.below hg1.fresh hg1.imm; clear HS; have HS := HS_; clear HS_))
  refine wp_loop_st (σ := Nat) (fun i a w1 => i ≤ ss.length ∧ ∃ v Lx, (∃ g1 g2 g3 g4 g6 g10 g11 g12 g13 g14 g15 g16 g17 g18 g19 g20 g21 g22 g23 g24 g25 g26 g27 g28 g29 g30 g31 g32 g33 g34 g35 g36 g37 g38 g39 g40 g41 : Value, a = { tmps := #[.slice A l.length c, g1, g2, g3, g4, .int .i64 (q : Nat), g6, .slice A1 ss.length c1, v, .int .i64 ((i : Int) - 1), g10, g11, g12, g13, g14, g15, g16, g17, g18, g19, g20, g21, g22, g23, g24, g25, g26, g27, g28, g29, g30, g31, g32, g33, g34, g35, g36, g37, g38, g39, g40, g41], defers := [] }) ∧ Row 47 4 v ((ss.drop i).filter (fun x => decide (x.1 < q))).reverse.length (((ss.drop i).filter (fun x => decide (x.1 < q))).reverse.flatMap atC) Lx ∧
    St (fun k => w.heap.size ≤ k) w w1 M1 Lx) (fun i => i) ss.length
    ⟨Nat.le_refl _, _, [], ⟨_, _, _, _, _, _, _, _, _, _, _, _, _, _, _, _, _, _, _, _, _, _, _, _, _, _, _, _, _, _, _, _, _, _, _, _, _, rfl⟩, by rw [List.drop_length]; exact Row.nil _ _, HS⟩ ?_
  clear HS hi
  rintro i a w1 ⟨hi, v, Lx, ⟨g1, g2, g3, g4, g6, g10, g11, g12, g13, g14, g15, g16, g17, g18, g19, g20, g21, g22, g23, g24, g25, g26, g27, g28, g29, g30, g31, g32, g33, g34, g35, g36, g37, g38, g39, g40, g41, rfl⟩, HRow, HS⟩
  cases i with
  | succ i =>
    obtain ⟨x, hx⟩ : ∃ x, ss[i]? = some x := ⟨_, List.getElem?_eq_getElem (by omega)⟩
    have HX := Lib.hid hx
    have HT := Lib.hid (filter_drop (fun x => decide (x.1 < q)) ss i x hx)
    have hle := filter_len (fun x => decide (x.1 < q)) (ss.drop (i + 1))
    rw [List.length_drop] at hle
    clear hx
    rw [show ((i + 1 : Nat) : Int) - 1 = (i : Nat) from by omega]
    generalize hys : (ss.drop (i + 1)).filter (fun x => decide (x.1 < q)) = ys at *
    have hln : ys.reverse.length = ys.length := List.length_reverse
    rw [hln] at HRow
    by_cases hqx : (x.1 : Int) < q
    · go_wp2_with (first | (((with_reducible refine' st_idx_sl ?hw ?hx ?hb ?hi ?hj ?_); (case hw => rfl); (case hx => first | exact eval_lit rfl | rfl); (case hb => assumption); (case hi => first | exact eval_lit rfl | rfl); (case hj => first | omega | (simp; omega)); intro b_ o_ hc_); have hcA := at_cells hc_ (x := x) (by simpa using HX.out); clear hc_; have hc0 : cellM M1 b_ o_ = some (.int .i64 (x.1 : Nat)) := hcA 0 _ rfl) | ((with_reducible refine' st_load_cellM ?hw HS ?hx ?hc ?_); (case hw => rfl); (case hx => first | exact eval_lit rfl | rfl); (case hc => assumption)) | ((with_reducible refine' st_load_aggM (vs := [.int .i64 (x.1 : Nat), .int .i32 (x.2.r : Nat), .int .i64 (x.2.w : Nat), .bool x.2.ok]) ?hw HS ?hx ?hc ?hl ?_); (case hw => first | rfl | (go_simp; done)); (case hx => first | exact eval_lit rfl | rfl); (case hc => exact hcA); (case hl => rfl)) | ((with_reducible refine' st_build (cl := [.int .i64 (x.1 : Nat), .int .i32 (x.2.r : Nat), .int .i64 (x.2.w : Nat), .bool x.2.ok]) ?hw HS ?hl ?h0 ?hf ?_); (case hw => rfl); (case hl => rfl); (case h0 => rfl); (case hf => first | (go_simp; done) | rfl | (simp [Instr.fill]; done)); intro b_ w_ HS_; clear HS; have HS := HS_; clear HS_) | (((with_reducible refine' st_append (F := fun y => _ :: y) HRow HS ?hF ?hw ?h1 ?h2 ?hs ?hm ?_); (case hF => repeat (first | exact Pre.nil | apply Pre.cons)); (case hw => rfl); (case h1 => first | exact eval_lit rfl | rfl); (case h2 => first | exact eval_lit rfl | rfl); (case hs => (exact Src.own (.head _) rfl rfl)); (case hm => omega); intro v_ Lx_ w_ HR_ HS_; clear HRow; have HRow := HR_; clear HR_; clear HS; have HS := HS_; clear HS_); obtain ⟨Ar_, cr_, rfl⟩ := HRow.shape))
      refine ⟨i, ⟨by omega, _, Lx_, ⟨_, _, _, _, _, _, _, _, _, _, _, _, _, _, _, _, _, _, _, _, _, _, _, _, _, _, _, _, _, _, _, _, _, _, _, _, _, rfl⟩, ?_, HS.drop⟩, by omega⟩
      rw [HT.out, if_pos (by simp; omega), List.length_append, List.flatMap_append, List.length_reverse]
      simpa [atC] using HRow
    · obtain ⟨Ar_, cr_, rfl⟩ := HRow.shape
      go_wp2_with (first | (((with_reducible refine' st_idx_sl ?hw ?hx ?hb ?hi ?hj ?_); (case hw => rfl); (case hx => first | exact eval_lit rfl | rfl); (case hb => assumption); (case hi => first | exact eval_lit rfl | rfl); (case hj => first | omega | (simp; omega)); intro b_ o_ hc_); have hcA := at_cells hc_ (x := x) (by simpa using HX.out); clear hc_; have hc0 : cellM M1 b_ o_ = some (.int .i64 (x.1 : Nat)) := hcA 0 _ rfl) | ((with_reducible refine' st_load_cellM ?hw HS ?hx ?hc ?_); (case hw => rfl); (case hx => first | exact eval_lit rfl | rfl); (case hc => assumption)))
      refine ⟨i, ⟨by omega, _, ⟨rfl, rfl⟩, Lx, ?_, HS⟩, by omega⟩
      have ht := HT.out
      rw [if_neg (by simp; omega), List.append_nil] at ht
      have hl2 := congrArg List.length ht
      rw [List.length_reverse, List.length_reverse] at hl2
      rw [ht, hl2]
      exact HRow
  | zero =>
    obtain ⟨Ar_, cr_, rfl⟩ := HRow.shape
    rw [List.drop_zero] at HRow
    rw [List.drop_zero]
    go_wp2
    obtain ⟨A', c', M3, e3, hle3, hfr3, HS3, hsl⟩ := HS.keepRow (F := fun y => y) .nil HRow (atC_one _) (fun _ h _ => h)
    cases e3
    go_ret
    first
      | exact ⟨_, _, by rw [List.length_reverse]; rfl, M3, ⟨HS3.below, Mem.le_trans hg1.le hle3, Mem.fresh_trans (hg1.fresh.less hs_hg1) hfr3 (Nat.le_refl _), HS3.imm⟩, hsl⟩
      | exact ⟨_, _, M3, by rw [List.length_reverse]; rfl, ⟨HS3.below, Mem.le_trans hg1.le hle3, Mem.fresh_trans (hg1.fresh.less hs_hg1) hfr3 (Nat.le_refl _), HS3.imm⟩, hsl⟩
theorem rBack_out (M : Mem) (A : Option Addr) (c n : Nat) (x : Int) (hx : x < 0 ∨ (n : Int) < x) (w : World) (hi : Imm M w) :
    Calls Tryd.prog 30 #[.slice A n c, .int .i64 x] w fun e w' => e = .returned (.slice none 0 0) ∧ Below w.heap.size w w' := by
  have HF := Lib.hid (fun w hi => rFloor_out M A c n x hx w hi)
  clear hx
  (have HS := St.start hi; go_enter Tryd.func30, Tryd.ntmps30)
  go_wp2_with (first | (go_at_call 17; (with_reducible refine (HF.out _ HS.imm).mono ?_); rintro e w_ ⟨rfl, hb_⟩; have HS_ := HS.call hb_; clear HS hb_; have HS := HS_; clear HS_))
  go_ret
  exact ⟨rfl, HS.below⟩
end Go.Proofs.YtbogoehjoglneaaDoor

/- walk.Back: an iterator over a rope's steps, backwards; walk.Steps and walk.Back from a place that is none. -/
namespace Go.Proofs.YtbogoehjoglneaaDoor
open Go.RowKit
set_option linter.unusedVariables false
set_option linter.unusedSimpArgs false
set_option maxRecDepth 100000
attribute [local go_sem] byt_drop byt_tail Int.toNat_natCast sOf_size

theorem backF_zero (l : List UInt8) : backF l 0 = [] := by
  unfold backF
  rw [floor_self (inside_at_zero l), List.filter_eq_nil_iff.2 (fun x _ => by simp)]
  rfl
theorem backF_floor (l : List UInt8) (p : Nat) : backF l (floorN l p) = backF l p := by
  unfold backF
  rw [floor_self (floor_edge l p)]
theorem backF_cons {l : List UInt8} {p : Nat} (h : inside l p = 0) (h0 : 0 < p) (hp : p ≤ l.length) : backF l p = (floorN l (p - 1), stp (l.drop (floorN l (p - 1)))) :: backF l (floorN l (p - 1)) := by
  have hpe := prev_edge h h0 hp
  have hle := floor_le l (p - 1)
  obtain ⟨pre, e1, e2⟩ := (filter_parts hp).2
  obtain ⟨pq, f1, f2⟩ := (filter_parts (l := l) (p := floorN l (p - 1)) (by omega)).2
  rw [stepsF_cons (by omega), floor_self (floor_edge l (p - 1)), hpe] at f1
  rw [e2, f2]
  have : pre = pq ++ [(floorN l (p - 1), stp (l.drop (floorN l (p - 1))))] := by
    have h1 := e1.symm.trans f1
    rw [show pq ++ (floorN l (p - 1), stp (l.drop (floorN l (p - 1)))) :: stepsF l p = (pq ++ [(floorN l (p - 1), stp (l.drop (floorN l (p - 1))))]) ++ stepsF l p from by simp] at h1
    exact List.append_cancel_right h1
  rw [this, List.reverse_append]
  rfl

theorem Steps1_out (M : Mem) (r : Nat) (l : List UInt8) (hr : RopeAt M r l) (b1 b2 : Nat) (x : Int) (hx : x < 0 ∨ (l.length : Int) ≤ x)
    (h1 : M b1 = some (.cells [.int .i64 x].toArray 3 (0, 0))) (h2 : M b2 = some (.cells [ptr r].toArray 27 (0, 0))) :
    SeqC Tryd.prog M 64 #[ptr b1, ptr b2] [] stepV := by
  intro l0 J Jx W hi hJ hJx h0 hY
  refine (callsIn_wide (n := 0)).2 ?_
  have HSt := Lib.hid (fun w hi => SStep_out M r l hr x hx w hi)
  clear hY hJ hJx hr hx
  have HS := St.start' hi
  go_enter Tryd.func64, Tryd.ntmps64
  go_wp2_with (first | ((with_reducible refine' q_alloc ?_); refine' a_alloc HS ?_; clear HS; intro b_ w_ HS) | ((with_reducible refine' q_box ?_); refine' a_box HS ?_; clear HS; intro b_ w_ HS) | ((with_reducible refine' q_load ?_); refine' a_load HS ?_) | ((with_reducible refine' q_store ?_); refine' a_store HS ?_; clear HS; intro w_ HS))
  refine wp_loop_st (σ := Unit) (fun p a w => (∃ g3 g5 g6 g7 g8 g9 g10 g11 g12 g13 g14 g15 g16 g17 g18 g19 g20 g21 g22 g23 g24 g25 g26 g27 g28 : Value, a = { tmps := #[.func (.yield l0) #[] #[], ptr b1, ptr b2, g3, .int .i64 x, g5, g6, g7, g8, g9, g10, g11, g12, g13, g14, g15, g16, g17, g18, g19, g20, g21, g22, g23, g24, g25, g26, g27, g28], defers := [] }) ∧
    St (fun k => False ∨ W.heap.size ≤ k) W w M []) (fun p => 0) ()
    ⟨⟨_, _, _, _, _, _, _, _, _, _, _, _, _, _, _, _, _, _, _, _, _, _, _, _, _, rfl⟩, HS⟩ ?_
  clear HS hi
  rintro _ a w ⟨⟨g3, g5, g6, g7, g8, g9, g10, g11, g12, g13, g14, g15, g16, g17, g18, g19, g20, g21, g22, g23, g24, g25, g26, g27, g28, rfl⟩, HS⟩
  go_wp2_with (first | ((with_reducible refine' q_alloc ?_); refine' a_alloc HS ?_; clear HS; intro b_ w_ HS) | ((with_reducible refine' q_box ?_); refine' a_box HS ?_; clear HS; intro b_ w_ HS) | ((with_reducible refine' q_load ?_); refine' a_load HS ?_) | ((with_reducible refine' q_store ?_); refine' a_store HS ?_; clear HS; intro w_ HS) | (go_at_call 40; (with_reducible refine (HSt.out _ HS.imm).mono ?_); rintro e w_ ⟨rfl, hb_⟩; have HS_ := HS.call hb_; clear HS hb_; have HS := HS_; clear HS_))
  refine bodyPost_ret (results_none rfl _ _ _) rfl ?_
  exact ⟨⟨_, rfl⟩, _, _, HS.movesO, .inl h0⟩

theorem Back1_out (M : Mem) (r : Nat) (l : List UInt8) (hr : RopeAt M r l) (b1 b2 : Nat) (x : Int) (hx : x < 0 ∨ (l.length : Int) < x)
    (h1 : M b1 = some (.cells [ptr r].toArray 27 (0, 0))) (h2 : M b2 = some (.cells [.int .i64 x].toArray 3 (0, 0))) :
    SeqC Tryd.prog M 65 #[ptr b1, ptr b2] [] stepV := by
  intro l0 J Jx W hi hJ hJx h0 hY
  refine (callsIn_wide (n := 0)).2 ?_
  have HSt := Lib.hid (fun w hi => SFloor_out M r l hr x hx w hi)
  clear hY hJ hJx hr hx
  have HS := St.start' hi
  go_enter Tryd.func65, Tryd.ntmps65
  go_wp2_with (first | ((with_reducible refine' q_alloc ?_); refine' a_alloc HS ?_; clear HS; intro b_ w_ HS) | ((with_reducible refine' q_box ?_); refine' a_box HS ?_; clear HS; intro b_ w_ HS) | ((with_reducible refine' q_load ?_); refine' a_load HS ?_) | ((with_reducible refine' q_store ?_); refine' a_store HS ?_; clear HS; intro w_ HS) | (go_at_call 39; (with_reducible refine (HSt.out _ HS.imm).mono ?_); rintro e w_ ⟨rfl, hb_⟩; have HS_ := HS.call hb_; clear HS hb_; have HS := HS_; clear HS_))
  refine bodyPost_ret (results_none rfl _ _ _) rfl ?_
  exact ⟨⟨_, rfl⟩, _, _, HS.movesO, .inl h0⟩

set_option maxHeartbeats 2000000 in
theorem Back1_seq (M : Mem) (hG : Gl M) (r : Nat) (l : List UInt8) (hr : RopeAt M r l) (b1 b2 : Nat) (p0 : Nat) (hp0 : p0 ≤ l.length)
    (h1 : M b1 = some (.cells [ptr r].toArray 27 (0, 0))) (h2 : M b2 = some (.cells [.int .i64 p0].toArray 3 (0, 0))) :
    SeqC Tryd.prog M 65 #[ptr b1, ptr b2] (backF l p0) stepV := by
  intro l0 J Jx W hi hJ hJx h0 hY
  clear hJx
  refine (callsIn_wide (n := 0)).2 ?_
  have HG := Lib.hid hG; clear hG
  have HR := Lib.hid hr
  have hm := hr.small
  have HY := Lib.hid hY; clear hY
  have HJ := Lib.hid hJ; clear hJ
  have HFl := Lib.hid (fun w hi => SFloor_in M HG.out r l HR.out p0 hp0 w hi)
  clear hr
  have hf0 := floor_le l p0
  have HB0 := Lib.hid (backF_floor l p0)
  have HE0 := Lib.hid (floor_edge l p0)
  obtain ⟨f0, hfe⟩ : ∃ f0, f0 = floorN l p0 := ⟨_, rfl⟩
  rw [← hfe] at HFl hf0 HB0 HE0
  clear hfe
  have HS := St.start' hi
  go_enter Tryd.func65, Tryd.ntmps65
  go_wp2_with (first | ((with_reducible refine' q_alloc ?_); refine' a_alloc HS ?_; clear HS; intro b_ w_ HS) | ((with_reducible refine' q_box ?_); refine' a_box HS ?_; clear HS; intro b_ w_ HS) | ((with_reducible refine' q_load ?_); refine' a_load HS ?_) | ((with_reducible refine' q_store ?_); refine' a_store HS ?_; clear HS; intro w_ HS) | (go_at_call 39; (with_reducible refine (HFl.out _ HS.imm).mono ?_); rintro e w_ ⟨rfl, hb_⟩; have HS_ := HS.call hb_; clear HS hb_; have HS := HS_; clear HS_))
  refine wp_loop_st (σ := Nat) (fun p a w => p ≤ l.length ∧ inside l p = 0 ∧ (∃ g3 g5 g6 g7 g8 g9 g10 g11 g12 g13 g14 g15 g16 g17 g18 g19 g20 g21 g22 g23 g24 g25 g26 g27 g28 g29 g30 g31 g32 g33 g34 : Value, a = { tmps := #[.func (.yield l0) #[] #[], ptr b1, ptr b2, g3, .int .i64 (p : Nat), g5, g6, g7, g8, g9, g10, g11, g12, g13, g14, g15, g16, g17, g18, g19, g20, g21, g22, g23, g24, g25, g26, g27, g28, g29, g30, g31, g32, g33, g34], defers := [] }) ∧
    ∃ pre O0 W0, backF l p0 = pre ++ backF l p ∧ J pre O0 W0 ∧ St (fun k => O0 k ∨ W0.heap.size ≤ k) W0 w M []) (fun p => p) f0
    ⟨by omega, HE0.out, ⟨_, _, _, _, _, _, _, _, _, _, _, _, _, _, _, _, _, _, _, _, _, _, _, _, _, _, _, _, _, _, _, rfl⟩, [], _, _, HB0.out.symm, h0, HS⟩ ?_
  clear HS h0 hi
  rintro p a w ⟨hp, hin, ⟨g3, g5, g6, g7, g8, g9, g10, g11, g12, g13, g14, g15, g16, g17, g18, g19, g20, g21, g22, g23, g24, g25, g26, g27, g28, g29, g30, g31, g32, g33, g34, rfl⟩, pre, O0, W0, hpre, hJ, HS⟩
  by_cases hlt : 0 < p
  · have hc := backF_cons hin hlt hp
    have hS : ∀ w, Imm M w → Calls Tryd.prog 40 #[ptr r, .int .i64 ((p : Int) - 1)] w fun e w' => e = .returned (.tuple #[.int .i64 (floorN l (p - 1)), stV (stp (l.drop (floorN l (p - 1)))), .int .i64 0]) ∧ Below w.heap.size w w' := fun w hi => by
      have := SStep_in M HG.out r l HR.out (p - 1) (by omega) w hi
      rwa [Int.natCast_sub (by omega)] at this
    have hq := floor_le l (p - 1)
    have he := floor_edge l (p - 1)
    obtain ⟨q, hqe⟩ : ∃ q, q = floorN l (p - 1) := ⟨_, rfl⟩
    rw [← hqe] at hq hc hS he
    obtain ⟨s, hs⟩ : ∃ s, s = stp (l.drop q) := ⟨_, rfl⟩
    rw [← hs] at hc hS
    have HSt := Lib.hid hS; clear hS hqe hs
    have hp1 : (pre ++ [(q, s)]) <+: backF l p0 := ⟨_, by rw [hpre, hc, List.append_assoc]; rfl⟩
    have HC := Lib.hid hc; clear hc
    have HP := Lib.hid hpre; clear hpre
    have HE := Lib.hid he; clear he
    have HIN := Lib.hid hin; clear hin
    have hq3 : (q : Int) ≤ 268435456 := by omega
    repeat' (first | ((with_reducible refine' wp_region_yield (id := 3) 6 ?hd ?hno ?_); (case hd => rfl); (case hno => (rintro ⟨_, _, h⟩; first | exact (h : False) | exact (h : (∃ v, Ending.outgrown = Ending.returned v) ∧ _).1.elim (fun v hv => nomatch hv) | exact (h : Ending.outgrown = Ending.returned _ ∧ _).1.elim | exact (h : (Ending.outgrown = Ending.returned _ ∧ _) ∨ (Ending.outgrown = Ending.returned _ ∧ _)).elim (fun h => nomatch h.1) (fun h => nomatch h.1))); intro K_ hK_; simp only [List.take_succ_cons, List.take_zero, List.drop_succ_cons, List.drop_zero] at hK_ ⊢) | ((with_reducible refine' q_alloc ?_); refine' a_alloc HS ?_; clear HS; intro b_ w_ HS) | ((with_reducible refine' q_box ?_); refine' a_box HS ?_; clear HS; intro b_ w_ HS) | ((with_reducible refine' q_load ?_); refine' a_load HS ?_) | ((with_reducible refine' q_store ?_); refine' a_store HS ?_; clear HS; intro w_ HS) | (go_at_call 40; (with_reducible refine (HSt.out _ HS.imm).mono ?_); rintro e w_ ⟨rfl, hb_⟩; have HS_ := HS.call hb_; clear HS hb_; have HS := HS_; clear HS_) | go_values | go_skip | go_guarded | go_step | go_upon | go_back | (simp only [Int.not_lt, Int.not_le] at *; go_simp) | (go_values <;> (try go_simp)) | (go_ite <;> go_prune <;> (try go_simp)) | (split <;> (first | (rename_i hx; exact (hx _ rfl).elim) | go_prune)))
    ((with_reducible refine' st_yield ?hw ?hx ?hargs ?hd ?hno ?hy ?_); (case hw => first | rfl | (go_simp; done)); (case hx => first | exact eval_lit rfl | rfl); (case hy => exact HY.out pre (q, s) _ _ O0 _ W0 _ hp1 hJ HS.movesO HS.grown ⟨rfl, rfl⟩ (Fresh.nil _ _ _)); (case hargs => first | (go_simp; done) | rfl); (case hd => rfl); (case hno => (rintro ⟨_, _, h⟩; first | exact (h : False) | exact (h : (∃ v, Ending.outgrown = Ending.returned v) ∧ _).1.elim (fun v hv => nomatch hv) | exact (h : Ending.outgrown = Ending.returned _ ∧ _).1.elim | exact (h : (Ending.outgrown = Ending.returned _ ∧ _) ∨ (Ending.outgrown = Ending.returned _ ∧ _)).elim (fun h => nomatch h.1) (fun h => nomatch h.1))))
    rintro e W' (⟨rfl, hJ', hK⟩ | ⟨rfl, hJx⟩)
    · have HS_ := HS.again (fun p hp => List.mem_map.2 ⟨p, hp, rfl⟩) hK (HJ.out _ _ _ hJ')
      clear HS; have HS := HS_; clear HS_
      refine ⟨_, rfl, ?_⟩
      go_wp2_with (first | ((with_reducible refine' q_alloc ?_); refine' a_alloc HS ?_; clear HS; intro b_ w_ HS) | ((with_reducible refine' q_box ?_); refine' a_box HS ?_; clear HS; intro b_ w_ HS) | ((with_reducible refine' q_load ?_); refine' a_load HS ?_) | ((with_reducible refine' q_store ?_); refine' a_store HS ?_; clear HS; intro w_ HS))
      refine ⟨q, ⟨by omega, HE.out, ⟨_, _, _, _, _, _, _, _, _, _, _, _, _, _, _, _, _, _, _, _, _, _, _, _, _, _, _, _, _, _, _, rfl⟩, pre ++ [(q, s)], _, _, ?_, hJ', HS.drop⟩, by omega⟩
      rw [HP.out, HC.out, List.append_assoc]; rfl
    · refine ⟨_, rfl, ?_⟩
      go_wp2_with fail
      refine bodyPost_ret (results_none rfl _ _ _) rfl ?_
      exact ⟨⟨_, rfl⟩, _, _, Moves.refl _ _, .inr ⟨_, hp1, hJx⟩⟩
  · obtain rfl : p = 0 := by omega
    have HSt := Lib.hid (fun w hi => SStep_out M r l HR.out (-1) (.inl (by decide)) w hi)
    rw [backF_zero, List.append_nil] at hpre
    go_wp2_with (first | ((with_reducible refine' q_alloc ?_); refine' a_alloc HS ?_; clear HS; intro b_ w_ HS) | ((with_reducible refine' q_box ?_); refine' a_box HS ?_; clear HS; intro b_ w_ HS) | ((with_reducible refine' q_load ?_); refine' a_load HS ?_) | ((with_reducible refine' q_store ?_); refine' a_store HS ?_; clear HS; intro w_ HS) | (go_at_call 40; (with_reducible refine (HSt.out _ HS.imm).mono ?_); rintro e w_ ⟨rfl, hb_⟩; have HS_ := HS.call hb_; clear HS hb_; have HS := HS_; clear HS_))
    refine bodyPost_ret (results_none rfl _ _ _) rfl ?_
    exact ⟨⟨_, rfl⟩, _, _, HS.movesO, .inl (hpre ▸ hJ)⟩

theorem Back_any (M : Mem) (r : Nat) (x : Int) (w : World) (hi : Imm M w) :
    Calls Tryd.prog 28 #[ptr r, .int .i64 x] w fun e w' => ∃ b1 b2 M', e = .returned (.func (.func 65) #[] #[ptr b1, ptr b2]) ∧ Grew M M' w w' ∧
      M' b1 = some (.cells [ptr r].toArray 27 (0, 0)) ∧ M' b2 = some (.cells [.int .i64 x].toArray 3 (0, 0)) := by
  (have HS := St.start hi; go_enter Tryd.func28, Tryd.ntmps28)
  go_wp2_with (first | ((with_reducible refine' q_alloc ?_); refine' a_alloc HS ?_; clear HS; intro b_ w_ HS) | ((with_reducible refine' q_box ?_); refine' a_box HS ?_; clear HS; intro b_ w_ HS) | ((with_reducible refine' q_load ?_); refine' a_load HS ?_) | ((with_reducible refine' q_store ?_); refine' a_store HS ?_; clear HS; intro w_ HS))
  have k1 := HS.base _ (.head _)
  have HS1 := HS.keep
  have k2 := HS1.base _ (.head _)
  have HS2 := HS1.keep
  go_ret
  first
    | exact ⟨_, _, _, rfl, ⟨HS2.below, Mem.le_trans (Mem.le_add k1.2) (Mem.le_add k2.2), Mem.fresh_trans (Mem.fresh_add k1.1) (Mem.fresh_add k2.1) (Nat.le_refl _), HS2.imm⟩, Mem.le_add k2.2 _ _ (Mem.add_same _ _ _), Mem.add_same _ _ _⟩
    | exact ⟨_, _, _, rfl, ⟨HS2.below, Mem.le_trans (Mem.le_add k1.2) (Mem.le_add k2.2), Mem.fresh_trans (Mem.fresh_add k1.1) (Mem.fresh_add k2.1) (Nat.le_refl _), HS2.imm⟩, Mem.add_same _ _ _, Mem.le_add k2.2 _ _ (Mem.add_same _ _ _)⟩

/- From any place. -/
def stepsI (l : List UInt8) (x : Int) : List (Nat × Stp) := if 0 ≤ x ∧ x ≤ l.length then stepsF l x.toNat else []
def backI (l : List UInt8) (x : Int) : List (Nat × Stp) := if 0 ≤ x ∧ x ≤ l.length then backF l x.toNat else []
theorem stepsI_len (l : List UInt8) (x : Int) : (stepsI l x).length ≤ l.length := by
  unfold stepsI
  split
  · rw [← (filter_parts (by omega)).1]
    exact Nat.le_trans (List.length_filter_le _ _) (steps_len l)
  · simp
theorem backI_len (l : List UInt8) (x : Int) : (backI l x).length ≤ l.length := by
  unfold backI backF
  split
  · rw [List.length_reverse]
    exact Nat.le_trans (List.length_filter_le _ _) (steps_len l)
  · simp
theorem Steps1_any (M : Mem) (hG : Gl M) (r : Nat) (l : List UInt8) (hr : RopeAt M r l) (b1 b2 : Nat) (x : Int)
    (h1 : M b1 = some (.cells [.int .i64 x].toArray 3 (0, 0))) (h2 : M b2 = some (.cells [ptr r].toArray 27 (0, 0))) :
    SeqC Tryd.prog M 64 #[ptr b1, ptr b2] (stepsI l x) stepV := by
  unfold stepsI
  split
  · obtain ⟨p, rfl⟩ : ∃ p : Nat, x = p := ⟨x.toNat, by omega⟩
    exact Steps1_seq M hG r l hr b1 b2 p (by omega) h1 h2
  · exact Steps1_out M r l hr b1 b2 x (by omega) h1 h2
theorem Back1_any (M : Mem) (hG : Gl M) (r : Nat) (l : List UInt8) (hr : RopeAt M r l) (b1 b2 : Nat) (x : Int)
    (h1 : M b1 = some (.cells [ptr r].toArray 27 (0, 0))) (h2 : M b2 = some (.cells [.int .i64 x].toArray 3 (0, 0))) :
    SeqC Tryd.prog M 65 #[ptr b1, ptr b2] (backI l x) stepV := by
  unfold backI
  split
  · obtain ⟨p, rfl⟩ : ∃ p : Nat, x = p := ⟨x.toNat, by omega⟩
    exact Back1_seq M hG r l hr b1 b2 p (by omega) h1 h2
  · exact Back1_out M r l hr b1 b2 x (by omega) h1 h2
theorem rSteps_any (M : Mem) (A : Option Addr) (c n : Nat) (l : List UInt8) (hb : BS M A c l) (hn : n = l.length) (hl : l.length ≤ 268435456) (x : Int) (w : World) (hi : Imm M w) :
    Calls Tryd.prog 29 #[.slice A n c, .int .i64 x] w fun e w' => ∃ A' c' M', e = .returned (.slice A' (stepsI l x).length c') ∧ Grew M M' w w' ∧ SL M' 4 A' (stepsI l x).length c' ((stepsI l x).flatMap atC) := by
  unfold stepsI
  split
  · obtain ⟨p, rfl⟩ : ∃ p : Nat, x = p := ⟨x.toNat, by omega⟩
    exact rSteps_in M A c n l hb hn hl p (by omega) w hi
  · refine (rSteps_out M A c n x (by omega) w hi).mono fun e w' ⟨he, hb⟩ => ?_
    exact ⟨_, _, M, he, ⟨hb, Mem.le_refl _, Mem.fresh_refl _ _, Imm.below hi hb⟩, SL.none _ _ _⟩
theorem rBack_any (M : Mem) (A : Option Addr) (c n : Nat) (l : List UInt8) (hb : BS M A c l) (hn : n = l.length) (hl : l.length ≤ 268435456) (x : Int) (w : World) (hi : Imm M w) :
    Calls Tryd.prog 30 #[.slice A n c, .int .i64 x] w fun e w' => ∃ A' c' M', e = .returned (.slice A' (backI l x).length c') ∧ Grew M M' w w' ∧ SL M' 4 A' (backI l x).length c' ((backI l x).flatMap atC) := by
  unfold backI
  split
  · obtain ⟨p, rfl⟩ : ∃ p : Nat, x = p := ⟨x.toNat, by omega⟩
    exact rBack_in M A c n l hb hn hl p (by omega) w hi
  · refine (rBack_out M A c n x (by omega) w hi).mono fun e w' ⟨he, hb⟩ => ?_
    exact ⟨_, _, M, he, ⟨hb, Mem.le_refl _, Mem.fresh_refl _ _, Imm.below hi hb⟩, SL.none _ _ _⟩
end Go.Proofs.YtbogoehjoglneaaDoor

/- The walk laws' same; a rest behind a loop that is left in two ways. -/
namespace Go.Proofs.YtbogoehjoglneaaDoor
open Go.RowKit
set_option linter.unusedVariables false
set_option linter.unusedSimpArgs false
set_option maxRecDepth 100000
attribute [local go_sem] byt_drop byt_tail Int.toNat_natCast sOf_size

theorem fnNil (f : Fn) (a b : Array Value) (w : World) : (binOp BinOp.eql 54 (.func f a b) .nilFunc).run Tryd.prog w = .ok (.bool false) w := by kernel_rfl
theorem stp_r (l : List UInt8) : (stp l).r ≤ 1114111 := by
  have h4 := enc_le l
  have hv := val_big l
  unfold stp
  split
  · decide
  · have hc : enc l = 1 ∨ enc l = 2 ∨ enc l = 3 ∨ enc l = 4 := by omega
    simp only
    rcases hc with e | e | e | e
    · have := hv.1 e; omega
    · have := hv.2.1 e; omega
    · have := hv.2.2.1 e; omega
    · have := hv.2.2.2 e; omega
theorem wp_join {P : Program} {c : Code} {id : Nat} {Q : Exit → Act → World → Prop} {a : Act} {w : World} (G : Act → World → Prop) (h : c.wp P (fun e a' w' => (e = .normal ∨ e = .exit id) ∧ G a' w') a w) (k : ∀ a' w', G a' w' → Q .normal a' w') :
    c.wp P (Exit.inBlock id Q) a w :=
  Code.wp_mono (fun e a' w' ⟨he, hg⟩ => by
    rcases he with rfl | rfl
    · exact k a' w' hg
    · show (if id = id then Q .normal a' w' else _)
      rw [if_pos rfl]
      exact k a' w' hg) h

set_option maxHeartbeats 2000000 in
theorem same_any (M : Mem) (xs : List (Nat × Stp)) (A B : Option Addr) (c d m n : Nat) (hm : m = xs.length) (hn : n = xs.length) (ha : SL M 4 A xs.length c (xs.flatMap atC)) (hb : SL M 4 B xs.length d (xs.flatMap atC)) (hx : xs.length ≤ 268435456) (w : World) (hi : Imm M w) :
    Calls Tryd.prog 31 #[.slice A m c, .slice B n d] w fun e w' => e = .returned (.bool true) ∧ Below w.heap.size w w' := by
  subst hm
  subst hn
  (have HS := St.start hi; go_enter Tryd.func31, Tryd.ntmps31)
  go_wp2
  refine wp_loop_st (σ := Nat) (fun i a w1 => i ≤ xs.length ∧ (∃ g2 g3 g4 g5 g6 g7 g8 g9 g10 g11 g14 g15 g16 g17 g18 g19 g20 g21 g22 g23 g24 g25 : Value, a = { tmps := #[.slice A xs.length c, .slice B xs.length d, g2, g3, g4, g5, g6, g7, g8, g9, g10, g11, .int .i64 (xs.length : Nat), .int .i64 (i : Nat), g14, g15, g16, g17, g18, g19, g20, g21, g22, g23, g24, g25], defers := [] }) ∧
    St (fun k => w.heap.size ≤ k) w w1 M []) (fun i => xs.length - i) 0
    ⟨Nat.zero_le _, ⟨_, _, _, _, _, _, _, _, _, _, _, _, _, _, _, _, _, _, _, _, _, _, rfl⟩, HS⟩ ?_
  clear HS hi
  rintro i a w1 ⟨hi, ⟨g2, g3, g4, g5, g6, g7, g8, g9, g10, g11, g14, g15, g16, g17, g18, g19, g20, g21, g22, g23, g24, g25, rfl⟩, HS⟩
  by_cases hlt : i < xs.length
  · obtain ⟨x, hx⟩ : ∃ x, xs[i]? = some x := ⟨_, List.getElem?_eq_getElem hlt⟩
    have HX := Lib.hid hx
    clear hx
    have hlt' : (i : Int) < xs.length := by omega
    go_wp2
    refine wp_region_plan [] [(true, 0), (true, 1), (true, 2), (true, 3), (true, 4), (true, 5), (true, 6), (true, 7), (true, 8)] (fun W_ => St _ _ W_ _ _) (by kernel_rfl) (by kernel_rfl) rfl (by kernel_rfl) (HS).drew ?_
    have HS_ := HS.drew; clear HS; have HS := HS_; clear HS_
    refine' a_dSoft rfl ?_
    (try simp only [Act.put, List.setIfInBounds_toArray, List.set_cons_zero, List.set_cons_succ])
    refine' a_dSoft rfl ?_
    (try simp only [Act.put, List.setIfInBounds_toArray, List.set_cons_zero, List.set_cons_succ])
    (refine' dIdxL rfl ?hw ?hx ?hb ?hix ?hj ?_; (case hw => first | rfl | go_simp); (case hx => first | exact eval_lit rfl | rfl); (case hb => assumption); (case hix => first | exact eval_lit rfl | rfl); (case hj => omega); intro b2_ o2_ hc_)
    have hcA := at_cells hc_ (x := x) (by simpa using HX.out)
    clear hc_
    (refine' dLoadAggM (vs := [Value.int .i64 (x.1 : Nat), .int .i32 (x.2.r : Nat), .int .i64 (x.2.w : Nat), .bool x.2.ok]) rfl ?hw (fun w_ hw_ => hw_) ?hx ?hc ?hl ?_; (case hw => first | rfl | go_simp); (case hx => rfl); (case hc => exact hcA); (case hl => rfl))
    clear hcA
    refine' a_dSoft rfl ?_
    (try simp only [Act.put, List.setIfInBounds_toArray, List.set_cons_zero, List.set_cons_succ])
    refine' a_dSoft rfl ?_
    (try simp only [Act.put, List.setIfInBounds_toArray, List.set_cons_zero, List.set_cons_succ])
    (refine' dIdxL rfl ?hw ?hx ?hb ?hix ?hj ?_; (case hw => first | rfl | go_simp); (case hx => first | exact eval_lit rfl | rfl); (case hb => assumption); (case hix => first | exact eval_lit rfl | rfl); (case hj => omega); intro b3_ o3_ hc_)
    have hcA := at_cells hc_ (x := x) (by simpa using HX.out)
    clear hc_
    (refine' dLoadAggM (vs := [Value.int .i64 (x.1 : Nat), .int .i32 (x.2.r : Nat), .int .i64 (x.2.w : Nat), .bool x.2.ok]) rfl ?hw (fun w_ hw_ => hw_) ?hx ?hc ?hl ?_; (case hw => first | rfl | go_simp); (case hx => rfl); (case hc => exact hcA); (case hl => rfl))
    clear hcA
    refine' a_dSoft rfl ?_
    (try simp only [Act.put, List.setIfInBounds_toArray, List.set_cons_zero, List.set_cons_succ])
    refine lexD_end ?_
    go_wp2
    refine ⟨i + 1, ⟨by omega, ⟨_, _, _, _, _, _, _, _, _, _, _, _, _, _, _, _, _, _, _, _, _, _, rfl⟩, HS⟩, by omega⟩
  · obtain rfl : i = xs.length := by omega
    go_wp2
    go_ret
    exact ⟨rfl, HS.below⟩
end Go.Proofs.YtbogoehjoglneaaDoor

/- The references: Steps of layer 2, Place of layer 11, Before of layer 2. -/
namespace Go.Proofs.YtbogoehjoglneaaDoor
open Go.RowKit
set_option linter.unusedVariables false
set_option linter.unusedSimpArgs false
set_option maxRecDepth 100000
attribute [local go_sem] byt_drop byt_tail Int.toNat_natCast sOf_size

def stC (x : Nat × Stp) : List Value := [.int .i32 x.2.r, .int .i64 x.2.w, .bool x.2.ok]
theorem stC_len (x : Nat × Stp) : (stC x).length = 3 := rfl
theorem stC_one (xs : List (Nat × Stp)) : ∀ u ∈ xs.flatMap stC, u.oneCell' = true := fun u hu => by
  obtain ⟨x, _, hx⟩ := List.mem_flatMap.1 hu
  simp only [stC, List.mem_cons, List.not_mem_nil, or_false] at hx
  rcases hx with rfl | rfl | rfl <;> rfl
theorem st_cells {M : Mem} {xs : List (Nat × Stp)} {j b o : Nat} {x : Nat × Stp} (h : ∀ t u, (xs.flatMap stC)[j * 3 + t]? = some u → cellM M b (o + t) = some u) (e : xs[j]? = some x) : ∀ t u, (stC x)[t]? = some u → cellM M b (o + t) = some u := fun t u hu => by
  have ht : t < 3 := by
    have := (List.getElem?_eq_some_iff.1 hu).1
    simpa [stC] using this
  exact h t u (by rw [flat_get stC 3 stC_len xs j t x e ht]; exact hu)

set_option maxHeartbeats 2000000 in
theorem rSteps2_any (M : Mem) (A : Option Addr) (c n : Nat) (l : List UInt8) (hb : BS M A c l) (hn : n = l.length) (hl : l.length ≤ 268435456) (w : World) (hi : Imm M w) :
    Calls Tryd.prog 63 #[.slice A n c] w fun e w' => ∃ A' c' M', e = .returned (.slice A' (steps l 0).length c') ∧ Grew M M' w w' ∧ SL M' 3 A' (steps l 0).length c' ((steps l 0).flatMap stC) := by
  subst hn
  have HB := Lib.hid hb; clear hb
  have hE0 := fun w hi => Edges_any M A c l.length l HB.out rfl hl w hi
  rw [edges_len] at hE0
  have HE := Lib.hid hE0; clear hE0
  have hsl := steps_len l
  (have HS := St.start hi; go_enter Tryd.func63, Tryd.ntmps63)
  go_wp2_with (first | (go_at_call 59; (with_reducible refine (HE.out _ HS.imm).mono ?_); rintro e w_ ⟨A1, c1, M1, rfl, hg1, hE⟩; have hs_hg1 := HS.moved.size; have HS_ := HS.callM hg1.below hg1.fresh hg1.imm; clear HS; have HS := HS_; clear HS_))
  refine wp_loop_st (σ := Nat) (fun i a w1 => i ≤ (steps l 0).length ∧ ∃ v Lx, (∃ g1 g2 g6 g7 g8 g9 g10 g11 g12 g13 g14 g15 g16 g17 g18 g19 g20 g21 g22 g23 g24 : Value, a = { tmps := #[.slice A l.length c, g1, g2, v, .slice A1 ((steps l 0).length + 1) c1, .int .i64 (i : Nat), g6, g7, g8, g9, g10, g11, g12, g13, g14, g15, g16, g17, g18, g19, g20, g21, g22, g23, g24], defers := [] }) ∧ Row 43 3 v i (((steps l 0).take i).flatMap stC) Lx ∧
    St (fun k => w.heap.size ≤ k) w w1 M1 Lx) (fun i => (steps l 0).length - i) 0
    ⟨Nat.zero_le _, _, [], ⟨_, _, _, _, _, _, _, _, _, _, _, _, _, _, _, _, _, _, _, _, _, rfl⟩, Row.nil _ _, HS⟩ ?_
  clear HS hi
  rintro i a w1 ⟨hi, v, Lx, ⟨g1, g2, g6, g7, g8, g9, g10, g11, g12, g13, g14, g15, g16, g17, g18, g19, g20, g21, g22, g23, g24, rfl⟩, HRow, HS⟩
  by_cases hlt : i < (steps l 0).length
  · obtain ⟨x, hx⟩ : ∃ x, (steps l 0)[i]? = some x := ⟨_, List.getElem?_eq_getElem hlt⟩
    obtain ⟨hp, hin, hst⟩ := step_at hx
    have hO := fun w hi => rOf_any M1 A c l.length l (HB.out.mono hg1.le) rfl hl x.1 hp w hi
    rw [← hst] at hO
    have HO := Lib.hid hO
    have HX := Lib.hid hx
    clear hO hst hin
    have hlt' : (i : Int) + 1 < (steps l 0).length + 1 := by omega
    have ei : (i : Int).toNat = i := by omega
    go_wp2_with (first | (((with_reducible refine' st_idx_sl ?hw ?hx ?hb ?hi ?hj ?_); (case hw => rfl); (case hx => first | exact eval_lit rfl | rfl); (case hb => assumption); (case hi => first | exact eval_lit rfl | rfl); (case hj => first | omega | (simp; omega)); intro b_ o_ hc_); have hcB : cellM M1 b_ o_ = some (.int .i64 (x.1 : Nat)) := by have := hc_ 0 (iv x.1) (by simpa [ei] using edge_at HX.out); rwa [Nat.add_zero] at this) | (clear hc_; ((with_reducible refine' st_load_cellM ?hw HS ?hx ?hc ?_); (case hw => rfl); (case hx => first | exact eval_lit rfl | rfl); (case hc => assumption))) | (go_at_call 60; (with_reducible refine (HO.out _ HS.imm).mono ?_); rintro e w_ ⟨rfl, hb_⟩; have HS_ := HS.call hb_; clear HS hb_; have HS := HS_; clear HS_) | ((with_reducible refine' st_build (cl := [.int .i32 (x.2.r : Nat), .int .i64 (x.2.w : Nat), .bool x.2.ok]) ?hw HS ?hl ?h0 ?hf ?_); (case hw => rfl); (case hl => rfl); (case h0 => rfl); (case hf => first | (go_simp; done) | rfl | (simp [Instr.fill]; done)); intro b_ w_ HS_; clear HS; have HS := HS_; clear HS_) | (((with_reducible refine' st_append (F := fun y => _ :: y) HRow HS ?hF ?hw ?h1 ?h2 ?hs ?hm ?_); (case hF => repeat (first | exact Pre.nil | apply Pre.cons)); (case hw => rfl); (case h1 => first | exact eval_lit rfl | rfl); (case h2 => first | exact eval_lit rfl | rfl); (case hs => (exact Src.own (.head _) rfl rfl)); (case hm => omega); intro v_ Lx_ w_ HR_ HS_; clear HRow; have HRow := HR_; clear HR_; clear HS; have HS := HS_; clear HS_); obtain ⟨Ar_, cr_, rfl⟩ := HRow.shape))
    refine ⟨i + 1, ⟨by omega, _, Lx_, ⟨_, _, _, _, _, _, _, _, _, _, _, _, _, _, _, _, _, _, _, _, _, rfl⟩, ?_, HS.drop⟩, by omega⟩
    rw [List.take_add_one, HX.out]
    simpa [stC, List.flatMap_append] using HRow
  · obtain rfl : i = (steps l 0).length := by omega
    obtain ⟨Ar_, cr_, rfl⟩ := HRow.shape
    rw [List.take_length] at HRow
    go_wp2
    obtain ⟨A', c', M3, e3, hle3, hfr3, HS3, hsl⟩ := HS.keepRow (F := fun y => y) .nil HRow (stC_one _) (fun _ h _ => h)
    cases e3
    go_ret
    first
      | exact ⟨_, _, rfl, M3, ⟨HS3.below, Mem.le_trans hg1.le hle3, Mem.fresh_trans (hg1.fresh.less hs_hg1) hfr3 (Nat.le_refl _), HS3.imm⟩, hsl⟩
      | exact ⟨_, _, M3, rfl, ⟨HS3.below, Mem.le_trans hg1.le hle3, Mem.fresh_trans (hg1.fresh.less hs_hg1) hfr3 (Nat.le_refl _), HS3.imm⟩, hsl⟩

theorem steps_runes (l : List UInt8) : (steps l 0).length = runesN l := by
  unfold runesN
  rw [← sumS_steps (fun _ => 1) l.length l 0 (Nat.le_refl _), sumS_len]
theorem steps_units (l : List UInt8) : sumS (fun s => uOf s.r) (steps l 0) = unitsN l := by
  unfold unitsN
  exact sumS_steps _ l.length l 0 (Nat.le_refl _)
theorem sumS_take (f : Stp → Nat) (xs : List (Nat × Stp)) (i : Nat) (x : Nat × Stp) (h : xs[i]? = some x) : sumS f (xs.take (i + 1)) = sumS f (xs.take i) + f x.2 := by
  rw [List.take_add_one, h, sumS_append]
  simp [sumS]
theorem sumS_le (f : Stp → Nat) (k : Nat) (h : ∀ s, f s ≤ k) : ∀ xs : List (Nat × Stp), sumS f xs ≤ k * xs.length
  | [] => by simp [sumS]
  | x :: xs => by
    have := sumS_le f k h xs
    have := h x.2
    simp only [sumS, List.length_cons, Nat.mul_add, Nat.mul_one]
    omega

set_option maxHeartbeats 2000000 in
theorem rPlace_any (M : Mem) (A : Option Addr) (c n : Nat) (l : List UInt8) (hb : BS M A c l) (hn : n = l.length) (hl : l.length ≤ 268435456) (p : Nat) (hp : p ≤ l.length) (u : Int) (w : World) (hi : Imm M w) :
    Calls Tryd.prog 24 #[.slice A n c, .int .i64 p, .int .i64 u] w fun e w' => e = .returned (if 1 ≤ u ∧ u ≤ 3 then .tuple #[.int .i64 (zN u (l.take p)), .int .i64 0] else .tuple #[.int .i64 0, .int .i64 3]) ∧ Below w.heap.size w w' := by
  subst hn
  have hlt : (l.take p).length = p := by rw [List.length_take]; omega
  have hS := fun (A' : Option Addr) (hA : BS M A' c ((l.take p).drop 0)) w hi => rSteps2_any M A' c p (l.take p) (by simpa using hA) hlt.symm (by omega) w hi
  have HST := Lib.hid hS; clear hS
  have hrun := steps_runes (l.take p)
  have hun := steps_units (l.take p)
  have hsl := steps_len (l.take p)
  have hst := fun i x (h : (steps (l.take p) 0)[i]? = some x) => (step_at h).2.2
  have hz1 : zN 1 (l.take p) = p := hlt
  have hz2 : zN 2 (l.take p) = (steps (l.take p) 0).length := hrun.symm
  have hz3 : zN 3 (l.take p) = sumS (fun s => uOf s.r) (steps (l.take p) 0) := hun.symm
  have HZ1 := Lib.hid hz1; have HZ2 := Lib.hid hz2; have HZ3 := Lib.hid hz3
  have hr1 := fun i (x : Nat × Stp) (h : (steps (l.take p) 0)[i]? = some x) => show x.2.r ≤ 1114111 by rw [hst i x h]; exact stp_r _
  have HR1 := Lib.hid hr1
  clear hz1 hz2 hz3 hrun hun hst hr1
  rw [hlt] at hsl
  generalize hss : steps (l.take p) 0 = ss at *
  clear hss
  by_cases h1 : u = 1
  · subst h1
    rw [if_pos (by decide), HZ1.out]
    (have HS := St.start hi; go_enter Tryd.func24, Tryd.ntmps24)
    go_wp2_with (first | ((with_reducible refine' st_slice_bs (S := 28) (e := 5) (i := 0) (j := p) ?hw Tryd.underlying28 (by kernel_rfl) ?hx ?hb ?hn ?hij ?_); (case hw => first | rfl | (go_simp; done)); (case hx => first | exact eval_lit rfl | rfl); (case hb => assumption); (case hn => (first | rfl | omega | (simp; done) | (simp; omega))); (case hij => first | exact ⟨rfl, rfl, by omega, by omega⟩ | fail); intro A_ hA_) | (go_at_call 63; (with_reducible refine (HST.out _ hA_ _ HS.imm).mono ?_); rintro e w_ ⟨A1, c1, M1, rfl, hg1, hE⟩; have hs_hg1 := HS.moved.size; have HS_ := HS.callM hg1.below hg1.fresh hg1.imm; clear HS; have HS := HS_; clear HS_))
    go_ret2
    exact ⟨rfl, HS.below⟩
  by_cases h2 : u = 2
  · subst h2
    rw [if_pos (by decide), HZ2.out]
    (have HS := St.start hi; go_enter Tryd.func24, Tryd.ntmps24)
    go_wp2_with (first | ((with_reducible refine' st_slice_bs (S := 28) (e := 5) (i := 0) (j := p) ?hw Tryd.underlying28 (by kernel_rfl) ?hx ?hb ?hn ?hij ?_); (case hw => first | rfl | (go_simp; done)); (case hx => first | exact eval_lit rfl | rfl); (case hb => assumption); (case hn => (first | rfl | omega | (simp; done) | (simp; omega))); (case hij => first | exact ⟨rfl, rfl, by omega, by omega⟩ | fail); intro A_ hA_) | (go_at_call 63; (with_reducible refine (HST.out _ hA_ _ HS.imm).mono ?_); rintro e w_ ⟨A1, c1, M1, rfl, hg1, hE⟩; have hs_hg1 := HS.moved.size; have HS_ := HS.callM hg1.below hg1.fresh hg1.imm; clear HS; have HS := HS_; clear HS_))
    go_ret2
    exact ⟨rfl, HS.below⟩
  by_cases h3 : u = 3
  · subst h3
    rw [if_pos (by decide), HZ3.out]
    have hu2 : ∀ s : Stp, uOf s.r ≤ 2 := fun s => by unfold uOf; split <;> omega
    have hub := sumS_le (fun s => uOf s.r) 2 hu2
    (have HS := St.start hi; go_enter Tryd.func24, Tryd.ntmps24)
    go_wp2_with (first | ((with_reducible refine' st_slice_bs (S := 28) (e := 5) (i := 0) (j := p) ?hw Tryd.underlying28 (by kernel_rfl) ?hx ?hb ?hn ?hij ?_); (case hw => first | rfl | (go_simp; done)); (case hx => first | exact eval_lit rfl | rfl); (case hb => assumption); (case hn => (first | rfl | omega | (simp; done) | (simp; omega))); (case hij => first | exact ⟨rfl, rfl, by omega, by omega⟩ | fail); intro A_ hA_) | (go_at_call 63; (with_reducible refine (HST.out _ hA_ _ HS.imm).mono ?_); rintro e w_ ⟨A1, c1, M1, rfl, hg1, hE⟩; have hs_hg1 := HS.moved.size; have HS_ := HS.callM hg1.below hg1.fresh hg1.imm; clear HS; have HS := HS_; clear HS_))
    refine wp_loop_st (σ := Nat) (fun i a w1 => i ≤ ss.length ∧ (∃ g : Nat → Value, a = { tmps := #[g 0, g 1, g 2, g 3, g 4, g 5, g 6, g 7, .slice A1 ss.length c1, .int .i64 (sumS (fun s => uOf s.r) (ss.take i) : Nat), .int .i64 (i : Nat), g 11, g 12, g 13, g 14, g 15, g 16, g 17, g 18, g 19, g 20, g 21, g 22, g 23, g 24, g 25, g 26, g 27, g 28, g 29, g 30, g 31, g 32, g 33, g 34, g 35, g 36, g 37, g 38, g 39], defers := [] }) ∧
      St (fun k => w.heap.size ≤ k) w w1 M1 []) (fun i => ss.length - i) 0
      ⟨Nat.zero_le _, actg rfl, HS⟩ ?_
    clear HS hi
    rintro i a w1 ⟨hi, ⟨g, rfl⟩, HS⟩
    by_cases hlt2 : i < ss.length
    · obtain ⟨x, hx⟩ : ∃ x, ss[i]? = some x := ⟨_, List.getElem?_eq_getElem hlt2⟩
      have HX := Lib.hid hx
      have HT := Lib.hid (sumS_take (fun s => uOf s.r) ss i x hx)
      have hxr := HR1.out i x hx
      have hb1 := hub (ss.take i)
      have hb2 := hu2 x.2
      rw [List.length_take] at hb1
      clear hx hub hu2
      have hU := fun w hi => UnitsOf_any M1 x.2 hxr w hi
      have HU := Lib.hid hU; clear hU
      have hlt' : (i : Int) < ss.length := by omega
      have ei : (i : Int).toNat = i := by omega
      generalize hz : sumS (fun s => uOf s.r) (ss.take i) = z at *
      have hz3 : (z : Int) ≤ 536870912 := by omega
      go_wp2_with (first | (((with_reducible refine' st_idx_sl ?hw ?hx ?hb ?hi ?hj ?_); (case hw => rfl); (case hx => first | exact eval_lit rfl | rfl); (case hb => assumption); (case hi => first | exact eval_lit rfl | rfl); (case hj => first | omega | (simp; omega)); intro b_ o_ hc_); have hcA := st_cells hc_ (x := x) (by simpa using HX.out); clear hc_) | ((with_reducible refine' st_load_aggM (vs := [.int .i32 (x.2.r : Nat), .int .i64 (x.2.w : Nat), .bool x.2.ok]) ?hw HS ?hx ?hc ?hl ?_); (case hw => first | rfl | (go_simp; done)); (case hx => first | exact eval_lit rfl | rfl); (case hc => exact hcA); (case hl => rfl)) | (go_at_call 27; (with_reducible refine (HU.out _ HS.imm).mono ?_); rintro e w_ ⟨Au, cu, rfl, hb_⟩; (have HS_ := HS.call hb_; clear HS hb_; have HS := HS_; clear HS_)))
      rw [show (z : Int) + uOf x.2.r = ((z + uOf x.2.r : Nat) : Int) from by omega, ← HT.out]
      refine ⟨i + 1, ⟨by omega, actg rfl, HS⟩, by omega⟩
    · obtain rfl : i = ss.length := by omega
      rw [List.take_length] at *
      go_wp2
      go_ret2
      exact ⟨rfl, HS.below⟩
  rw [if_neg (by omega)]
  (have HS := St.start hi; go_enter Tryd.func24, Tryd.ntmps24)
  go_wp2_with (first | ((with_reducible refine' st_slice_bs (S := 28) (e := 5) (i := 0) (j := p) ?hw Tryd.underlying28 (by kernel_rfl) ?hx ?hb ?hn ?hij ?_); (case hw => first | rfl | (go_simp; done)); (case hx => first | exact eval_lit rfl | rfl); (case hb => assumption); (case hn => (first | rfl | omega | (simp; done) | (simp; omega))); (case hij => first | exact ⟨rfl, rfl, by omega, by omega⟩ | fail); intro A_ hA_) | (go_at_call 63; (with_reducible refine (HST.out _ hA_ _ HS.imm).mono ?_); rintro e w_ ⟨A1, c1, M1, rfl, hg1, hE⟩; have hs_hg1 := HS.moved.size; have HS_ := HS.callM hg1.below hg1.fresh hg1.imm; clear HS; have HS := HS_; clear HS_))
  go_ret2
  exact ⟨rfl, HS.below⟩

set_option maxHeartbeats 1000000 in
theorem rBefore_in (M : Mem) (A : Option Addr) (c n : Nat) (l : List UInt8) (hb : BS M A c l) (hn : n = l.length) (hl : l.length ≤ 268435456) (p : Nat) (hp0 : 0 < p) (hp : p ≤ l.length) (hin : inside l p = 0) (w : World) (hi : Imm M w) :
    Calls Tryd.prog 66 #[.slice A n c, .int .i64 p] w fun e w' => e = .returned (.tuple #[stV (stp (l.drop (floorN l (p - 1)))), .int .i64 0]) ∧ Below w.heap.size w w' := by
  subst hn
  have HB := Lib.hid hb; clear hb
  have hp' : ¬ (l.length : Int) < p := by omega
  have hp2 : ¬ (p : Int) < 1 := by omega
  have hI0 := fun w hi => rInside_any M A c l.length l HB.out rfl p (by omega) w hi
  rw [decide_eq_false (fun h => h hin)] at hI0
  have HI0 := Lib.hid hI0; clear hI0 hin
  have hfl := floor_le l (p - 1)
  have hO := Lib.hid (fun w hi => rOf_any M A c l.length l HB.out rfl hl (floorN l (p - 1)) (by omega) w hi)
  (have HS := St.start hi; go_enter Tryd.func66, Tryd.ntmps66)
  go_wp2_with (first | ((with_reducible refine' q_alloc ?_); refine' a_alloc HS ?_; clear HS; intro b_ w_ HS) | ((with_reducible refine' q_box ?_); refine' a_box2 HS ?_; clear HS; intro b_ w_ HS) | ((with_reducible refine' q_load ?_); refine' a_load HS ?_) | ((with_reducible refine' q_store ?_); refine' a_store2 HS ?_; clear HS; intro w_ HS) | (go_at_call 58; (with_reducible refine (HI0.out _ HS.imm).mono ?_); rintro e w_ ⟨rfl, hb_⟩; have HS_ := HS.call hb_; clear HS hb_; have HS := HS_; clear HS_))
  rw [show (p : Int) - 1 = ((p - 1 : Nat) : Int) from by omega]
  refine wp_loop_st (σ := Nat) (fun q a w1 => (∃ g : Nat → Value, a = { tmps := #[.slice A l.length c, g 1, g 2, g 3, ptr b_, g 5, .int .i64 q, g 7, g 8, g 9, g 10, g 11, g 12, g 13, g 14, g 15, g 16, g 17, g 18, g 19, g 20, g 21, g 22, g 23, g 24, g 25, g 26, g 27, g 28, g 29], defers := [] }) ∧ floorN l (p - 1) ≤ q ∧ q ≤ p - 1 ∧
    St (fun k => w.heap.size ≤ k) w w1 M [(b_, .cells [.int .i32 0, .int .i64 0, .bool false].toArray 43 (0, 0))]) (fun q => q - floorN l (p - 1)) (p - 1)
    ⟨actg rfl, floor_le _ _, Nat.le_refl _, HS⟩ ?_
  clear HS hi HI0
  rintro q a w1 ⟨⟨g, rfl⟩, h1, h2, HS⟩
  have hd := floor_down h1 h2
  have hI := fun w hi => rInside_any M A c l.length l HB.out rfl q (by omega) w hi
  by_cases hin : floorN l (p - 1) < q
  · have HI := Lib.hid hI; clear hI
    rw [decide_eq_true (hd.2 hin)] at HI
    clear hd
    go_wp2_with (first | (go_at_call 58; (with_reducible refine (HI.out _ HS.imm).mono ?_); rintro e w_ ⟨rfl, hb_⟩; have HS_ := HS.call hb_; clear HS hb_; have HS := HS_; clear HS_))
    rw [show (q : Int) - 1 = ((q - 1 : Nat) : Int) from by omega]
    refine ⟨q - 1, ⟨actg rfl, by omega, by omega, HS⟩, by omega⟩
  · have HI := Lib.hid hI; clear hI
    rw [decide_eq_false (fun h => hin (hd.1 h))] at HI
    clear hd
    obtain rfl : q = floorN l (p - 1) := by omega
    go_wp2_with (first | ((with_reducible refine' q_alloc ?_); refine' a_alloc HS ?_; clear HS; intro b_ w_ HS) | ((with_reducible refine' q_box ?_); refine' a_box2 HS ?_; clear HS; intro b_ w_ HS) | ((with_reducible refine' q_load ?_); refine' a_load HS ?_) | ((with_reducible refine' q_store ?_); refine' a_store2 HS ?_; clear HS; intro w_ HS) | (go_at_call 58; (with_reducible refine (HI.out _ HS.imm).mono ?_); rintro e w_ ⟨rfl, hb_⟩; have HS_ := HS.call hb_; clear HS hb_; have HS := HS_; clear HS_) | (go_at_call 60; (with_reducible refine (hO.out _ HS.imm).mono ?_); rintro e w_ ⟨rfl, hb_⟩; have HS_ := HS.call hb_; clear HS hb_; have HS := HS_; clear HS_))
    (refine post_cell_tmp (p := 4) (T := 43) rfl HS rfl rfl (by (first | (apply Blk.loc; (repeat (first | (with_reducible exact List.mem_cons_self) | apply List.mem_cons_of_mem)); done) | (apply Blk.imm; with_reducible assumption))) (by exact Eq.refl true) ?_)
    exact ⟨rfl, HS.below⟩
end Go.Proofs.YtbogoehjoglneaaDoor
