/- A region that draws its order and where a new block may come at several places: the plan is a tree; the leaves are joined. -/
import Derived.Test.YtbogoehjoglneaaDoorM1
import Derived.Test.YtbogoehjoglneaaDoorM3
set_option linter.unusedVariables false
set_option linter.unusedSimpArgs false
set_option linter.unnecessarySimpa false
set_option linter.unusedSectionVars false
namespace Go.Proofs.YtbogoehjoglneaaDoor
open Go.RowKit
set_option linter.unusedVariables false
set_option linter.unusedSimpArgs false

section
variable {P : Program} {ops : Array Oper} {Q : Exit → Act → World → Prop} {S : World → Prop} {brk : Nat → Bool}

inductive Tr where
  | done
  | soft (i : Nat) (t : Tr)
  | one (i : Nat) (t : Tr)
  | two (i : Nat) (t : Tr) (j : Nat) (u : Tr)
  | three (i : Nat) (t : Tr) (j : Nat) (u : Tr) (k : Nat) (v : Tr)

def Tr.allHard : Tr → Bool
  | done => true
  | soft _ _ => false
  | one _ t => t.allHard
  | two _ t _ u => t.allHard && u.allHard
  | three _ t _ u _ v => t.allHard && u.allHard && v.allHard
def Tr.deep : Tr → Nat → Bool
  | done, n => n == 0
  | soft _ t, n => match n with | 0 => false | n + 1 => t.deep n
  | one _ t, n => match n with | 0 => false | n + 1 => t.deep n
  | two _ t _ u, n => match n with | 0 => false | n + 1 => t.deep n && u.deep n
  | three _ t _ u _ v, n => match n with | 0 => false | n + 1 => t.deep n && u.deep n && v.deep n

def treeOk (brk : Nat → Bool) (ops : Array Oper) : Tr → Array Bool → Bool
  | .done, listed => (Region.ready .any ops listed).isEmpty
  | .soft i t, listed => freeB brk ops listed i && (Region.ready .any ops listed).contains i && treeOk brk ops t (listed.setIfInBounds i true)
  | .one i t, listed => (Region.ready .any ops listed == [i]) && (!brk i || t.allHard) && treeOk brk ops t (listed.setIfInBounds i true)
  | .two i t j u, listed => (Region.ready .any ops listed == [i, j]) && (!brk i || t.allHard) && (!brk j || u.allHard) && treeOk brk ops t (listed.setIfInBounds i true) && treeOk brk ops u (listed.setIfInBounds j true)
  | .three i t j u k v, listed => (Region.ready .any ops listed == [i, j, k]) && (!brk i || t.allHard) && (!brk j || u.allHard) && (!brk k || v.allHard) && treeOk brk ops t (listed.setIfInBounds i true) &&
      treeOk brk ops u (listed.setIfInBounds j true) && treeOk brk ops v (listed.setIfInBounds k true)

def hardT (P : Program) (ops : Array Oper) (Q : Exit → Act → World → Prop) (S : World → Prop) (brk : Nat → Bool) (i : Nat) (K : Act → World → Prop) (a : Act) (w : World) : Prop :=
  match ops[i]? with
  | some o => wpList P ops (exitD Q (fun a' w' => (brk i = false → S w') ∧ K a' w')) [o] a w
  | none => False

def lexT (P : Program) (ops : Array Oper) (Q : Exit → Act → World → Prop) (S : World → Prop) (brk : Nat → Bool) : Tr → Act → World → Prop
  | .done, a, w => Q .normal a w
  | .soft i t, a, w => match ops[i]? with | some o => ∃ v, YieldsIf P ops S o v a ∧ lexT P ops Q S brk t (a.put o.dst v) w | none => False
  | .one i t, a, w => hardT P ops Q S brk i (lexT P ops Q S brk t) a w
  | .two i t j u, a, w => hardT P ops Q S brk i (lexT P ops Q S brk t) a w ∧ hardT P ops Q S brk j (lexT P ops Q S brk u) a w
  | .three i t j u k v, a, w => hardT P ops Q S brk i (lexT P ops Q S brk t) a w ∧ hardT P ops Q S brk j (lexT P ops Q S brk u) a w ∧ hardT P ops Q S brk k (lexT P ops Q S brk v) a w

theorem wpOp_of_hardT {i : Nat} {K K' : Act → World → Prop} {a : Act} {w : World} (h : hardT P ops Q S brk i K a w) (hK : ∀ a w, (brk i = false → S w) → K a w → K' a w) :
    wpOp P ops (NoPan Q) i (fun a' w' => (brk i = false → S w') ∧ K' a' w') a w := by
  unfold hardT at h
  cases hi : ops[i]? with
  | none => simp [hi] at h
  | some o =>
    simp only [hi] at h
    have hK2 : wpOp P ops (NoPan Q) i (fun a' w' => (brk i = false → S w') ∧ K a' w') a w := by
      unfold wpOp
      simp only [hi]
      unfold wpList at h
      split
      · rename_i hw; rw [if_pos hw] at h; exact h
      · rename_i hw; rw [if_neg hw] at h; exact h
    exact wpOp_mono (fun a' w' hh => ⟨hh.1, hK a' w' hh.1 hh.2⟩) hK2

theorem wpAnyB_of_tree (hsel : Region.noSelect ops = true) : ∀ (t : Tr) (n : Nat) (listed : Array Bool) (a : Act) (w : World),
    t.deep n = true → treeOk brk ops t listed = true → (t.allHard = false → S w) → lexT P ops Q S brk t a w → wpAnyB P ops (NoPan Q) S brk n listed a w
  | .done, n, listed, a, w, hn, hp, _, h => by
    have : n = 0 := by simpa [Tr.deep] using hn
    subst this
    exact ⟨by simpa [treeOk] using hp, h⟩
  | .soft i t, 0, listed, a, w, hn, hp, hS, h => by simp [Tr.deep] at hn
  | .soft i t, n + 1, listed, a, w, hn, hp, hS, h => by
    simp only [treeOk, Bool.and_eq_true] at hp
    obtain ⟨⟨h1, h2⟩, h3⟩ := hp
    unfold lexT at h
    cases hi : ops[i]? with
    | none => simp [hi] at h
    | some o =>
      simp only [hi] at h
      obtain ⟨v, hy, h⟩ := h
      have hSw := hS rfl
      exact wpAnyB_first hi (Region.noSelect_spec hsel) (fun _ _ _ h => h) n listed a w (freeB_spec hi h1) (by simpa using h2) hy hSw
        (wpAnyB_of_tree hsel t n _ _ w hn h3 (fun _ => hSw) h)
  | .one i t, 0, listed, a, w, hn, hp, hS, h => by simp [Tr.deep] at hn
  | .one i t, n + 1, listed, a, w, hn, hp, hS, h => by
    simp only [treeOk, Bool.and_eq_true, beq_iff_eq] at hp
    obtain ⟨⟨h1, h2⟩, h3⟩ := hp
    refine ⟨fun h0 => (by rw [h1] at h0; cases h0), fun j hj => ?_⟩
    rw [h1, List.mem_singleton] at hj
    subst hj
    exact wpOp_of_hardT h fun a' w' hs hk => wpAnyB_of_tree hsel t n _ a' w' hn h3 (fun ht => hs (by rw [ht] at h2; simpa using h2)) hk
  | .two i t j u, 0, listed, a, w, hn, hp, hS, h => by simp [Tr.deep] at hn
  | .two i t j u, n + 1, listed, a, w, hn, hp, hS, h => by
    simp only [treeOk, Bool.and_eq_true, beq_iff_eq] at hp
    obtain ⟨⟨⟨⟨h1, h2⟩, h2'⟩, h3⟩, h3'⟩ := hp
    simp only [Tr.deep, Bool.and_eq_true] at hn
    refine ⟨fun h0 => (by rw [h1] at h0; cases h0), fun x hx => ?_⟩
    rw [h1] at hx
    simp only [List.mem_cons, List.not_mem_nil, or_false] at hx
    rcases hx with rfl | rfl
    · exact wpOp_of_hardT h.1 fun a' w' hs hk => wpAnyB_of_tree hsel t n _ a' w' hn.1 h3 (fun ht => hs (by rw [ht] at h2; simpa using h2)) hk
    · exact wpOp_of_hardT h.2 fun a' w' hs hk => wpAnyB_of_tree hsel u n _ a' w' hn.2 h3' (fun ht => hs (by rw [ht] at h2'; simpa using h2')) hk
  | .three i t j u k v, 0, listed, a, w, hn, hp, hS, h => by simp [Tr.deep] at hn
  | .three i t j u k v, n + 1, listed, a, w, hn, hp, hS, h => by
    simp only [treeOk, Bool.and_eq_true, beq_iff_eq] at hp
    obtain ⟨⟨⟨⟨⟨⟨h1, h2⟩, h2'⟩, h2''⟩, h3⟩, h3'⟩, h3''⟩ := hp
    simp only [Tr.deep, Bool.and_eq_true] at hn
    refine ⟨fun h0 => (by rw [h1] at h0; cases h0), fun x hx => ?_⟩
    rw [h1] at hx
    simp only [List.mem_cons, List.not_mem_nil, or_false] at hx
    rcases hx with rfl | rfl | rfl
    · exact wpOp_of_hardT h.1 fun a' w' hs hk => wpAnyB_of_tree hsel t n _ a' w' hn.1.1 h3 (fun ht => hs (by rw [ht] at h2; simpa using h2)) hk
    · exact wpOp_of_hardT h.2.1 fun a' w' hs hk => wpAnyB_of_tree hsel u n _ a' w' hn.1.2 h3' (fun ht => hs (by rw [ht] at h2'; simpa using h2')) hk
    · exact wpOp_of_hardT h.2.2 fun a' w' hs hk => wpAnyB_of_tree hsel v n _ a' w' hn.2 h3'' (fun ht => hs (by rw [ht] at h2''; simpa using h2'')) hk

def onlyN (Φ : Act → World → Prop) : Exit → Act → World → Prop
  | .normal, a, w => Φ a w
  | _, _, _ => False

/- The region by a tree; what is behind it once for all leaves. -/
theorem wp_region_tree {id : Nat} {a : Act} {w : World} {l : List Oper} (Φ : Act → World → Prop) (brks : List Nat) (t : Tr) (S : World → Prop) (hm : P.follows .mixedOrders = true) (hsel : Region.noSelect l.toArray = true) (hn : t.deep l.length = true)
    (hp : treeOk (isIn brks) l.toArray t (Array.replicate l.length false) = true) (hS : S w.drew) (h : lexT P l.toArray (onlyN Φ) S (isIn brks) t a w.drew) (k : ∀ a w, Φ a w → Q .normal a w) : (Code.region id l.toArray true).wp P Q a w := by
  have := wpAny_of_B _ _ _ _ (wpAnyB_of_tree (P := P) (Q := onlyN Φ) (S := S) hsel t _ _ a w.drew hn hp (fun _ => hS) h)
  refine Code.wp_mono (fun e a w h => ?_) (wp_region_any (Q := NoPan (onlyN Φ)) hm (by simpa using this))
  cases e <;> first | exact k _ _ h | exact h.elim

theorem lexT_soft {r : Tr} {i : Nat} {a : Act} {w : World} (h : lexD P ops (fun e a w => e = .normal ∧ lexT P ops Q S brk r a w) S brk [(true, i)] a w) : lexT P ops Q S brk (.soft i r) a w := by
  unfold lexD at h
  unfold lexT
  cases hi : ops[i]? with
  | none => simp [hi] at h
  | some o =>
    simp only [hi] at h ⊢
    obtain ⟨v, hy, _, h⟩ := h
    exact ⟨v, hy, h⟩
theorem lexT_hard {K : Act → World → Prop} {i : Nat} {o : Oper} {a : Act} {w : World} (hi : ops[i]? = some o) (h : wpList P ops (exitD Q (fun a' w' => (brk i = false → S w') ∧ K a' w')) [o] a w) : hardT P ops Q S brk i K a w := by
  unfold hardT; simp only [hi]; exact h
theorem lexT_hardL {l : List Oper} {K : Act → World → Prop} {i : Nat} {o : Oper} {a : Act} {w : World} (hi : nth l i = some o) (h : wpList P l.toArray (exitD Q (fun a' w' => (brk i = false → S w') ∧ K a' w')) [o] a w) : hardT P l.toArray Q S brk i K a w := lexT_hard (nth_arr hi) h
theorem wp_region_tree1 {id : Nat} {a : Act} {w : World} {l : List Oper} {A : Nat → Act} {L' : Nat → List (Nat × Obj)} {B : Nat → Prop} {w0 : World} {M : Mem} (brks : List Nat) (t : Tr) (S : World → Prop) (hm : P.follows .mixedOrders = true) (hsel : Region.noSelect l.toArray = true) (hn : t.deep l.length = true)
    (hp : treeOk (isIn brks) l.toArray t (Array.replicate l.length false) = true) (hS : S w.drew) (h : lexT P l.toArray (onlyN (fun a w => ∃ b, a = A b ∧ St B w0 w M (L' b))) S (isIn brks) t a w.drew)
    (k : ∀ b w, St B w0 w M (L' b) → Q .normal (A b) w) : (Code.region id l.toArray true).wp P Q a w :=
  wp_region_tree _ brks t S hm hsel hn hp hS h fun a w hh => by obtain ⟨b, rfl, h⟩ := hh; exact k b w h
theorem wp_region_tree2 {id : Nat} {a : Act} {w : World} {l : List Oper} {A : Nat → Nat → Act} {L' : Nat → Nat → List (Nat × Obj)} {B : Nat → Prop} {w0 : World} {M : Mem} (brks : List Nat) (t : Tr) (S : World → Prop) (hm : P.follows .mixedOrders = true) (hsel : Region.noSelect l.toArray = true) (hn : t.deep l.length = true)
    (hp : treeOk (isIn brks) l.toArray t (Array.replicate l.length false) = true) (hS : S w.drew) (h : lexT P l.toArray (onlyN (fun a w => ∃ b c, a = A b c ∧ St B w0 w M (L' b c))) S (isIn brks) t a w.drew)
    (k : ∀ b c w, St B w0 w M (L' b c) → Q .normal (A b c) w) : (Code.region id l.toArray true).wp P Q a w :=
  wp_region_tree _ brks t S hm hsel hn hp hS h fun a w hh => by obtain ⟨b, c, rfl, h⟩ := hh; exact k b c w h
theorem wp_region_tree0 {id : Nat} {a : Act} {w : World} {l : List Oper} {A : Act} {L' : List (Nat × Obj)} {B : Nat → Prop} {w0 : World} {M : Mem} (brks : List Nat) (t : Tr) (S : World → Prop) (hm : P.follows .mixedOrders = true) (hsel : Region.noSelect l.toArray = true) (hn : t.deep l.length = true)
    (hp : treeOk (isIn brks) l.toArray t (Array.replicate l.length false) = true) (hS : S w.drew) (h : lexT P l.toArray (onlyN (fun a w => a = A ∧ St B w0 w M L')) S (isIn brks) t a w.drew)
    (k : ∀ w, St B w0 w M L' → Q .normal A w) : (Code.region id l.toArray true).wp P Q a w :=
  wp_region_tree _ brks t S hm hsel hn hp hS h fun a w hh => by rw [hh.1]; exact k w hh.2
theorem lexT_end {a : Act} {w : World} {Φ : Act → World → Prop} (k : Φ a w) : lexT P ops (onlyN Φ) S brk .done a w := k
theorem lexT_next {K : Act → World → Prop} {i : Nat} {a : Act} {w : World} (hS : brk i = false → S w) (k : K a w) : wpList P ops (exitD Q (fun a' w' => (brk i = false → S w') ∧ K a' w')) [] a w := ⟨hS, k⟩
end
end Go.Proofs.YtbogoehjoglneaaDoor

/- weld.both, weld.Join. -/
namespace Go.Proofs.YtbogoehjoglneaaDoor
open Go.RowKit
set_option linter.unusedVariables false
set_option linter.unusedSimpArgs false
set_option maxRecDepth 100000
attribute [local go_sem] byt_drop byt_tail Int.toNat_natCast sOf_size sOf_append

theorem sum_to (z1 z2 z3 z4 b r u e b' r' u' e' t : Int) (h1 : z1 = b + t * b') (h2 : z2 = r + t * r') (h3 : z3 = u + t * u') (h4 : z4 = e + t * e') (hb : -1000000000 ≤ b ∧ b ≤ 1000000000) (hr : -1000000000 ≤ r ∧ r ≤ 1000000000) (hu : -1000000000 ≤ u ∧ u ≤ 1000000000) (he : -1000000000 ≤ e ∧ e ≤ 1000000000)
    (hb' : -1000000000 ≤ b' ∧ b' ≤ 1000000000) (hr' : -1000000000 ≤ r' ∧ r' ≤ 1000000000) (hu' : -1000000000 ≤ u' ∧ u' ≤ 1000000000) (he' : -1000000000 ≤ e' ∧ e' ≤ 1000000000) (ht : t = 1 ∨ t = -1) (M : Mem) (w : World) (hi : Imm M w) :
    Calls Tryd.prog 136 #[.agg #[.int .i64 b, .int .i64 r, .int .i64 u, .int .i64 e], .agg #[.int .i64 b', .int .i64 r', .int .i64 u', .int .i64 e'], .int .i64 t] w
      fun x w' => x = .returned (.agg #[.int .i64 z1, .int .i64 z2, .int .i64 z3, .int .i64 z4]) ∧ Below w.heap.size w w' := by
  subst h1 h2 h3 h4
  exact sum_any b r u e b' r' u' e' t hb hr hu he hb' hr' hu' he' ht M w hi

abbrev wv (B R U E : Nat) (h t : List UInt8) : Value := .agg #[.int .i64 B, .int .i64 R, .int .i64 U, .int .i64 E, .string (sOf h), .string (sOf t)]

set_option maxHeartbeats 2000000 in
theorem both_gen (M : Mem) (ha ta hb tb hw tw : List UInt8) (B1 R1 U1 E1 B2 R2 U2 E2 Rs Us Es B R U E : Nat)
    (hVa : ∀ w, Imm M w → Calls Tryd.prog 134 #[wv B1 R1 U1 E1 ha ta] w fun e w' => e = .returned (.bool true) ∧ Below w.heap.size w w')
    (hVb : ∀ w, Imm M w → Calls Tryd.prog 134 #[wv B2 R2 U2 E2 hb tb] w fun e w' => e = .returned (.bool true) ∧ Below w.heap.size w w')
    (hVw : ∀ w, Imm M w → Calls Tryd.prog 134 #[wv B R U E hw tw] w fun e w' => e = .returned (.bool true) ∧ Below w.heap.size w w')
    (hSe : ∀ w, Imm M w → Calls Tryd.prog 135 #[wv B1 R1 U1 E1 ha ta, wv B2 R2 U2 E2 hb tb] w fun e w' => e = .returned (.agg #[.int .i64 0, .int .i64 Rs, .int .i64 Us, .int .i64 Es]) ∧ Below w.heap.size w w')
    (hB : B = B1 + B2) (hBm : (B : Int) ≤ 268435456) (hR : R + Rs = R1 + R2) (hU : U + Us = U1 + U2) (hE : E + Es = E1 + E2) (hR1 : R1 ≤ B1) (hU1 : U1 ≤ B1) (hE1 : E1 ≤ B1) (hR2 : R2 ≤ B2) (hU2 : U2 ≤ B2) (hE2 : E2 ≤ B2)
    (la : ha.length ≤ 3) (lb : hb.length ≤ 3) (lta : ta.length ≤ 3) (ltb : tb.length ≤ 3)
    (hh : hw = if B1 < 3 then (ha ++ hb).take 3 else ha) (ht : tw = if B2 < 3 then (ta ++ tb).drop ((ta ++ tb).length - 3) else tb) (w : World) (hi : Imm M w) :
    Calls Tryd.prog 131 #[wv B1 R1 U1 E1 ha ta, wv B2 R2 U2 E2 hb tb] w
      fun e w' => e = .returned (.tuple #[wv B R U E hw tw, .agg #[.int .i64 0, .int .i64 Rs, .int .i64 Us, .int .i64 Es], .int .i64 0]) ∧ Below w.heap.size w w' := by
  have b1 : (0 : Int) ≤ B1 := by omega
  have b2 : (0 : Int) ≤ B2 := by omega
  have b3 : ¬ ((268435456 : Int) < B1 + B2) := by omega
  have HVa := Lib.hid hVa; clear hVa
  have HVb := Lib.hid hVb; clear hVb
  have HVw := Lib.hid hVw; clear hVw
  have HSe := Lib.hid hSe; clear hSe
  have c1 : ¬ (9223372036854775807 < ha.length + hb.length) := by omega
  have c2 : ¬ (9223372036854775807 < ta.length + tb.length) := by omega
  have lc : ((ta ++ tb).length : Int) ≤ 268435456 := by simp; omega
  have hS1 : ∀ w, Imm M w → Calls Tryd.prog 136 #[.agg #[.int .i64 B1, .int .i64 R1, .int .i64 U1, .int .i64 E1], .agg #[.int .i64 B2, .int .i64 R2, .int .i64 U2, .int .i64 E2], .int .i64 1] w
      fun x w' => x = .returned (.agg #[.int .i64 (B + 0 : Nat), .int .i64 (R + Rs : Nat), .int .i64 (U + Us : Nat), .int .i64 (E + Es : Nat)]) ∧ Below w.heap.size w w' :=
    fun w hi => sum_to _ _ _ _ _ _ _ _ _ _ _ _ _ (by omega) (by omega) (by omega) (by omega) (by omega) (by omega) (by omega) (by omega) (by omega) (by omega) (by omega) (by omega) (.inl rfl) M w hi
  have hS2 : ∀ w, Imm M w → Calls Tryd.prog 136 #[.agg #[.int .i64 (B + 0 : Nat), .int .i64 (R + Rs : Nat), .int .i64 (U + Us : Nat), .int .i64 (E + Es : Nat)], .agg #[.int .i64 0, .int .i64 Rs, .int .i64 Us, .int .i64 Es], .int .i64 (-1)] w
      fun x w' => x = .returned (.agg #[.int .i64 B, .int .i64 R, .int .i64 U, .int .i64 E]) ∧ Below w.heap.size w w' :=
    fun w hi => sum_to _ _ _ _ _ _ _ _ _ _ _ _ _ (by omega) (by omega) (by omega) (by omega) (by omega) (by omega) (by omega) (by omega) (by omega) (by omega) (by omega) (by omega) (.inr rfl) M w hi
  have HS1 := Lib.hid hS1; clear hS1
  have HS2 := Lib.hid hS2; clear hS2
  clear hB hR hU hE hR1 hU1 hE1 hR2 hU2 hE2 hBm la lb lta ltb
  by_cases hA : (B1 : Int) < 3
  · rw [if_pos (by omega)] at hh
    have hH : ∀ w, Calls Tryd.prog 137 #[.string (sOf (ha ++ hb))] w fun e w' => e = .returned (.string (sOf hw)) ∧ w' = w := fun w => by rw [hh]; exact head_any _ w
    have HH := Lib.hid hH; clear hH hh
    by_cases hZ : (B2 : Int) < 3
    · rw [if_pos (by omega)] at ht
      have hT : ∀ w, Calls Tryd.prog 138 #[.string (sOf (ta ++ tb))] w fun e w' => e = .returned (.string (sOf tw)) ∧ w' = w := fun w => by rw [ht]; exact tail_any _ lc w
      have HT := Lib.hid hT; clear hT ht lc
      (have HS := St.start hi; go_enter Tryd.func131, Tryd.ntmps131)
      go_wp2_with (first | ((with_reducible refine' q_alloc ?_); refine' a_alloc HS ?_; clear HS; intro b_ w_ HS) | ((with_reducible refine' q_box ?_); refine' a_box HS ?_; clear HS; intro b_ w_ HS) | ((with_reducible refine' q_load ?_); refine' a_load HS ?_) | ((with_reducible refine' q_store ?_); refine' a_store HS ?_; clear HS; intro w_ HS) | (go_at_call 134; (with_reducible refine (HVa.out _ HS.imm).mono ?_); rintro e w_ ⟨rfl, hb_⟩; have HS_ := HS.call hb_; clear HS hb_; have HS := HS_; clear HS_) | (go_at_call 134; (with_reducible refine (HVb.out _ HS.imm).mono ?_); rintro e w_ ⟨rfl, hb_⟩; have HS_ := HS.call hb_; clear HS hb_; have HS := HS_; clear HS_) | (go_at_call 135; (with_reducible refine (HSe.out _ HS.imm).mono ?_); rintro e w_ ⟨rfl, hb_⟩; have HS_ := HS.call hb_; clear HS hb_; have HS := HS_; clear HS_))
      refine' wp_region_tree1 [13] (.soft 0 (.soft 1 (.soft 2 (.soft 3 (.soft 5 (.soft 7 (.soft 8 (.soft 9 (.soft 10 (.two 4 (.two 6 (.soft 11 (.one 12 (.one 13 .done))) 12 (.one 6 (.soft 11 (.one 13 .done)))) 12 (.one 4 (.one 6 (.soft 11 (.one 13 .done)))))))))))))) (fun W_ => St _ _ W_ _ _) (by kernel_rfl) (by kernel_rfl) (by kernel_rfl) (by kernel_rfl) (HS).drew ?htree ?_
      case htree =>
        have HS_ := HS.drew; have HS := HS_; clear HS_
        refine lexT_soft ?_
        refine' a_dSoft rfl ?_
        refine ⟨rfl, ?_⟩
        (try simp only [Act.put, List.setIfInBounds_toArray, List.set_cons_zero, List.set_cons_succ])
        refine lexT_soft ?_
        (first | refine' a_dLoad rfl (fun w_ hw_ => hw_) ?_ | refine' a_dLoadC rfl (fun w_ hw_ => hw_) ?_)
        refine ⟨rfl, ?_⟩
        (try simp only [Act.put, List.setIfInBounds_toArray, List.set_cons_zero, List.set_cons_succ])
        refine lexT_soft ?_
        refine' a_dSoft rfl ?_
        refine ⟨rfl, ?_⟩
        (try simp only [Act.put, List.setIfInBounds_toArray, List.set_cons_zero, List.set_cons_succ])
        refine lexT_soft ?_
        (first | refine' a_dLoad rfl (fun w_ hw_ => hw_) ?_ | refine' a_dLoadC rfl (fun w_ hw_ => hw_) ?_)
        refine ⟨rfl, ?_⟩
        (try simp only [Act.put, List.setIfInBounds_toArray, List.set_cons_zero, List.set_cons_succ])
        refine lexT_soft ?_
        (first | refine' a_dLoad rfl (fun w_ hw_ => hw_) ?_ | refine' a_dLoadC rfl (fun w_ hw_ => hw_) ?_)
        refine ⟨rfl, ?_⟩
        (try simp only [Act.put, List.setIfInBounds_toArray, List.set_cons_zero, List.set_cons_succ])
        refine lexT_soft ?_
        refine' a_dSoft rfl ?_
        refine ⟨rfl, ?_⟩
        (try simp only [Act.put, List.setIfInBounds_toArray, List.set_cons_zero, List.set_cons_succ])
        refine lexT_soft ?_
        (first | refine' a_dLoad rfl (fun w_ hw_ => hw_) ?_ | refine' a_dLoadC rfl (fun w_ hw_ => hw_) ?_)
        refine ⟨rfl, ?_⟩
        (try simp only [Act.put, List.setIfInBounds_toArray, List.set_cons_zero, List.set_cons_succ])
        refine lexT_soft ?_
        refine' a_dSoft rfl ?_
        refine ⟨rfl, ?_⟩
        (try simp only [Act.put, List.setIfInBounds_toArray, List.set_cons_zero, List.set_cons_succ])
        refine lexT_soft ?_
        (first | refine' a_dLoad rfl (fun w_ hw_ => hw_) ?_ | refine' a_dLoadC rfl (fun w_ hw_ => hw_) ?_)
        refine ⟨rfl, ?_⟩
        (try simp only [Act.put, List.setIfInBounds_toArray, List.set_cons_zero, List.set_cons_succ])
        refine ⟨?_, ?_⟩
        · refine lexT_hardL rfl ?_
          refine' st_call ?hw Tryd.func136 (by kernel_rfl) rfl ?hargs (HS1.out _ HS.imm) ?_
          case hw => rfl
          case hargs => first | rfl | (go_simp; done)
          rintro e w_ ⟨rfl, hb_⟩
          (have HS_ := HS.call hb_; clear HS hb_; have HS := HS_; clear HS_)
          refine ⟨_, rfl, ?_⟩
          refine lexT_next (fun _ => HS) ?_
          (try simp only [Act.put, List.setIfInBounds_toArray, List.set_cons_zero, List.set_cons_succ])
          refine ⟨?_, ?_⟩
          · refine lexT_hardL rfl ?_
            refine' st_call ?hw Tryd.func136 (by kernel_rfl) rfl ?hargs (HS2.out _ HS.imm) ?_
            case hw => rfl
            case hargs => first | rfl | (go_simp; done)
            rintro e w_ ⟨rfl, hb_⟩
            (have HS_ := HS.call hb_; clear HS hb_; have HS := HS_; clear HS_)
            refine ⟨_, rfl, ?_⟩
            refine lexT_next (fun _ => HS) ?_
            (try simp only [Act.put, List.setIfInBounds_toArray, List.set_cons_zero, List.set_cons_succ])
            refine lexT_soft ?_
            refine' a_dSoft rfl ?_
            refine ⟨rfl, ?_⟩
            (try simp only [Act.put, List.setIfInBounds_toArray, List.set_cons_zero, List.set_cons_succ])
            refine lexT_hardL rfl ?_
            ((with_reducible refine' q_alloc ?_); refine' a_alloc HS ?_; clear HS; intro b12_ w_ HS)
            refine lexT_next (fun _ => HS.drop) ?_
            (try simp only [Act.put, List.setIfInBounds_toArray, List.set_cons_zero, List.set_cons_succ])
            refine lexT_hardL rfl ?_
            ((with_reducible refine' q_store ?_); refine' a_store HS ?_; clear HS; intro w_ HS)
            refine lexT_next (fun h => absurd h (by decide)) ?_
            (try simp only [Act.put, List.setIfInBounds_toArray, List.set_cons_zero, List.set_cons_succ])
            (first | exact lexT_end ⟨b12_, rfl, HS⟩ | exact lexT_end ⟨b12_, rfl, HS.perm (.swap _ _ _)⟩)
          · refine lexT_hardL rfl ?_
            ((with_reducible refine' q_alloc ?_); refine' a_alloc HS ?_; clear HS; intro b12_ w_ HS)
            refine lexT_next (fun _ => HS.drop) ?_
            (try simp only [Act.put, List.setIfInBounds_toArray, List.set_cons_zero, List.set_cons_succ])
            refine lexT_hardL rfl ?_
            refine' st_call ?hw Tryd.func136 (by kernel_rfl) rfl ?hargs (HS2.out _ HS.imm) ?_
            case hw => rfl
            case hargs => first | rfl | (go_simp; done)
            rintro e w_ ⟨rfl, hb_⟩
            (have HS_ := HS.call hb_; clear HS hb_; have HS := HS_; clear HS_)
            refine ⟨_, rfl, ?_⟩
            refine lexT_next (fun _ => HS.drop) ?_
            (try simp only [Act.put, List.setIfInBounds_toArray, List.set_cons_zero, List.set_cons_succ])
            refine lexT_soft ?_
            refine' a_dSoft rfl ?_
            refine ⟨rfl, ?_⟩
            (try simp only [Act.put, List.setIfInBounds_toArray, List.set_cons_zero, List.set_cons_succ])
            refine lexT_hardL rfl ?_
            ((with_reducible refine' q_store ?_); refine' a_store HS ?_; clear HS; intro w_ HS)
            refine lexT_next (fun h => absurd h (by decide)) ?_
            (try simp only [Act.put, List.setIfInBounds_toArray, List.set_cons_zero, List.set_cons_succ])
            (first | exact lexT_end ⟨b12_, rfl, HS⟩ | exact lexT_end ⟨b12_, rfl, HS.perm (.swap _ _ _)⟩)
        · refine lexT_hardL rfl ?_
          ((with_reducible refine' q_alloc ?_); refine' a_alloc HS ?_; clear HS; intro b12_ w_ HS)
          refine lexT_next (fun _ => HS.drop) ?_
          (try simp only [Act.put, List.setIfInBounds_toArray, List.set_cons_zero, List.set_cons_succ])
          refine lexT_hardL rfl ?_
          refine' st_call ?hw Tryd.func136 (by kernel_rfl) rfl ?hargs (HS1.out _ HS.imm) ?_
          case hw => rfl
          case hargs => first | rfl | (go_simp; done)
          rintro e w_ ⟨rfl, hb_⟩
          (have HS_ := HS.call hb_; clear HS hb_; have HS := HS_; clear HS_)
          refine ⟨_, rfl, ?_⟩
          refine lexT_next (fun _ => HS.drop) ?_
          (try simp only [Act.put, List.setIfInBounds_toArray, List.set_cons_zero, List.set_cons_succ])
          refine lexT_hardL rfl ?_
          refine' st_call ?hw Tryd.func136 (by kernel_rfl) rfl ?hargs (HS2.out _ HS.imm) ?_
          case hw => rfl
          case hargs => first | rfl | (go_simp; done)
          rintro e w_ ⟨rfl, hb_⟩
          (have HS_ := HS.call hb_; clear HS hb_; have HS := HS_; clear HS_)
          refine ⟨_, rfl, ?_⟩
          refine lexT_next (fun _ => HS.drop) ?_
          (try simp only [Act.put, List.setIfInBounds_toArray, List.set_cons_zero, List.set_cons_succ])
          refine lexT_soft ?_
          refine' a_dSoft rfl ?_
          refine ⟨rfl, ?_⟩
          (try simp only [Act.put, List.setIfInBounds_toArray, List.set_cons_zero, List.set_cons_succ])
          refine lexT_hardL rfl ?_
          ((with_reducible refine' q_store ?_); refine' a_store HS ?_; clear HS; intro w_ HS)
          refine lexT_next (fun h => absurd h (by decide)) ?_
          (try simp only [Act.put, List.setIfInBounds_toArray, List.set_cons_zero, List.set_cons_succ])
          (first | exact lexT_end ⟨b12_, rfl, HS⟩ | exact lexT_end ⟨b12_, rfl, HS.perm (.swap _ _ _)⟩)
      clear HS
      intro b12_ w_ HS
      go_wp2_with (first | ((with_reducible refine' q_alloc ?_); refine' a_alloc HS ?_; clear HS; intro b_ w_ HS) | ((with_reducible refine' q_box ?_); refine' a_box HS ?_; clear HS; intro b_ w_ HS) | ((with_reducible refine' q_load ?_); refine' a_load HS ?_) | ((with_reducible refine' q_store ?_); refine' a_store HS ?_; clear HS; intro w_ HS) | (go_at_call 134; (with_reducible refine (HVw.out _ HS.imm).mono ?_); rintro e w_ ⟨rfl, hb_⟩; have HS_ := HS.call hb_; clear HS hb_; have HS := HS_; clear HS_) | (go_at_call 137; (with_reducible refine (HH.out _).mono ?_); rintro e w_ ⟨rfl, rfl⟩) | (go_at_call 138; (with_reducible refine (HT.out _).mono ?_); rintro e w_ ⟨rfl, rfl⟩))
      refine' wp_region_tree0 [0, 1, 2, 3, 4] (.two 0 (.two 1 (.one 2 (.one 3 (.one 4 .done))) 2 (.one 1 (.one 3 (.one 4 .done)))) 1 (.one 0 (.one 2 (.one 3 (.one 4 .done))))) (fun W_ => St _ _ W_ _ _) (by kernel_rfl) (by kernel_rfl) (by kernel_rfl) (by kernel_rfl) (HS).drew ?htree ?_
      case htree =>
        have HS_ := HS.drew; have HS := HS_; clear HS_
        refine ⟨?_, ?_⟩
        · refine lexT_hardL rfl ?_
          ((with_reducible refine' q_load ?_); refine' a_load HS ?_)
          refine lexT_next (fun h => absurd h (by decide)) ?_
          (try simp only [Act.put, List.setIfInBounds_toArray, List.set_cons_zero, List.set_cons_succ])
          refine ⟨?_, ?_⟩
          · refine lexT_hardL rfl ?_
            ((with_reducible refine' q_load ?_); refine' a_load HS ?_)
            refine lexT_next (fun h => absurd h (by decide)) ?_
            (try simp only [Act.put, List.setIfInBounds_toArray, List.set_cons_zero, List.set_cons_succ])
            refine lexT_hardL rfl ?_
            ((with_reducible refine' q_store ?_); refine' a_store HS ?_; clear HS; intro w_ HS)
            refine lexT_next (fun h => absurd h (by decide)) ?_
            (try simp only [Act.put, List.setIfInBounds_toArray, List.set_cons_zero, List.set_cons_succ])
            refine lexT_hardL rfl ?_
            ((with_reducible refine' q_store ?_); refine' a_store HS ?_; clear HS; intro w_ HS)
            refine lexT_next (fun h => absurd h (by decide)) ?_
            (try simp only [Act.put, List.setIfInBounds_toArray, List.set_cons_zero, List.set_cons_succ])
            refine lexT_hardL rfl ?_
            (refine' wpList_ok ?hw ?hrun ?_; (case hw => first | rfl | go_simp); (case hrun => first | (go_simp; done) | (go_simp; exact ⟨rfl, rfl⟩) | (go_simp; rfl)))
            refine lexT_next (fun h => absurd h (by decide)) ?_
            (try simp only [Act.put, List.setIfInBounds_toArray, List.set_cons_zero, List.set_cons_succ])
            (first | exact lexT_end ⟨rfl, HS⟩ | exact lexT_end ⟨rfl, HS.perm (.swap _ _ _)⟩)
          · refine lexT_hardL rfl ?_
            ((with_reducible refine' q_store ?_); refine' a_store HS ?_; clear HS; intro w_ HS)
            refine lexT_next (fun h => absurd h (by decide)) ?_
            (try simp only [Act.put, List.setIfInBounds_toArray, List.set_cons_zero, List.set_cons_succ])
            refine lexT_hardL rfl ?_
            ((with_reducible refine' q_load ?_); refine' a_load HS ?_)
            refine lexT_next (fun h => absurd h (by decide)) ?_
            (try simp only [Act.put, List.setIfInBounds_toArray, List.set_cons_zero, List.set_cons_succ])
            refine lexT_hardL rfl ?_
            ((with_reducible refine' q_store ?_); refine' a_store HS ?_; clear HS; intro w_ HS)
            refine lexT_next (fun h => absurd h (by decide)) ?_
            (try simp only [Act.put, List.setIfInBounds_toArray, List.set_cons_zero, List.set_cons_succ])
            refine lexT_hardL rfl ?_
            (refine' wpList_ok ?hw ?hrun ?_; (case hw => first | rfl | go_simp); (case hrun => first | (go_simp; done) | (go_simp; exact ⟨rfl, rfl⟩) | (go_simp; rfl)))
            refine lexT_next (fun h => absurd h (by decide)) ?_
            (try simp only [Act.put, List.setIfInBounds_toArray, List.set_cons_zero, List.set_cons_succ])
            (first | exact lexT_end ⟨rfl, HS⟩ | exact lexT_end ⟨rfl, HS.perm (.swap _ _ _)⟩)
        · refine lexT_hardL rfl ?_
          ((with_reducible refine' q_load ?_); refine' a_load HS ?_)
          refine lexT_next (fun h => absurd h (by decide)) ?_
          (try simp only [Act.put, List.setIfInBounds_toArray, List.set_cons_zero, List.set_cons_succ])
          refine lexT_hardL rfl ?_
          ((with_reducible refine' q_load ?_); refine' a_load HS ?_)
          refine lexT_next (fun h => absurd h (by decide)) ?_
          (try simp only [Act.put, List.setIfInBounds_toArray, List.set_cons_zero, List.set_cons_succ])
          refine lexT_hardL rfl ?_
          ((with_reducible refine' q_store ?_); refine' a_store HS ?_; clear HS; intro w_ HS)
          refine lexT_next (fun h => absurd h (by decide)) ?_
          (try simp only [Act.put, List.setIfInBounds_toArray, List.set_cons_zero, List.set_cons_succ])
          refine lexT_hardL rfl ?_
          ((with_reducible refine' q_store ?_); refine' a_store HS ?_; clear HS; intro w_ HS)
          refine lexT_next (fun h => absurd h (by decide)) ?_
          (try simp only [Act.put, List.setIfInBounds_toArray, List.set_cons_zero, List.set_cons_succ])
          refine lexT_hardL rfl ?_
          (refine' wpList_ok ?hw ?hrun ?_; (case hw => first | rfl | go_simp); (case hrun => first | (go_simp; done) | (go_simp; exact ⟨rfl, rfl⟩) | (go_simp; rfl)))
          refine lexT_next (fun h => absurd h (by decide)) ?_
          (try simp only [Act.put, List.setIfInBounds_toArray, List.set_cons_zero, List.set_cons_succ])
          (first | exact lexT_end ⟨rfl, HS⟩ | exact lexT_end ⟨rfl, HS.perm (.swap _ _ _)⟩)
      clear HS
      intro  w_ HS
      go_wp2_with (first | ((with_reducible refine' q_alloc ?_); refine' a_alloc HS ?_; clear HS; intro b_ w_ HS) | ((with_reducible refine' q_box ?_); refine' a_box HS ?_; clear HS; intro b_ w_ HS) | ((with_reducible refine' q_load ?_); refine' a_load HS ?_) | ((with_reducible refine' q_store ?_); refine' a_store HS ?_; clear HS; intro w_ HS))
      (refine post_cell_cell_tmp (p := 4) (T := 87) (p2 := 5) (T2 := 85) rfl HS rfl rfl rfl (by (first | (apply Blk.loc; (repeat (first | (with_reducible exact List.mem_cons_self) | apply List.mem_cons_of_mem)); done) | (apply Blk.imm; with_reducible assumption))) (by (first | (apply Blk.loc; (repeat (first | (with_reducible exact List.mem_cons_self) | apply List.mem_cons_of_mem)); done) | (apply Blk.imm; with_reducible assumption))) (by exact Eq.refl true) (by exact Eq.refl true) ?_)
      exact ⟨rfl, HS.below⟩
    · rw [if_neg (by omega)] at ht
      subst ht
      clear lc
      (have HS := St.start hi; go_enter Tryd.func131, Tryd.ntmps131)
      go_wp2_with (first | ((with_reducible refine' q_alloc ?_); refine' a_alloc HS ?_; clear HS; intro b_ w_ HS) | ((with_reducible refine' q_box ?_); refine' a_box HS ?_; clear HS; intro b_ w_ HS) | ((with_reducible refine' q_load ?_); refine' a_load HS ?_) | ((with_reducible refine' q_store ?_); refine' a_store HS ?_; clear HS; intro w_ HS) | (go_at_call 134; (with_reducible refine (HVa.out _ HS.imm).mono ?_); rintro e w_ ⟨rfl, hb_⟩; have HS_ := HS.call hb_; clear HS hb_; have HS := HS_; clear HS_) | (go_at_call 134; (with_reducible refine (HVb.out _ HS.imm).mono ?_); rintro e w_ ⟨rfl, hb_⟩; have HS_ := HS.call hb_; clear HS hb_; have HS := HS_; clear HS_) | (go_at_call 135; (with_reducible refine (HSe.out _ HS.imm).mono ?_); rintro e w_ ⟨rfl, hb_⟩; have HS_ := HS.call hb_; clear HS hb_; have HS := HS_; clear HS_))
      refine' wp_region_tree1 [13] (.soft 0 (.soft 1 (.soft 2 (.soft 3 (.soft 5 (.soft 7 (.soft 8 (.soft 9 (.soft 10 (.two 4 (.two 6 (.soft 11 (.one 12 (.one 13 .done))) 12 (.one 6 (.soft 11 (.one 13 .done)))) 12 (.one 4 (.one 6 (.soft 11 (.one 13 .done)))))))))))))) (fun W_ => St _ _ W_ _ _) (by kernel_rfl) (by kernel_rfl) (by kernel_rfl) (by kernel_rfl) (HS).drew ?htree ?_
      case htree =>
        have HS_ := HS.drew; have HS := HS_; clear HS_
        refine lexT_soft ?_
        refine' a_dSoft rfl ?_
        refine ⟨rfl, ?_⟩
        (try simp only [Act.put, List.setIfInBounds_toArray, List.set_cons_zero, List.set_cons_succ])
        refine lexT_soft ?_
        (first | refine' a_dLoad rfl (fun w_ hw_ => hw_) ?_ | refine' a_dLoadC rfl (fun w_ hw_ => hw_) ?_)
        refine ⟨rfl, ?_⟩
        (try simp only [Act.put, List.setIfInBounds_toArray, List.set_cons_zero, List.set_cons_succ])
        refine lexT_soft ?_
        refine' a_dSoft rfl ?_
        refine ⟨rfl, ?_⟩
        (try simp only [Act.put, List.setIfInBounds_toArray, List.set_cons_zero, List.set_cons_succ])
        refine lexT_soft ?_
        (first | refine' a_dLoad rfl (fun w_ hw_ => hw_) ?_ | refine' a_dLoadC rfl (fun w_ hw_ => hw_) ?_)
        refine ⟨rfl, ?_⟩
        (try simp only [Act.put, List.setIfInBounds_toArray, List.set_cons_zero, List.set_cons_succ])
        refine lexT_soft ?_
        (first | refine' a_dLoad rfl (fun w_ hw_ => hw_) ?_ | refine' a_dLoadC rfl (fun w_ hw_ => hw_) ?_)
        refine ⟨rfl, ?_⟩
        (try simp only [Act.put, List.setIfInBounds_toArray, List.set_cons_zero, List.set_cons_succ])
        refine lexT_soft ?_
        refine' a_dSoft rfl ?_
        refine ⟨rfl, ?_⟩
        (try simp only [Act.put, List.setIfInBounds_toArray, List.set_cons_zero, List.set_cons_succ])
        refine lexT_soft ?_
        (first | refine' a_dLoad rfl (fun w_ hw_ => hw_) ?_ | refine' a_dLoadC rfl (fun w_ hw_ => hw_) ?_)
        refine ⟨rfl, ?_⟩
        (try simp only [Act.put, List.setIfInBounds_toArray, List.set_cons_zero, List.set_cons_succ])
        refine lexT_soft ?_
        refine' a_dSoft rfl ?_
        refine ⟨rfl, ?_⟩
        (try simp only [Act.put, List.setIfInBounds_toArray, List.set_cons_zero, List.set_cons_succ])
        refine lexT_soft ?_
        (first | refine' a_dLoad rfl (fun w_ hw_ => hw_) ?_ | refine' a_dLoadC rfl (fun w_ hw_ => hw_) ?_)
        refine ⟨rfl, ?_⟩
        (try simp only [Act.put, List.setIfInBounds_toArray, List.set_cons_zero, List.set_cons_succ])
        refine ⟨?_, ?_⟩
        · refine lexT_hardL rfl ?_
          refine' st_call ?hw Tryd.func136 (by kernel_rfl) rfl ?hargs (HS1.out _ HS.imm) ?_
          case hw => rfl
          case hargs => first | rfl | (go_simp; done)
          rintro e w_ ⟨rfl, hb_⟩
          (have HS_ := HS.call hb_; clear HS hb_; have HS := HS_; clear HS_)
          refine ⟨_, rfl, ?_⟩
          refine lexT_next (fun _ => HS) ?_
          (try simp only [Act.put, List.setIfInBounds_toArray, List.set_cons_zero, List.set_cons_succ])
          refine ⟨?_, ?_⟩
          · refine lexT_hardL rfl ?_
            refine' st_call ?hw Tryd.func136 (by kernel_rfl) rfl ?hargs (HS2.out _ HS.imm) ?_
            case hw => rfl
            case hargs => first | rfl | (go_simp; done)
            rintro e w_ ⟨rfl, hb_⟩
            (have HS_ := HS.call hb_; clear HS hb_; have HS := HS_; clear HS_)
            refine ⟨_, rfl, ?_⟩
            refine lexT_next (fun _ => HS) ?_
            (try simp only [Act.put, List.setIfInBounds_toArray, List.set_cons_zero, List.set_cons_succ])
            refine lexT_soft ?_
            refine' a_dSoft rfl ?_
            refine ⟨rfl, ?_⟩
            (try simp only [Act.put, List.setIfInBounds_toArray, List.set_cons_zero, List.set_cons_succ])
            refine lexT_hardL rfl ?_
            ((with_reducible refine' q_alloc ?_); refine' a_alloc HS ?_; clear HS; intro b12_ w_ HS)
            refine lexT_next (fun _ => HS.drop) ?_
            (try simp only [Act.put, List.setIfInBounds_toArray, List.set_cons_zero, List.set_cons_succ])
            refine lexT_hardL rfl ?_
            ((with_reducible refine' q_store ?_); refine' a_store HS ?_; clear HS; intro w_ HS)
            refine lexT_next (fun h => absurd h (by decide)) ?_
            (try simp only [Act.put, List.setIfInBounds_toArray, List.set_cons_zero, List.set_cons_succ])
            (first | exact lexT_end ⟨b12_, rfl, HS⟩ | exact lexT_end ⟨b12_, rfl, HS.perm (.swap _ _ _)⟩)
          · refine lexT_hardL rfl ?_
            ((with_reducible refine' q_alloc ?_); refine' a_alloc HS ?_; clear HS; intro b12_ w_ HS)
            refine lexT_next (fun _ => HS.drop) ?_
            (try simp only [Act.put, List.setIfInBounds_toArray, List.set_cons_zero, List.set_cons_succ])
            refine lexT_hardL rfl ?_
            refine' st_call ?hw Tryd.func136 (by kernel_rfl) rfl ?hargs (HS2.out _ HS.imm) ?_
            case hw => rfl
            case hargs => first | rfl | (go_simp; done)
            rintro e w_ ⟨rfl, hb_⟩
            (have HS_ := HS.call hb_; clear HS hb_; have HS := HS_; clear HS_)
            refine ⟨_, rfl, ?_⟩
            refine lexT_next (fun _ => HS.drop) ?_
            (try simp only [Act.put, List.setIfInBounds_toArray, List.set_cons_zero, List.set_cons_succ])
            refine lexT_soft ?_
            refine' a_dSoft rfl ?_
            refine ⟨rfl, ?_⟩
            (try simp only [Act.put, List.setIfInBounds_toArray, List.set_cons_zero, List.set_cons_succ])
            refine lexT_hardL rfl ?_
            ((with_reducible refine' q_store ?_); refine' a_store HS ?_; clear HS; intro w_ HS)
            refine lexT_next (fun h => absurd h (by decide)) ?_
            (try simp only [Act.put, List.setIfInBounds_toArray, List.set_cons_zero, List.set_cons_succ])
            (first | exact lexT_end ⟨b12_, rfl, HS⟩ | exact lexT_end ⟨b12_, rfl, HS.perm (.swap _ _ _)⟩)
        · refine lexT_hardL rfl ?_
          ((with_reducible refine' q_alloc ?_); refine' a_alloc HS ?_; clear HS; intro b12_ w_ HS)
          refine lexT_next (fun _ => HS.drop) ?_
          (try simp only [Act.put, List.setIfInBounds_toArray, List.set_cons_zero, List.set_cons_succ])
          refine lexT_hardL rfl ?_
          refine' st_call ?hw Tryd.func136 (by kernel_rfl) rfl ?hargs (HS1.out _ HS.imm) ?_
          case hw => rfl
          case hargs => first | rfl | (go_simp; done)
          rintro e w_ ⟨rfl, hb_⟩
          (have HS_ := HS.call hb_; clear HS hb_; have HS := HS_; clear HS_)
          refine ⟨_, rfl, ?_⟩
          refine lexT_next (fun _ => HS.drop) ?_
          (try simp only [Act.put, List.setIfInBounds_toArray, List.set_cons_zero, List.set_cons_succ])
          refine lexT_hardL rfl ?_
          refine' st_call ?hw Tryd.func136 (by kernel_rfl) rfl ?hargs (HS2.out _ HS.imm) ?_
          case hw => rfl
          case hargs => first | rfl | (go_simp; done)
          rintro e w_ ⟨rfl, hb_⟩
          (have HS_ := HS.call hb_; clear HS hb_; have HS := HS_; clear HS_)
          refine ⟨_, rfl, ?_⟩
          refine lexT_next (fun _ => HS.drop) ?_
          (try simp only [Act.put, List.setIfInBounds_toArray, List.set_cons_zero, List.set_cons_succ])
          refine lexT_soft ?_
          refine' a_dSoft rfl ?_
          refine ⟨rfl, ?_⟩
          (try simp only [Act.put, List.setIfInBounds_toArray, List.set_cons_zero, List.set_cons_succ])
          refine lexT_hardL rfl ?_
          ((with_reducible refine' q_store ?_); refine' a_store HS ?_; clear HS; intro w_ HS)
          refine lexT_next (fun h => absurd h (by decide)) ?_
          (try simp only [Act.put, List.setIfInBounds_toArray, List.set_cons_zero, List.set_cons_succ])
          (first | exact lexT_end ⟨b12_, rfl, HS⟩ | exact lexT_end ⟨b12_, rfl, HS.perm (.swap _ _ _)⟩)
      clear HS
      intro b12_ w_ HS
      go_wp2_with (first | ((with_reducible refine' q_alloc ?_); refine' a_alloc HS ?_; clear HS; intro b_ w_ HS) | ((with_reducible refine' q_box ?_); refine' a_box HS ?_; clear HS; intro b_ w_ HS) | ((with_reducible refine' q_load ?_); refine' a_load HS ?_) | ((with_reducible refine' q_store ?_); refine' a_store HS ?_; clear HS; intro w_ HS) | (go_at_call 134; (with_reducible refine (HVw.out _ HS.imm).mono ?_); rintro e w_ ⟨rfl, hb_⟩; have HS_ := HS.call hb_; clear HS hb_; have HS := HS_; clear HS_) | (go_at_call 137; (with_reducible refine (HH.out _).mono ?_); rintro e w_ ⟨rfl, rfl⟩))
      refine' wp_region_tree0 [0, 1, 2, 3, 4] (.two 0 (.two 1 (.one 2 (.one 3 (.one 4 .done))) 2 (.one 1 (.one 3 (.one 4 .done)))) 1 (.one 0 (.one 2 (.one 3 (.one 4 .done))))) (fun W_ => St _ _ W_ _ _) (by kernel_rfl) (by kernel_rfl) (by kernel_rfl) (by kernel_rfl) (HS).drew ?htree ?_
      case htree =>
        have HS_ := HS.drew; have HS := HS_; clear HS_
        refine ⟨?_, ?_⟩
        · refine lexT_hardL rfl ?_
          ((with_reducible refine' q_load ?_); refine' a_load HS ?_)
          refine lexT_next (fun h => absurd h (by decide)) ?_
          (try simp only [Act.put, List.setIfInBounds_toArray, List.set_cons_zero, List.set_cons_succ])
          refine ⟨?_, ?_⟩
          · refine lexT_hardL rfl ?_
            ((with_reducible refine' q_load ?_); refine' a_load HS ?_)
            refine lexT_next (fun h => absurd h (by decide)) ?_
            (try simp only [Act.put, List.setIfInBounds_toArray, List.set_cons_zero, List.set_cons_succ])
            refine lexT_hardL rfl ?_
            ((with_reducible refine' q_store ?_); refine' a_store HS ?_; clear HS; intro w_ HS)
            refine lexT_next (fun h => absurd h (by decide)) ?_
            (try simp only [Act.put, List.setIfInBounds_toArray, List.set_cons_zero, List.set_cons_succ])
            refine lexT_hardL rfl ?_
            ((with_reducible refine' q_store ?_); refine' a_store HS ?_; clear HS; intro w_ HS)
            refine lexT_next (fun h => absurd h (by decide)) ?_
            (try simp only [Act.put, List.setIfInBounds_toArray, List.set_cons_zero, List.set_cons_succ])
            refine lexT_hardL rfl ?_
            (refine' wpList_ok ?hw ?hrun ?_; (case hw => first | rfl | go_simp); (case hrun => first | (go_simp; done) | (go_simp; exact ⟨rfl, rfl⟩) | (go_simp; rfl)))
            refine lexT_next (fun h => absurd h (by decide)) ?_
            (try simp only [Act.put, List.setIfInBounds_toArray, List.set_cons_zero, List.set_cons_succ])
            (first | exact lexT_end ⟨rfl, HS⟩ | exact lexT_end ⟨rfl, HS.perm (.swap _ _ _)⟩)
          · refine lexT_hardL rfl ?_
            ((with_reducible refine' q_store ?_); refine' a_store HS ?_; clear HS; intro w_ HS)
            refine lexT_next (fun h => absurd h (by decide)) ?_
            (try simp only [Act.put, List.setIfInBounds_toArray, List.set_cons_zero, List.set_cons_succ])
            refine lexT_hardL rfl ?_
            ((with_reducible refine' q_load ?_); refine' a_load HS ?_)
            refine lexT_next (fun h => absurd h (by decide)) ?_
            (try simp only [Act.put, List.setIfInBounds_toArray, List.set_cons_zero, List.set_cons_succ])
            refine lexT_hardL rfl ?_
            ((with_reducible refine' q_store ?_); refine' a_store HS ?_; clear HS; intro w_ HS)
            refine lexT_next (fun h => absurd h (by decide)) ?_
            (try simp only [Act.put, List.setIfInBounds_toArray, List.set_cons_zero, List.set_cons_succ])
            refine lexT_hardL rfl ?_
            (refine' wpList_ok ?hw ?hrun ?_; (case hw => first | rfl | go_simp); (case hrun => first | (go_simp; done) | (go_simp; exact ⟨rfl, rfl⟩) | (go_simp; rfl)))
            refine lexT_next (fun h => absurd h (by decide)) ?_
            (try simp only [Act.put, List.setIfInBounds_toArray, List.set_cons_zero, List.set_cons_succ])
            (first | exact lexT_end ⟨rfl, HS⟩ | exact lexT_end ⟨rfl, HS.perm (.swap _ _ _)⟩)
        · refine lexT_hardL rfl ?_
          ((with_reducible refine' q_load ?_); refine' a_load HS ?_)
          refine lexT_next (fun h => absurd h (by decide)) ?_
          (try simp only [Act.put, List.setIfInBounds_toArray, List.set_cons_zero, List.set_cons_succ])
          refine lexT_hardL rfl ?_
          ((with_reducible refine' q_load ?_); refine' a_load HS ?_)
          refine lexT_next (fun h => absurd h (by decide)) ?_
          (try simp only [Act.put, List.setIfInBounds_toArray, List.set_cons_zero, List.set_cons_succ])
          refine lexT_hardL rfl ?_
          ((with_reducible refine' q_store ?_); refine' a_store HS ?_; clear HS; intro w_ HS)
          refine lexT_next (fun h => absurd h (by decide)) ?_
          (try simp only [Act.put, List.setIfInBounds_toArray, List.set_cons_zero, List.set_cons_succ])
          refine lexT_hardL rfl ?_
          ((with_reducible refine' q_store ?_); refine' a_store HS ?_; clear HS; intro w_ HS)
          refine lexT_next (fun h => absurd h (by decide)) ?_
          (try simp only [Act.put, List.setIfInBounds_toArray, List.set_cons_zero, List.set_cons_succ])
          refine lexT_hardL rfl ?_
          (refine' wpList_ok ?hw ?hrun ?_; (case hw => first | rfl | go_simp); (case hrun => first | (go_simp; done) | (go_simp; exact ⟨rfl, rfl⟩) | (go_simp; rfl)))
          refine lexT_next (fun h => absurd h (by decide)) ?_
          (try simp only [Act.put, List.setIfInBounds_toArray, List.set_cons_zero, List.set_cons_succ])
          (first | exact lexT_end ⟨rfl, HS⟩ | exact lexT_end ⟨rfl, HS.perm (.swap _ _ _)⟩)
      clear HS
      intro  w_ HS
      go_wp2_with (first | ((with_reducible refine' q_alloc ?_); refine' a_alloc HS ?_; clear HS; intro b_ w_ HS) | ((with_reducible refine' q_box ?_); refine' a_box HS ?_; clear HS; intro b_ w_ HS) | ((with_reducible refine' q_load ?_); refine' a_load HS ?_) | ((with_reducible refine' q_store ?_); refine' a_store HS ?_; clear HS; intro w_ HS))
      (refine post_cell_cell_tmp (p := 4) (T := 87) (p2 := 5) (T2 := 85) rfl HS rfl rfl rfl (by (first | (apply Blk.loc; (repeat (first | (with_reducible exact List.mem_cons_self) | apply List.mem_cons_of_mem)); done) | (apply Blk.imm; with_reducible assumption))) (by (first | (apply Blk.loc; (repeat (first | (with_reducible exact List.mem_cons_self) | apply List.mem_cons_of_mem)); done) | (apply Blk.imm; with_reducible assumption))) (by exact Eq.refl true) (by exact Eq.refl true) ?_)
      exact ⟨rfl, HS.below⟩
  · rw [if_neg (by omega)] at hh
    subst hh
    by_cases hZ : (B2 : Int) < 3
    · rw [if_pos (by omega)] at ht
      have hT : ∀ w, Calls Tryd.prog 138 #[.string (sOf (ta ++ tb))] w fun e w' => e = .returned (.string (sOf tw)) ∧ w' = w := fun w => by rw [ht]; exact tail_any _ lc w
      have HT := Lib.hid hT; clear hT ht lc
      (have HS := St.start hi; go_enter Tryd.func131, Tryd.ntmps131)
      go_wp2_with (first | ((with_reducible refine' q_alloc ?_); refine' a_alloc HS ?_; clear HS; intro b_ w_ HS) | ((with_reducible refine' q_box ?_); refine' a_box HS ?_; clear HS; intro b_ w_ HS) | ((with_reducible refine' q_load ?_); refine' a_load HS ?_) | ((with_reducible refine' q_store ?_); refine' a_store HS ?_; clear HS; intro w_ HS) | (go_at_call 134; (with_reducible refine (HVa.out _ HS.imm).mono ?_); rintro e w_ ⟨rfl, hb_⟩; have HS_ := HS.call hb_; clear HS hb_; have HS := HS_; clear HS_) | (go_at_call 134; (with_reducible refine (HVb.out _ HS.imm).mono ?_); rintro e w_ ⟨rfl, hb_⟩; have HS_ := HS.call hb_; clear HS hb_; have HS := HS_; clear HS_) | (go_at_call 135; (with_reducible refine (HSe.out _ HS.imm).mono ?_); rintro e w_ ⟨rfl, hb_⟩; have HS_ := HS.call hb_; clear HS hb_; have HS := HS_; clear HS_))
      refine' wp_region_tree1 [13] (.soft 0 (.soft 1 (.soft 2 (.soft 3 (.soft 5 (.soft 7 (.soft 8 (.soft 9 (.soft 10 (.two 4 (.two 6 (.soft 11 (.one 12 (.one 13 .done))) 12 (.one 6 (.soft 11 (.one 13 .done)))) 12 (.one 4 (.one 6 (.soft 11 (.one 13 .done)))))))))))))) (fun W_ => St _ _ W_ _ _) (by kernel_rfl) (by kernel_rfl) (by kernel_rfl) (by kernel_rfl) (HS).drew ?htree ?_
      case htree =>
        have HS_ := HS.drew; have HS := HS_; clear HS_
        refine lexT_soft ?_
        refine' a_dSoft rfl ?_
        refine ⟨rfl, ?_⟩
        (try simp only [Act.put, List.setIfInBounds_toArray, List.set_cons_zero, List.set_cons_succ])
        refine lexT_soft ?_
        (first | refine' a_dLoad rfl (fun w_ hw_ => hw_) ?_ | refine' a_dLoadC rfl (fun w_ hw_ => hw_) ?_)
        refine ⟨rfl, ?_⟩
        (try simp only [Act.put, List.setIfInBounds_toArray, List.set_cons_zero, List.set_cons_succ])
        refine lexT_soft ?_
        refine' a_dSoft rfl ?_
        refine ⟨rfl, ?_⟩
        (try simp only [Act.put, List.setIfInBounds_toArray, List.set_cons_zero, List.set_cons_succ])
        refine lexT_soft ?_
        (first | refine' a_dLoad rfl (fun w_ hw_ => hw_) ?_ | refine' a_dLoadC rfl (fun w_ hw_ => hw_) ?_)
        refine ⟨rfl, ?_⟩
        (try simp only [Act.put, List.setIfInBounds_toArray, List.set_cons_zero, List.set_cons_succ])
        refine lexT_soft ?_
        (first | refine' a_dLoad rfl (fun w_ hw_ => hw_) ?_ | refine' a_dLoadC rfl (fun w_ hw_ => hw_) ?_)
        refine ⟨rfl, ?_⟩
        (try simp only [Act.put, List.setIfInBounds_toArray, List.set_cons_zero, List.set_cons_succ])
        refine lexT_soft ?_
        refine' a_dSoft rfl ?_
        refine ⟨rfl, ?_⟩
        (try simp only [Act.put, List.setIfInBounds_toArray, List.set_cons_zero, List.set_cons_succ])
        refine lexT_soft ?_
        (first | refine' a_dLoad rfl (fun w_ hw_ => hw_) ?_ | refine' a_dLoadC rfl (fun w_ hw_ => hw_) ?_)
        refine ⟨rfl, ?_⟩
        (try simp only [Act.put, List.setIfInBounds_toArray, List.set_cons_zero, List.set_cons_succ])
        refine lexT_soft ?_
        refine' a_dSoft rfl ?_
        refine ⟨rfl, ?_⟩
        (try simp only [Act.put, List.setIfInBounds_toArray, List.set_cons_zero, List.set_cons_succ])
        refine lexT_soft ?_
        (first | refine' a_dLoad rfl (fun w_ hw_ => hw_) ?_ | refine' a_dLoadC rfl (fun w_ hw_ => hw_) ?_)
        refine ⟨rfl, ?_⟩
        (try simp only [Act.put, List.setIfInBounds_toArray, List.set_cons_zero, List.set_cons_succ])
        refine ⟨?_, ?_⟩
        · refine lexT_hardL rfl ?_
          refine' st_call ?hw Tryd.func136 (by kernel_rfl) rfl ?hargs (HS1.out _ HS.imm) ?_
          case hw => rfl
          case hargs => first | rfl | (go_simp; done)
          rintro e w_ ⟨rfl, hb_⟩
          (have HS_ := HS.call hb_; clear HS hb_; have HS := HS_; clear HS_)
          refine ⟨_, rfl, ?_⟩
          refine lexT_next (fun _ => HS) ?_
          (try simp only [Act.put, List.setIfInBounds_toArray, List.set_cons_zero, List.set_cons_succ])
          refine ⟨?_, ?_⟩
          · refine lexT_hardL rfl ?_
            refine' st_call ?hw Tryd.func136 (by kernel_rfl) rfl ?hargs (HS2.out _ HS.imm) ?_
            case hw => rfl
            case hargs => first | rfl | (go_simp; done)
            rintro e w_ ⟨rfl, hb_⟩
            (have HS_ := HS.call hb_; clear HS hb_; have HS := HS_; clear HS_)
            refine ⟨_, rfl, ?_⟩
            refine lexT_next (fun _ => HS) ?_
            (try simp only [Act.put, List.setIfInBounds_toArray, List.set_cons_zero, List.set_cons_succ])
            refine lexT_soft ?_
            refine' a_dSoft rfl ?_
            refine ⟨rfl, ?_⟩
            (try simp only [Act.put, List.setIfInBounds_toArray, List.set_cons_zero, List.set_cons_succ])
            refine lexT_hardL rfl ?_
            ((with_reducible refine' q_alloc ?_); refine' a_alloc HS ?_; clear HS; intro b12_ w_ HS)
            refine lexT_next (fun _ => HS.drop) ?_
            (try simp only [Act.put, List.setIfInBounds_toArray, List.set_cons_zero, List.set_cons_succ])
            refine lexT_hardL rfl ?_
            ((with_reducible refine' q_store ?_); refine' a_store HS ?_; clear HS; intro w_ HS)
            refine lexT_next (fun h => absurd h (by decide)) ?_
            (try simp only [Act.put, List.setIfInBounds_toArray, List.set_cons_zero, List.set_cons_succ])
            (first | exact lexT_end ⟨b12_, rfl, HS⟩ | exact lexT_end ⟨b12_, rfl, HS.perm (.swap _ _ _)⟩)
          · refine lexT_hardL rfl ?_
            ((with_reducible refine' q_alloc ?_); refine' a_alloc HS ?_; clear HS; intro b12_ w_ HS)
            refine lexT_next (fun _ => HS.drop) ?_
            (try simp only [Act.put, List.setIfInBounds_toArray, List.set_cons_zero, List.set_cons_succ])
            refine lexT_hardL rfl ?_
            refine' st_call ?hw Tryd.func136 (by kernel_rfl) rfl ?hargs (HS2.out _ HS.imm) ?_
            case hw => rfl
            case hargs => first | rfl | (go_simp; done)
            rintro e w_ ⟨rfl, hb_⟩
            (have HS_ := HS.call hb_; clear HS hb_; have HS := HS_; clear HS_)
            refine ⟨_, rfl, ?_⟩
            refine lexT_next (fun _ => HS.drop) ?_
            (try simp only [Act.put, List.setIfInBounds_toArray, List.set_cons_zero, List.set_cons_succ])
            refine lexT_soft ?_
            refine' a_dSoft rfl ?_
            refine ⟨rfl, ?_⟩
            (try simp only [Act.put, List.setIfInBounds_toArray, List.set_cons_zero, List.set_cons_succ])
            refine lexT_hardL rfl ?_
            ((with_reducible refine' q_store ?_); refine' a_store HS ?_; clear HS; intro w_ HS)
            refine lexT_next (fun h => absurd h (by decide)) ?_
            (try simp only [Act.put, List.setIfInBounds_toArray, List.set_cons_zero, List.set_cons_succ])
            (first | exact lexT_end ⟨b12_, rfl, HS⟩ | exact lexT_end ⟨b12_, rfl, HS.perm (.swap _ _ _)⟩)
        · refine lexT_hardL rfl ?_
          ((with_reducible refine' q_alloc ?_); refine' a_alloc HS ?_; clear HS; intro b12_ w_ HS)
          refine lexT_next (fun _ => HS.drop) ?_
          (try simp only [Act.put, List.setIfInBounds_toArray, List.set_cons_zero, List.set_cons_succ])
          refine lexT_hardL rfl ?_
          refine' st_call ?hw Tryd.func136 (by kernel_rfl) rfl ?hargs (HS1.out _ HS.imm) ?_
          case hw => rfl
          case hargs => first | rfl | (go_simp; done)
          rintro e w_ ⟨rfl, hb_⟩
          (have HS_ := HS.call hb_; clear HS hb_; have HS := HS_; clear HS_)
          refine ⟨_, rfl, ?_⟩
          refine lexT_next (fun _ => HS.drop) ?_
          (try simp only [Act.put, List.setIfInBounds_toArray, List.set_cons_zero, List.set_cons_succ])
          refine lexT_hardL rfl ?_
          refine' st_call ?hw Tryd.func136 (by kernel_rfl) rfl ?hargs (HS2.out _ HS.imm) ?_
          case hw => rfl
          case hargs => first | rfl | (go_simp; done)
          rintro e w_ ⟨rfl, hb_⟩
          (have HS_ := HS.call hb_; clear HS hb_; have HS := HS_; clear HS_)
          refine ⟨_, rfl, ?_⟩
          refine lexT_next (fun _ => HS.drop) ?_
          (try simp only [Act.put, List.setIfInBounds_toArray, List.set_cons_zero, List.set_cons_succ])
          refine lexT_soft ?_
          refine' a_dSoft rfl ?_
          refine ⟨rfl, ?_⟩
          (try simp only [Act.put, List.setIfInBounds_toArray, List.set_cons_zero, List.set_cons_succ])
          refine lexT_hardL rfl ?_
          ((with_reducible refine' q_store ?_); refine' a_store HS ?_; clear HS; intro w_ HS)
          refine lexT_next (fun h => absurd h (by decide)) ?_
          (try simp only [Act.put, List.setIfInBounds_toArray, List.set_cons_zero, List.set_cons_succ])
          (first | exact lexT_end ⟨b12_, rfl, HS⟩ | exact lexT_end ⟨b12_, rfl, HS.perm (.swap _ _ _)⟩)
      clear HS
      intro b12_ w_ HS
      go_wp2_with (first | ((with_reducible refine' q_alloc ?_); refine' a_alloc HS ?_; clear HS; intro b_ w_ HS) | ((with_reducible refine' q_box ?_); refine' a_box HS ?_; clear HS; intro b_ w_ HS) | ((with_reducible refine' q_load ?_); refine' a_load HS ?_) | ((with_reducible refine' q_store ?_); refine' a_store HS ?_; clear HS; intro w_ HS) | (go_at_call 134; (with_reducible refine (HVw.out _ HS.imm).mono ?_); rintro e w_ ⟨rfl, hb_⟩; have HS_ := HS.call hb_; clear HS hb_; have HS := HS_; clear HS_) | (go_at_call 138; (with_reducible refine (HT.out _).mono ?_); rintro e w_ ⟨rfl, rfl⟩))
      refine' wp_region_tree0 [0, 1, 2, 3, 4] (.two 0 (.two 1 (.one 2 (.one 3 (.one 4 .done))) 2 (.one 1 (.one 3 (.one 4 .done)))) 1 (.one 0 (.one 2 (.one 3 (.one 4 .done))))) (fun W_ => St _ _ W_ _ _) (by kernel_rfl) (by kernel_rfl) (by kernel_rfl) (by kernel_rfl) (HS).drew ?htree ?_
      case htree =>
        have HS_ := HS.drew; have HS := HS_; clear HS_
        refine ⟨?_, ?_⟩
        · refine lexT_hardL rfl ?_
          ((with_reducible refine' q_load ?_); refine' a_load HS ?_)
          refine lexT_next (fun h => absurd h (by decide)) ?_
          (try simp only [Act.put, List.setIfInBounds_toArray, List.set_cons_zero, List.set_cons_succ])
          refine ⟨?_, ?_⟩
          · refine lexT_hardL rfl ?_
            ((with_reducible refine' q_load ?_); refine' a_load HS ?_)
            refine lexT_next (fun h => absurd h (by decide)) ?_
            (try simp only [Act.put, List.setIfInBounds_toArray, List.set_cons_zero, List.set_cons_succ])
            refine lexT_hardL rfl ?_
            ((with_reducible refine' q_store ?_); refine' a_store HS ?_; clear HS; intro w_ HS)
            refine lexT_next (fun h => absurd h (by decide)) ?_
            (try simp only [Act.put, List.setIfInBounds_toArray, List.set_cons_zero, List.set_cons_succ])
            refine lexT_hardL rfl ?_
            ((with_reducible refine' q_store ?_); refine' a_store HS ?_; clear HS; intro w_ HS)
            refine lexT_next (fun h => absurd h (by decide)) ?_
            (try simp only [Act.put, List.setIfInBounds_toArray, List.set_cons_zero, List.set_cons_succ])
            refine lexT_hardL rfl ?_
            (refine' wpList_ok ?hw ?hrun ?_; (case hw => first | rfl | go_simp); (case hrun => first | (go_simp; done) | (go_simp; exact ⟨rfl, rfl⟩) | (go_simp; rfl)))
            refine lexT_next (fun h => absurd h (by decide)) ?_
            (try simp only [Act.put, List.setIfInBounds_toArray, List.set_cons_zero, List.set_cons_succ])
            (first | exact lexT_end ⟨rfl, HS⟩ | exact lexT_end ⟨rfl, HS.perm (.swap _ _ _)⟩)
          · refine lexT_hardL rfl ?_
            ((with_reducible refine' q_store ?_); refine' a_store HS ?_; clear HS; intro w_ HS)
            refine lexT_next (fun h => absurd h (by decide)) ?_
            (try simp only [Act.put, List.setIfInBounds_toArray, List.set_cons_zero, List.set_cons_succ])
            refine lexT_hardL rfl ?_
            ((with_reducible refine' q_load ?_); refine' a_load HS ?_)
            refine lexT_next (fun h => absurd h (by decide)) ?_
            (try simp only [Act.put, List.setIfInBounds_toArray, List.set_cons_zero, List.set_cons_succ])
            refine lexT_hardL rfl ?_
            ((with_reducible refine' q_store ?_); refine' a_store HS ?_; clear HS; intro w_ HS)
            refine lexT_next (fun h => absurd h (by decide)) ?_
            (try simp only [Act.put, List.setIfInBounds_toArray, List.set_cons_zero, List.set_cons_succ])
            refine lexT_hardL rfl ?_
            (refine' wpList_ok ?hw ?hrun ?_; (case hw => first | rfl | go_simp); (case hrun => first | (go_simp; done) | (go_simp; exact ⟨rfl, rfl⟩) | (go_simp; rfl)))
            refine lexT_next (fun h => absurd h (by decide)) ?_
            (try simp only [Act.put, List.setIfInBounds_toArray, List.set_cons_zero, List.set_cons_succ])
            (first | exact lexT_end ⟨rfl, HS⟩ | exact lexT_end ⟨rfl, HS.perm (.swap _ _ _)⟩)
        · refine lexT_hardL rfl ?_
          ((with_reducible refine' q_load ?_); refine' a_load HS ?_)
          refine lexT_next (fun h => absurd h (by decide)) ?_
          (try simp only [Act.put, List.setIfInBounds_toArray, List.set_cons_zero, List.set_cons_succ])
          refine lexT_hardL rfl ?_
          ((with_reducible refine' q_load ?_); refine' a_load HS ?_)
          refine lexT_next (fun h => absurd h (by decide)) ?_
          (try simp only [Act.put, List.setIfInBounds_toArray, List.set_cons_zero, List.set_cons_succ])
          refine lexT_hardL rfl ?_
          ((with_reducible refine' q_store ?_); refine' a_store HS ?_; clear HS; intro w_ HS)
          refine lexT_next (fun h => absurd h (by decide)) ?_
          (try simp only [Act.put, List.setIfInBounds_toArray, List.set_cons_zero, List.set_cons_succ])
          refine lexT_hardL rfl ?_
          ((with_reducible refine' q_store ?_); refine' a_store HS ?_; clear HS; intro w_ HS)
          refine lexT_next (fun h => absurd h (by decide)) ?_
          (try simp only [Act.put, List.setIfInBounds_toArray, List.set_cons_zero, List.set_cons_succ])
          refine lexT_hardL rfl ?_
          (refine' wpList_ok ?hw ?hrun ?_; (case hw => first | rfl | go_simp); (case hrun => first | (go_simp; done) | (go_simp; exact ⟨rfl, rfl⟩) | (go_simp; rfl)))
          refine lexT_next (fun h => absurd h (by decide)) ?_
          (try simp only [Act.put, List.setIfInBounds_toArray, List.set_cons_zero, List.set_cons_succ])
          (first | exact lexT_end ⟨rfl, HS⟩ | exact lexT_end ⟨rfl, HS.perm (.swap _ _ _)⟩)
      clear HS
      intro  w_ HS
      go_wp2_with (first | ((with_reducible refine' q_alloc ?_); refine' a_alloc HS ?_; clear HS; intro b_ w_ HS) | ((with_reducible refine' q_box ?_); refine' a_box HS ?_; clear HS; intro b_ w_ HS) | ((with_reducible refine' q_load ?_); refine' a_load HS ?_) | ((with_reducible refine' q_store ?_); refine' a_store HS ?_; clear HS; intro w_ HS))
      (refine post_cell_cell_tmp (p := 4) (T := 87) (p2 := 5) (T2 := 85) rfl HS rfl rfl rfl (by (first | (apply Blk.loc; (repeat (first | (with_reducible exact List.mem_cons_self) | apply List.mem_cons_of_mem)); done) | (apply Blk.imm; with_reducible assumption))) (by (first | (apply Blk.loc; (repeat (first | (with_reducible exact List.mem_cons_self) | apply List.mem_cons_of_mem)); done) | (apply Blk.imm; with_reducible assumption))) (by exact Eq.refl true) (by exact Eq.refl true) ?_)
      exact ⟨rfl, HS.below⟩
    · rw [if_neg (by omega)] at ht
      subst ht
      clear lc
      (have HS := St.start hi; go_enter Tryd.func131, Tryd.ntmps131)
      go_wp2_with (first | ((with_reducible refine' q_alloc ?_); refine' a_alloc HS ?_; clear HS; intro b_ w_ HS) | ((with_reducible refine' q_box ?_); refine' a_box HS ?_; clear HS; intro b_ w_ HS) | ((with_reducible refine' q_load ?_); refine' a_load HS ?_) | ((with_reducible refine' q_store ?_); refine' a_store HS ?_; clear HS; intro w_ HS) | (go_at_call 134; (with_reducible refine (HVa.out _ HS.imm).mono ?_); rintro e w_ ⟨rfl, hb_⟩; have HS_ := HS.call hb_; clear HS hb_; have HS := HS_; clear HS_) | (go_at_call 134; (with_reducible refine (HVb.out _ HS.imm).mono ?_); rintro e w_ ⟨rfl, hb_⟩; have HS_ := HS.call hb_; clear HS hb_; have HS := HS_; clear HS_) | (go_at_call 135; (with_reducible refine (HSe.out _ HS.imm).mono ?_); rintro e w_ ⟨rfl, hb_⟩; have HS_ := HS.call hb_; clear HS hb_; have HS := HS_; clear HS_))
      refine' wp_region_tree1 [13] (.soft 0 (.soft 1 (.soft 2 (.soft 3 (.soft 5 (.soft 7 (.soft 8 (.soft 9 (.soft 10 (.two 4 (.two 6 (.soft 11 (.one 12 (.one 13 .done))) 12 (.one 6 (.soft 11 (.one 13 .done)))) 12 (.one 4 (.one 6 (.soft 11 (.one 13 .done)))))))))))))) (fun W_ => St _ _ W_ _ _) (by kernel_rfl) (by kernel_rfl) (by kernel_rfl) (by kernel_rfl) (HS).drew ?htree ?_
      case htree =>
        have HS_ := HS.drew; have HS := HS_; clear HS_
        refine lexT_soft ?_
        refine' a_dSoft rfl ?_
        refine ⟨rfl, ?_⟩
        (try simp only [Act.put, List.setIfInBounds_toArray, List.set_cons_zero, List.set_cons_succ])
        refine lexT_soft ?_
        (first | refine' a_dLoad rfl (fun w_ hw_ => hw_) ?_ | refine' a_dLoadC rfl (fun w_ hw_ => hw_) ?_)
        refine ⟨rfl, ?_⟩
        (try simp only [Act.put, List.setIfInBounds_toArray, List.set_cons_zero, List.set_cons_succ])
        refine lexT_soft ?_
        refine' a_dSoft rfl ?_
        refine ⟨rfl, ?_⟩
        (try simp only [Act.put, List.setIfInBounds_toArray, List.set_cons_zero, List.set_cons_succ])
        refine lexT_soft ?_
        (first | refine' a_dLoad rfl (fun w_ hw_ => hw_) ?_ | refine' a_dLoadC rfl (fun w_ hw_ => hw_) ?_)
        refine ⟨rfl, ?_⟩
        (try simp only [Act.put, List.setIfInBounds_toArray, List.set_cons_zero, List.set_cons_succ])
        refine lexT_soft ?_
        (first | refine' a_dLoad rfl (fun w_ hw_ => hw_) ?_ | refine' a_dLoadC rfl (fun w_ hw_ => hw_) ?_)
        refine ⟨rfl, ?_⟩
        (try simp only [Act.put, List.setIfInBounds_toArray, List.set_cons_zero, List.set_cons_succ])
        refine lexT_soft ?_
        refine' a_dSoft rfl ?_
        refine ⟨rfl, ?_⟩
        (try simp only [Act.put, List.setIfInBounds_toArray, List.set_cons_zero, List.set_cons_succ])
        refine lexT_soft ?_
        (first | refine' a_dLoad rfl (fun w_ hw_ => hw_) ?_ | refine' a_dLoadC rfl (fun w_ hw_ => hw_) ?_)
        refine ⟨rfl, ?_⟩
        (try simp only [Act.put, List.setIfInBounds_toArray, List.set_cons_zero, List.set_cons_succ])
        refine lexT_soft ?_
        refine' a_dSoft rfl ?_
        refine ⟨rfl, ?_⟩
        (try simp only [Act.put, List.setIfInBounds_toArray, List.set_cons_zero, List.set_cons_succ])
        refine lexT_soft ?_
        (first | refine' a_dLoad rfl (fun w_ hw_ => hw_) ?_ | refine' a_dLoadC rfl (fun w_ hw_ => hw_) ?_)
        refine ⟨rfl, ?_⟩
        (try simp only [Act.put, List.setIfInBounds_toArray, List.set_cons_zero, List.set_cons_succ])
        refine ⟨?_, ?_⟩
        · refine lexT_hardL rfl ?_
          refine' st_call ?hw Tryd.func136 (by kernel_rfl) rfl ?hargs (HS1.out _ HS.imm) ?_
          case hw => rfl
          case hargs => first | rfl | (go_simp; done)
          rintro e w_ ⟨rfl, hb_⟩
          (have HS_ := HS.call hb_; clear HS hb_; have HS := HS_; clear HS_)
          refine ⟨_, rfl, ?_⟩
          refine lexT_next (fun _ => HS) ?_
          (try simp only [Act.put, List.setIfInBounds_toArray, List.set_cons_zero, List.set_cons_succ])
          refine ⟨?_, ?_⟩
          · refine lexT_hardL rfl ?_
            refine' st_call ?hw Tryd.func136 (by kernel_rfl) rfl ?hargs (HS2.out _ HS.imm) ?_
            case hw => rfl
            case hargs => first | rfl | (go_simp; done)
            rintro e w_ ⟨rfl, hb_⟩
            (have HS_ := HS.call hb_; clear HS hb_; have HS := HS_; clear HS_)
            refine ⟨_, rfl, ?_⟩
            refine lexT_next (fun _ => HS) ?_
            (try simp only [Act.put, List.setIfInBounds_toArray, List.set_cons_zero, List.set_cons_succ])
            refine lexT_soft ?_
            refine' a_dSoft rfl ?_
            refine ⟨rfl, ?_⟩
            (try simp only [Act.put, List.setIfInBounds_toArray, List.set_cons_zero, List.set_cons_succ])
            refine lexT_hardL rfl ?_
            ((with_reducible refine' q_alloc ?_); refine' a_alloc HS ?_; clear HS; intro b12_ w_ HS)
            refine lexT_next (fun _ => HS.drop) ?_
            (try simp only [Act.put, List.setIfInBounds_toArray, List.set_cons_zero, List.set_cons_succ])
            refine lexT_hardL rfl ?_
            ((with_reducible refine' q_store ?_); refine' a_store HS ?_; clear HS; intro w_ HS)
            refine lexT_next (fun h => absurd h (by decide)) ?_
            (try simp only [Act.put, List.setIfInBounds_toArray, List.set_cons_zero, List.set_cons_succ])
            (first | exact lexT_end ⟨b12_, rfl, HS⟩ | exact lexT_end ⟨b12_, rfl, HS.perm (.swap _ _ _)⟩)
          · refine lexT_hardL rfl ?_
            ((with_reducible refine' q_alloc ?_); refine' a_alloc HS ?_; clear HS; intro b12_ w_ HS)
            refine lexT_next (fun _ => HS.drop) ?_
            (try simp only [Act.put, List.setIfInBounds_toArray, List.set_cons_zero, List.set_cons_succ])
            refine lexT_hardL rfl ?_
            refine' st_call ?hw Tryd.func136 (by kernel_rfl) rfl ?hargs (HS2.out _ HS.imm) ?_
            case hw => rfl
            case hargs => first | rfl | (go_simp; done)
            rintro e w_ ⟨rfl, hb_⟩
            (have HS_ := HS.call hb_; clear HS hb_; have HS := HS_; clear HS_)
            refine ⟨_, rfl, ?_⟩
            refine lexT_next (fun _ => HS.drop) ?_
            (try simp only [Act.put, List.setIfInBounds_toArray, List.set_cons_zero, List.set_cons_succ])
            refine lexT_soft ?_
            refine' a_dSoft rfl ?_
            refine ⟨rfl, ?_⟩
            (try simp only [Act.put, List.setIfInBounds_toArray, List.set_cons_zero, List.set_cons_succ])
            refine lexT_hardL rfl ?_
            ((with_reducible refine' q_store ?_); refine' a_store HS ?_; clear HS; intro w_ HS)
            refine lexT_next (fun h => absurd h (by decide)) ?_
            (try simp only [Act.put, List.setIfInBounds_toArray, List.set_cons_zero, List.set_cons_succ])
            (first | exact lexT_end ⟨b12_, rfl, HS⟩ | exact lexT_end ⟨b12_, rfl, HS.perm (.swap _ _ _)⟩)
        · refine lexT_hardL rfl ?_
          ((with_reducible refine' q_alloc ?_); refine' a_alloc HS ?_; clear HS; intro b12_ w_ HS)
          refine lexT_next (fun _ => HS.drop) ?_
          (try simp only [Act.put, List.setIfInBounds_toArray, List.set_cons_zero, List.set_cons_succ])
          refine lexT_hardL rfl ?_
          refine' st_call ?hw Tryd.func136 (by kernel_rfl) rfl ?hargs (HS1.out _ HS.imm) ?_
          case hw => rfl
          case hargs => first | rfl | (go_simp; done)
          rintro e w_ ⟨rfl, hb_⟩
          (have HS_ := HS.call hb_; clear HS hb_; have HS := HS_; clear HS_)
          refine ⟨_, rfl, ?_⟩
          refine lexT_next (fun _ => HS.drop) ?_
          (try simp only [Act.put, List.setIfInBounds_toArray, List.set_cons_zero, List.set_cons_succ])
          refine lexT_hardL rfl ?_
          refine' st_call ?hw Tryd.func136 (by kernel_rfl) rfl ?hargs (HS2.out _ HS.imm) ?_
          case hw => rfl
          case hargs => first | rfl | (go_simp; done)
          rintro e w_ ⟨rfl, hb_⟩
          (have HS_ := HS.call hb_; clear HS hb_; have HS := HS_; clear HS_)
          refine ⟨_, rfl, ?_⟩
          refine lexT_next (fun _ => HS.drop) ?_
          (try simp only [Act.put, List.setIfInBounds_toArray, List.set_cons_zero, List.set_cons_succ])
          refine lexT_soft ?_
          refine' a_dSoft rfl ?_
          refine ⟨rfl, ?_⟩
          (try simp only [Act.put, List.setIfInBounds_toArray, List.set_cons_zero, List.set_cons_succ])
          refine lexT_hardL rfl ?_
          ((with_reducible refine' q_store ?_); refine' a_store HS ?_; clear HS; intro w_ HS)
          refine lexT_next (fun h => absurd h (by decide)) ?_
          (try simp only [Act.put, List.setIfInBounds_toArray, List.set_cons_zero, List.set_cons_succ])
          (first | exact lexT_end ⟨b12_, rfl, HS⟩ | exact lexT_end ⟨b12_, rfl, HS.perm (.swap _ _ _)⟩)
      clear HS
      intro b12_ w_ HS
      go_wp2_with (first | ((with_reducible refine' q_alloc ?_); refine' a_alloc HS ?_; clear HS; intro b_ w_ HS) | ((with_reducible refine' q_box ?_); refine' a_box HS ?_; clear HS; intro b_ w_ HS) | ((with_reducible refine' q_load ?_); refine' a_load HS ?_) | ((with_reducible refine' q_store ?_); refine' a_store HS ?_; clear HS; intro w_ HS) | (go_at_call 134; (with_reducible refine (HVw.out _ HS.imm).mono ?_); rintro e w_ ⟨rfl, hb_⟩; have HS_ := HS.call hb_; clear HS hb_; have HS := HS_; clear HS_))
      refine' wp_region_tree0 [0, 1, 2, 3, 4] (.two 0 (.two 1 (.one 2 (.one 3 (.one 4 .done))) 2 (.one 1 (.one 3 (.one 4 .done)))) 1 (.one 0 (.one 2 (.one 3 (.one 4 .done))))) (fun W_ => St _ _ W_ _ _) (by kernel_rfl) (by kernel_rfl) (by kernel_rfl) (by kernel_rfl) (HS).drew ?htree ?_
      case htree =>
        have HS_ := HS.drew; have HS := HS_; clear HS_
        refine ⟨?_, ?_⟩
        · refine lexT_hardL rfl ?_
          ((with_reducible refine' q_load ?_); refine' a_load HS ?_)
          refine lexT_next (fun h => absurd h (by decide)) ?_
          (try simp only [Act.put, List.setIfInBounds_toArray, List.set_cons_zero, List.set_cons_succ])
          refine ⟨?_, ?_⟩
          · refine lexT_hardL rfl ?_
            ((with_reducible refine' q_load ?_); refine' a_load HS ?_)
            refine lexT_next (fun h => absurd h (by decide)) ?_
            (try simp only [Act.put, List.setIfInBounds_toArray, List.set_cons_zero, List.set_cons_succ])
            refine lexT_hardL rfl ?_
            ((with_reducible refine' q_store ?_); refine' a_store HS ?_; clear HS; intro w_ HS)
            refine lexT_next (fun h => absurd h (by decide)) ?_
            (try simp only [Act.put, List.setIfInBounds_toArray, List.set_cons_zero, List.set_cons_succ])
            refine lexT_hardL rfl ?_
            ((with_reducible refine' q_store ?_); refine' a_store HS ?_; clear HS; intro w_ HS)
            refine lexT_next (fun h => absurd h (by decide)) ?_
            (try simp only [Act.put, List.setIfInBounds_toArray, List.set_cons_zero, List.set_cons_succ])
            refine lexT_hardL rfl ?_
            (refine' wpList_ok ?hw ?hrun ?_; (case hw => first | rfl | go_simp); (case hrun => first | (go_simp; done) | (go_simp; exact ⟨rfl, rfl⟩) | (go_simp; rfl)))
            refine lexT_next (fun h => absurd h (by decide)) ?_
            (try simp only [Act.put, List.setIfInBounds_toArray, List.set_cons_zero, List.set_cons_succ])
            (first | exact lexT_end ⟨rfl, HS⟩ | exact lexT_end ⟨rfl, HS.perm (.swap _ _ _)⟩)
          · refine lexT_hardL rfl ?_
            ((with_reducible refine' q_store ?_); refine' a_store HS ?_; clear HS; intro w_ HS)
            refine lexT_next (fun h => absurd h (by decide)) ?_
            (try simp only [Act.put, List.setIfInBounds_toArray, List.set_cons_zero, List.set_cons_succ])
            refine lexT_hardL rfl ?_
            ((with_reducible refine' q_load ?_); refine' a_load HS ?_)
            refine lexT_next (fun h => absurd h (by decide)) ?_
            (try simp only [Act.put, List.setIfInBounds_toArray, List.set_cons_zero, List.set_cons_succ])
            refine lexT_hardL rfl ?_
            ((with_reducible refine' q_store ?_); refine' a_store HS ?_; clear HS; intro w_ HS)
            refine lexT_next (fun h => absurd h (by decide)) ?_
            (try simp only [Act.put, List.setIfInBounds_toArray, List.set_cons_zero, List.set_cons_succ])
            refine lexT_hardL rfl ?_
            (refine' wpList_ok ?hw ?hrun ?_; (case hw => first | rfl | go_simp); (case hrun => first | (go_simp; done) | (go_simp; exact ⟨rfl, rfl⟩) | (go_simp; rfl)))
            refine lexT_next (fun h => absurd h (by decide)) ?_
            (try simp only [Act.put, List.setIfInBounds_toArray, List.set_cons_zero, List.set_cons_succ])
            (first | exact lexT_end ⟨rfl, HS⟩ | exact lexT_end ⟨rfl, HS.perm (.swap _ _ _)⟩)
        · refine lexT_hardL rfl ?_
          ((with_reducible refine' q_load ?_); refine' a_load HS ?_)
          refine lexT_next (fun h => absurd h (by decide)) ?_
          (try simp only [Act.put, List.setIfInBounds_toArray, List.set_cons_zero, List.set_cons_succ])
          refine lexT_hardL rfl ?_
          ((with_reducible refine' q_load ?_); refine' a_load HS ?_)
          refine lexT_next (fun h => absurd h (by decide)) ?_
          (try simp only [Act.put, List.setIfInBounds_toArray, List.set_cons_zero, List.set_cons_succ])
          refine lexT_hardL rfl ?_
          ((with_reducible refine' q_store ?_); refine' a_store HS ?_; clear HS; intro w_ HS)
          refine lexT_next (fun h => absurd h (by decide)) ?_
          (try simp only [Act.put, List.setIfInBounds_toArray, List.set_cons_zero, List.set_cons_succ])
          refine lexT_hardL rfl ?_
          ((with_reducible refine' q_store ?_); refine' a_store HS ?_; clear HS; intro w_ HS)
          refine lexT_next (fun h => absurd h (by decide)) ?_
          (try simp only [Act.put, List.setIfInBounds_toArray, List.set_cons_zero, List.set_cons_succ])
          refine lexT_hardL rfl ?_
          (refine' wpList_ok ?hw ?hrun ?_; (case hw => first | rfl | go_simp); (case hrun => first | (go_simp; done) | (go_simp; exact ⟨rfl, rfl⟩) | (go_simp; rfl)))
          refine lexT_next (fun h => absurd h (by decide)) ?_
          (try simp only [Act.put, List.setIfInBounds_toArray, List.set_cons_zero, List.set_cons_succ])
          (first | exact lexT_end ⟨rfl, HS⟩ | exact lexT_end ⟨rfl, HS.perm (.swap _ _ _)⟩)
      clear HS
      intro  w_ HS
      go_wp2_with (first | ((with_reducible refine' q_alloc ?_); refine' a_alloc HS ?_; clear HS; intro b_ w_ HS) | ((with_reducible refine' q_box ?_); refine' a_box HS ?_; clear HS; intro b_ w_ HS) | ((with_reducible refine' q_load ?_); refine' a_load HS ?_) | ((with_reducible refine' q_store ?_); refine' a_store HS ?_; clear HS; intro w_ HS))
      (refine post_cell_cell_tmp (p := 4) (T := 87) (p2 := 5) (T2 := 85) rfl HS rfl rfl rfl (by (first | (apply Blk.loc; (repeat (first | (with_reducible exact List.mem_cons_self) | apply List.mem_cons_of_mem)); done) | (apply Blk.imm; with_reducible assumption))) (by (first | (apply Blk.loc; (repeat (first | (with_reducible exact List.mem_cons_self) | apply List.mem_cons_of_mem)); done) | (apply Blk.imm; with_reducible assumption))) (by exact Eq.refl true) (by exact Eq.refl true) ?_)
      exact ⟨rfl, HS.below⟩
end Go.Proofs.YtbogoehjoglneaaDoor

/- weld.Join of the measures of bytes is the measure of the bytes joined. -/
namespace Go.Proofs.YtbogoehjoglneaaDoor
open Go.RowKit
set_option linter.unusedVariables false
set_option linter.unusedSimpArgs false
set_option maxRecDepth 100000
attribute [local go_sem] byt_drop byt_tail Int.toNat_natCast sOf_size sOf_append

theorem head_join (a b : List UInt8) : (a ++ b).take 3 = if a.length < 3 then (a.take 3 ++ b.take 3).take 3 else a.take 3 := by
  by_cases h : a.length < 3
  · rw [if_pos h, List.take_of_length_le (l := a) (by omega), List.take_append, List.take_append, List.take_take]
    congr 2; omega
  · rw [if_neg h, List.take_append_of_le_length (by omega)]
theorem tail_join (a b : List UInt8) : (a ++ b).drop ((a ++ b).length - 3) =
    if b.length < 3 then (a.drop (a.length - 3) ++ b.drop (b.length - 3)).drop ((a.drop (a.length - 3) ++ b.drop (b.length - 3)).length - 3) else b.drop (b.length - 3) := by
  by_cases h : b.length < 3
  · rw [if_pos h]
    have e : b.drop (b.length - 3) = b := by rw [show b.length - 3 = 0 from by omega]; rfl
    rw [e]
    have e2 : a.drop (a.length - 3) ++ b = (a ++ b).drop (a.length - 3) := (List.drop_append_of_le_length (by omega)).symm
    rw [e2, List.drop_drop, List.length_drop]
    congr 1
    simp only [List.length_append]
    omega
  · rw [if_neg h, List.drop_append, List.drop_of_length_le (by simp only [List.length_append]; omega), List.nil_append]
    congr 1
    simp only [List.length_append]
    omega

theorem getLast_tail (a : List UInt8) : (a.drop (a.length - 3)).getLast? = a.getLast? := by
  rw [List.getLast?_eq_getElem?, List.getLast?_eq_getElem?, List.getElem?_drop, List.length_drop]
  by_cases h : a = []
  · subst h; rfl
  · have := List.length_pos_iff.2 h
    congr 1; omega

theorem seam_any (M : Mem) (hG : Gl M) (a b : List UInt8) (w : World) (hi : Imm M w) :
    Calls Tryd.prog 135 #[weldV a, weldV b] w fun e w' => e = .returned (seamVal a b) ∧ Below w.heap.size w w' := by
  have hl : (a.drop (a.length - 3)).length = min 3 a.length := by rw [List.length_drop]; omega
  have hh : (b.take 3).length = min 3 b.length := List.length_take
  refine seam_gen M hG (a.drop (a.length - 3)) (b.take 3) (by omega) (by omega) (seamK a b) (seamE a b) (seamV a b) ?_ (fun h => ?_) (fun k j h1 h2 h3 h4 => ?_) _ _ _ _ _ _ _ _ _ _ _ _ _ ?_ ?_ ?_ w hi
  · by_cases hk : seamK a b = 0
    · unfold seamV; rw [if_pos hk]; omega
    · have h := val_big ((a ++ b).drop (a.length - seamK a b))
      have h4 := enc_le ((a ++ b).drop (a.length - seamK a b))
      have hb := seam_bounds hk
      unfold seamE at hb
      unfold seamV; rw [if_neg hk]
      omega
  · have := seam_bounds h
    omega
  · rw [tl_drop a k (by omega) (by omega), List.take_take, show min j 3 = j from by omega]
    exact seam_value a b k j h1 (by omega) h3 (by omega)
  · unfold seamR; split <;> rfl
  · unfold seamR; split <;> rfl
  · rw [getLast_tail]
    unfold seamN
    have e1 : (b.take 3).head? = b.head? := by cases b <;> rfl
    have e2 : (a.getLast?.map UInt8.toNat = some 13) = (a.getLast? = some 13) := by
      cases a.getLast? with
      | none => simp
      | some x =>
        simp only [Option.map_some, Option.some.injEq, eq_iff_iff, ← UInt8.toNat_inj]
        rfl
    rw [e1]
    have e3 : (a.getLast? = some 13 ∧ b.head? = some 10) ↔ (a.getLast?.map UInt8.toNat = some 13 ∧ b.head? = some 10) := by rw [e2]
    by_cases hc : a.getLast? = some 13 ∧ b.head? = some 10
    · rw [if_pos hc, if_pos (e3.1 hc)]
    · rw [if_neg hc, if_neg (fun h => hc (e3.2 h))]

theorem measure_join (a b : List UInt8) : runesN (a ++ b) + (seamR a b).1 = runesN a + runesN b ∧ unitsN (a ++ b) + (seamR a b).2 = unitsN a + unitsN b ∧ endsN false (a ++ b) + seamN a b = endsN false a + endsN false b := by
  refine ⟨?_, ?_, ends_meet a b⟩
  · have h := S_meet (fun _ => 1) a b
    unfold runesN seamR
    by_cases hk : seamK a b = 0
    · rw [if_neg (by simpa using hk), h.1 hk]; omega
    · have := h.2 hk
      have hb := seam_bounds hk
      rw [if_pos hk]
      unfold seamE seamK at *
      omega
  · have h := S_meet (fun s => uOf s.r) a b
    unfold unitsN seamR
    by_cases hk : seamK a b = 0
    · rw [if_neg (by simpa using hk), h.1 hk]; omega
    · have h2 := h.2 hk
      have hb := seam_bounds hk
      rw [if_pos hk]
      have e : stp ((a ++ b).drop (a.length - seamK a b)) = ⟨seamV a b, seamE a b, true⟩ := by
        unfold seamV; rw [if_neg hk]; exact stp_enc_pos (by unfold seamE at hb; omega)
      have hu : 1 ≤ uOf (seamV a b) ∧ uOf (seamV a b) ≤ 2 := by unfold uOf; split <;> omega
      have hbad : uOf bad.r = 1 := rfl
      have h3 : S (fun s => uOf s.r) (a ++ b) + seamE a b * 1 = S (fun s => uOf s.r) a + S (fun s => uOf s.r) b + uOf (seamV a b) := by
        have e' : uOf (stp ((a ++ b).drop (a.length - inside (a ++ b) a.length))).r = uOf (seamV a b) := congrArg (fun s => uOf s.r) e
        rw [e'] at h2
        exact h2
      simp only
      omega

theorem both_any (M : Mem) (hG : Gl M) (a b : List UInt8) (hm : ((a.length + b.length : Nat) : Int) ≤ 268435456) (w : World) (hi : Imm M w) :
    Calls Tryd.prog 131 #[weldV a, weldV b] w fun e w' => e = .returned (.tuple #[weldV (a ++ b), seamVal a b, .int .i64 0]) ∧ Below w.heap.size w w' := by
  have ha := measure_ok a
  have hb := measure_ok b
  have hj := measure_join a b
  refine both_gen M _ _ _ _ _ _ _ _ _ _ _ _ _ _ _ _ _ _ _ _ _ (fun w hi => Valid_any M hG a (by omega) w hi) (fun w hi => Valid_any M hG b (by omega) w hi) (fun w hi => Valid_any M hG (a ++ b) (by rw [List.length_append]; omega) w hi)
    (fun w hi => seam_any M hG a b w hi) List.length_append (by rw [List.length_append]; omega) hj.1 hj.2.1 hj.2.2 (by omega) (by omega) (by omega) (by omega) (by omega) (by omega) ?_ ?_ ?_ ?_ ?_ ?_ w hi
  · rw [List.length_take]; omega
  · rw [List.length_take]; omega
  · rw [List.length_drop]; omega
  · rw [List.length_drop]; omega
  · exact head_join a b
  · exact tail_join a b

theorem Join_gen (M : Mem) (x1 x2 x3 x4 y1 y2 y3 y4 z1 z2 z3 z4 : Nat) (h1 t1 h2 t2 h3 t3 : List UInt8) (s1 s2 s3 s4 : Int)
    (hB : ∀ w, Imm M w → Calls Tryd.prog 131 #[wv x1 x2 x3 x4 h1 t1, wv y1 y2 y3 y4 h2 t2] w fun e w' => e = .returned (.tuple #[wv z1 z2 z3 z4 h3 t3, .agg #[.int .i64 s1, .int .i64 s2, .int .i64 s3, .int .i64 s4], .int .i64 0]) ∧ Below w.heap.size w w') (w : World) (hi : Imm M w) :
    Calls Tryd.prog 122 #[wv x1 x2 x3 x4 h1 t1, wv y1 y2 y3 y4 h2 t2] w fun e w' => e = .returned (.tuple #[wv z1 z2 z3 z4 h3 t3, .int .i64 0]) ∧ Below w.heap.size w w' := by
  have HB := Lib.hid hB; clear hB
  (have HS := St.start hi; go_enter Tryd.func122, Tryd.ntmps122)
  go_wp2_with (first | ((with_reducible refine' q_alloc ?_); refine' a_alloc HS ?_; clear HS; intro b_ w_ HS) | ((with_reducible refine' q_box ?_); refine' a_box HS ?_; clear HS; intro b_ w_ HS) | ((with_reducible refine' q_load ?_); refine' a_load HS ?_) | ((with_reducible refine' q_store ?_); refine' a_store HS ?_; clear HS; intro w_ HS) | (go_at_call 131; (with_reducible refine (HB.out _ HS.imm).mono ?_); rintro e w_ ⟨rfl, hb_⟩; have HS_ := HS.call hb_; clear HS hb_; have HS := HS_; clear HS_))
  (refine post_cell_tmp (p := 4) (T := 87) rfl HS rfl rfl (by (first | (apply Blk.loc; (repeat (first | (with_reducible exact List.mem_cons_self) | apply List.mem_cons_of_mem)); done) | (apply Blk.imm; with_reducible assumption))) (by exact Eq.refl true) ?_)
  exact ⟨rfl, HS.below⟩

theorem Join_any (M : Mem) (hG : Gl M) (a b : List UInt8) (hm : ((a.length + b.length : Nat) : Int) ≤ 268435456) (w : World) (hi : Imm M w) :
    Calls Tryd.prog 122 #[weldV a, weldV b] w fun e w' => e = .returned (.tuple #[weldV (a ++ b), .int .i64 0]) ∧ Below w.heap.size w w' :=
  Join_gen M _ _ _ _ _ _ _ _ _ _ _ _ _ _ _ _ _ _ _ _ _ _ (fun w hi => both_any M hG a b hm w hi) w hi
end Go.Proofs.YtbogoehjoglneaaDoor
