/- Ranging over an iterator within an iterator that yields in its rounds; yields within a round; a loop within a round. -/
import Derived.LoopNIn
import Derived.Test.YtbogoehjoglneaaDoorM1
import Derived.Test.YtbogoehjoglneaaDoorM8
import Derived.Test.YtbogoehjoglneaaDoorM12
set_option linter.unusedVariables false
set_option linter.unusedSimpArgs false
set_option linter.unnecessarySimpa false
set_option linter.unusedSectionVars false
namespace Go.Proofs.YtbogoehjoglneaaDoor
open Go.RowKit

theorem wpIn_loop_i {r : Option Nat} {P : Program} {Q : Exit → Act → World → Prop} {a : Act} {w : World} {c : Code} {σ : Type} (I : σ → Act → World → Prop) (μ : σ → Nat) (s : σ) (h₀ : I s a w)
    (round : ∀ J : σ → Act → World → Prop, (∀ s a w, I s a w → J s a w) → ∀ s a w, I s a w → c.wpIn (Wide r) 0 P (Exit.then (fun a' w' => ∃ s', J s' a' w' ∧ μ s' < μ s) Q) a w) : (Code.loop c).wpIn (Wide r) 0 P Q a w := by
  have key : ∀ n s a w, μ s < n → I s a w → Code.roundsIn (Wide r) 0 P c Q n a w := by
    intro n
    induction n with
    | zero => intro s a w h; omega
    | succ n ih =>
      intro s a w hn hI
      rw [roundsIn_succ]
      refine Code.wpIn_mono (fun e a' w' h => ?_) (round I (fun _ _ _ h => h) s a w hI)
      cases e with
      | normal =>
        obtain ⟨s', h1, h2⟩ := h
        exact ih s' a' w' (by omega) h1
      | _ => exact h
  exact wpIn_loop_rounds _ (key (μ s + 1) s a w (by omega) h₀)

theorem wpIn_region_yield {r : Option Nat} {P : Program} {id : Nat} {l : List Oper} {Q : Exit → Act → World → Prop} {a : Act} {w : World} (k : Nat) (hd : noDefers l = true) (hno : ¬ LetsOut Q)
    (h : ∀ K : Act → World → Prop, (∀ a w, wpListIn (Wide r) 0 P l.toArray Q (l.drop k) a w → K a w) → wpList P l.toArray (Exit.then K Q) (l.take k) a w) : (Code.region id l.toArray false).wpIn (Wide r) 0 P Q a w := by
  refine wpIn_region_lit ?_
  have := wpListIn_of (r := r) hno (fun a w h => h) (l.take k) a w (by
    unfold noDefers at hd ⊢
    rw [List.all_eq_true] at hd ⊢
    exact fun o ho => hd o (List.mem_of_mem_take ho)) (h _ fun _ _ h => h)
  rwa [List.take_append_drop] at this

theorem st_yieldIn {r : Option Nat} {P : Program} {ops : Array Oper} {rest : List Oper} {Q : Exit → Act → World → Prop} {a : Act} {w : World} {d : Option Tmp} {x : Operand} {l : Nat} {xs : Array Operand} {ts : Array TypeId} {ty : TypeId} {ps : String} {af : Array Edge} {g : Option (Nat × Bool)} {R : Ending → World → Prop} {vs : Array Value}
    (hw : Region.wanted { dst := d, op := .call { callee := .value x, args := xs, argTypes := ts }, type := ty, pos := ps, after := af, guard := g } (yielded ops a.tmps) = true)
    (hx : a.eval x = .func (.yield l) #[] #[]) (hargs : xs.map a.eval = vs) (hd : noDefers rest = true) (hno : ¬ LetsOut Q)
    (hy : YieldAt Fence.wide 0 P l vs w R) (k : ∀ e w', R e w' → ∃ v, e = .returned v ∧ wpList P ops Q rest (a.put d v) w') :
    wpListIn (Wide r) 0 P ops Q ({ dst := d, op := .call { callee := .value x, args := xs, argTypes := ts }, type := ty, pos := ps, after := af, guard := g } :: rest) a w := by
  unfold wpListIn
  rw [if_pos hw]
  obtain ⟨fn, tmps, assign, body, hyr, hr⟩ := hy
  refine ⟨fun _ _ => trivial, ?_⟩
  have hrun : (Oper.semAt (Wide r).round a.eval { dst := d, op := .call { callee := .value x, args := xs, argTypes := ts }, type := ty, pos := ps, after := af, guard := g }).run P w = .ok (.round l fn tmps assign body) w := by
    rw [semAt_noDefer (by rfl)]
    simp only [execOp, resolve, Sem.run_bind, hx, hargs, Sem.run_pure, Result.andThen, invoke, Deferred.ofValue]
    simpa using hyr
  rw [hrun]
  refine ⟨fun hd => (by cases hd), RoundIn.mono hr fun e w' he => ?_⟩
  obtain ⟨v, rfl, h⟩ := k e w' he
  have := wpListIn_of (r := r) (rest := []) (K := Q .normal) hno (fun a w h => h) rest _ _ hd (by
    have e : Exit.then (Q .normal) Q = Q := by funext e a w; cases e <;> rfl
    rw [e]; exact h)
  rwa [List.append_nil] at this


/- A round whose post stays shut. -/
theorem wpIn_shut {r : Option Nat} {P : Program} {c : Code} {Q : Exit → Act → World → Prop} {a : Act} {w : World} (hno : ¬ LetsOut Q) (h : ∀ Q' : Exit → Act → World → Prop, ¬ LetsOut Q' → (∀ e a w, Q e a w → Q' e a w) → c.wpIn (Wide r) 0 P Q' a w) : c.wpIn (Wide r) 0 P Q a w := h Q hno fun _ _ _ h => h

/- An iterator's contract towards a party that keeps the iterator's blocks when it stops, too. -/
def SeqK {α : Type} (P : Program) (M : Mem) (g : Nat) (lb : Array Value) (xs : List α) (V : List α → α → Array Value → List (Nat × Obj) → Prop) : Prop :=
  ∀ (l : Nat) (J Jx : List α → (Nat → Prop) → World → Prop) (W : World), Imm M W → (∀ s O W, J s O W → Imm M W) → (∀ s O W, Jx s O W → Imm M W) → J [] (fun _ => False) W →
    (∀ pre x vs Fr O0 O1 W0 W1, (pre ++ [x]) <+: xs → J pre O0 W0 → Moves O0 W0 W1 → Grown O0 O1 W0 W1 → V pre x vs Fr → Fresh Fr O1 W0 W1 →
      YieldAt Fence.wide 0 P l vs W1 fun e W' => (e = .returned (.bool true) ∧ J (pre ++ [x]) O1 W' ∧ Keeps O1 W1 W') ∨ (e = .returned (.bool false) ∧ Jx (pre ++ [x]) O1 W' ∧ Keeps O1 W1 W')) →
    CallsIn Fence.wide 0 P g (#[.func (.yield l) #[] #[]] ++ lb) W fun e W' => (∃ v, e = .returned v) ∧ ∃ O0 W0, Moves O0 W0 W' ∧ (J xs O0 W0 ∨ ∃ pre, pre <+: xs ∧ Jx pre O0 W0)
theorem SeqK.of_C {α : Type} {P : Program} {M : Mem} {g : Nat} {lb : Array Value} {xs : List α} {V : List α → α → Array Value → List (Nat × Obj) → Prop} (h : SeqC P M g lb xs V) : SeqK P M g lb xs V := fun l J Jx W hi hJ hJx h0 hY => by
  refine h l J Jx W hi hJ hJx h0 fun pre x vs Fr O0 O1 W0 W1 a b c d e f => ?_
  obtain ⟨fn, tmps, assign, body, h1, h2⟩ := hY pre x vs Fr O0 O1 W0 W1 a b c d e f
  refine ⟨fn, tmps, assign, body, h1, RoundIn.mono h2 fun e w' he => ?_⟩
  rcases he with he | ⟨e1, e2, _⟩
  · exact .inl he
  · exact .inr ⟨e1, e2⟩

/- The state behind a yield: what is known besides the iterator's memory is kept, too. -/
theorem St.again2 {B : Nat → Prop} {w0 w w' : World} {M M1 : Mem} {L : List (Nat × Obj)} {O : Nat → Prop} (h : St B w0 w M1 L) (hL : ∀ p ∈ L, O p.1) (hM : ∀ k, M1 k ≠ none → M k = none → O k) (hle : M.le M1) (hK : Keeps O w w') (hi : Imm M w') : St (fun k => O k ∨ w'.heap.size ≤ k) w' w' M1 L where
  moved := Moves.refl _ _
  imm := fun b o e => by
    cases hm : M b with
    | some o' =>
      have := hle b o' hm
      rw [e] at this
      cases this
      exact hi b o hm
    | none =>
      rw [hK b (hM b (by rw [e]; exact fun h => by cases h) hm)]
      exact h.imm b o e
  loc := fun p hp => by rw [hK p.1 (hL p hp)]; exact h.loc p hp
  base := fun p hp => ⟨.inl (hL p hp), (h.base p hp).2⟩
  nodup := h.nodup
  hB := fun k hk => .inr hk
/- What an iterator within a round lays in its party's hands to be kept. -/
def outO (M M1 : Mem) (L : List (Nat × Obj)) : Nat → Prop := fun k => k ∈ L.map Prod.fst ∨ (M1 k ≠ none ∧ M k = none)
theorem St.grown2 {w0 w : World} {M M1 : Mem} {L : List (Nat × Obj)} {O : Nat → Prop} (h : St (fun k => O k ∨ w0.heap.size ≤ k) w0 w M1 L) (hB : ∀ k, M1 k ≠ none → M k = none → O k ∨ w0.heap.size ≤ k) : Grown O (outO M M1 L) w0 w := fun k hk => by
  rcases hk with hk | ⟨h1, h2⟩
  · exact h.grown k hk
  · rcases hB k h1 h2 with g | g
    · exact .inl g
    · exact .inr ⟨g, h.imm.lt h1⟩

/- How a round's body may be left. -/
def roundG {α τ : Type} (Bt : τ → Nat → Prop) (wt : τ → World) (M M1 : Mem) (l D : Nat) (o1 o2 : Obj) (Φ : τ → List α → List (Nat × Obj) → Prop) (Ψ : τ → Code → List α → List (Nat × Obj) → Prop) (xs : List α) : Exit → Act → World → Prop
  | .normal, _, W' => ∃ t', (∀ k, M1 k ≠ none → M k = none → Bt t' k) ∧ ∃ M' L', M1.le M' ∧ St (Bt t') (wt t') W' M' ((l, o1) :: (D, o2) :: L') ∧ Φ t' xs L'
  | .ret, _, W' => ∃ t', (∀ k, M1 k ≠ none → M k = none → Bt t' k) ∧ ∃ M' L', M1.le M' ∧ St (Bt t') (wt t') W' M' ((l, o1) :: (D, o2) :: L') ∧ Ψ t' .ret xs L'
  | .exit id, _, W' => ∃ t', (∀ k, M1 k ≠ none → M k = none → Bt t' k) ∧ ∃ M' L', M1.le M' ∧ St (Bt t') (wt t') W' M' ((l, o1) :: (D, o2) :: L') ∧ Ψ t' (.exit id) xs L'
  | .goto g, _, W' => ∃ t', (∀ k, M1 k ≠ none → M k = none → Bt t' k) ∧ ∃ M' L', M1.le M' ∧ St (Bt t') (wt t') W' M' ((l, o1) :: (D, o2) :: L') ∧ Ψ t' (.goto g) xs L'
  | .panic _, _, _ => False
  | .outgrown, _, _ => False

/- The statement's law. -/
theorem wp_rangeG {α τ : Type} {P : Program} {g : Operand} {ps : Array Tmp} {assign body : Code} {Q : Exit → Act → World → Prop} {a : Act} {Bt : τ → Nat → Prop} {wt : τ → World} {t0 : τ} {w : World} {M : Mem} {L : List (Nat × Obj)} (HS : St (Bt t0) (wt t0) w M L)
    {gf : Nat} {lb : Array Value} (hg : a.eval g = .func (.func gf) #[] lb) (eg : ∀ args w, (callFunc gf args).run P w = .ok (.enter gf args) w)
    {xs : List α} {V : List α → α → Array Value → List (Nat × Obj) → Prop} (hseq : SeqK P M gf lb xs V) (hps : ∀ pre x vs Fr, V pre x vs Fr → vs.size = ps.size)
    (Φ : τ → List α → List (Nat × Obj) → Prop) (Ψ : τ → Code → List α → List (Nat × Obj) → Prop) (h0 : Φ t0 [] L)
    (hround : ∀ (t : τ) (l D : Nat) (o1 o2 : Obj) pre x vs Fr L' M1 W (K : Act → World → Prop), (pre ++ [x]) <+: xs → Φ t pre L' → V pre x vs Fr → M.le M1 → (∀ k, M1 k ≠ none → M k = none → Bt t k) → St (Bt t) (wt t) W M1 ((l, o1) :: (D, o2) :: (Fr ++ L')) →
      (∀ a' W' M' L', M1.le M' → St (Bt t) (wt t) W' M' ((l, o1) :: (D, o2) :: L') → (∀ o1 W2, St (Bt t) (wt t) W2 M' ((l, o1) :: (D, o2) :: L') → body.wpIn (Wide (some l)) 0 P (roundG Bt wt M M1 l D o1 o2 Φ Ψ (pre ++ [x])) a' W2) → K a' W') →
      assign.wpIn (Wide (some l)) 0 P (Exit.then K (fun _ _ _ => False)) { tmps := (ps.zip vs).foldl (fun t (p, v) => t.setIfInBounds p v) a.tmps, defers := [] } W)
    (hdone : ∀ t D W L', St (Bt t) (wt t) W M ((D, .deferred (some [])) :: L') → Φ t xs L' → Q .normal { a with defers := { target := .collected D, args := #[] } :: a.defers } W)
    (hstop : ∀ t D W L' c pre, pre <+: xs → St (Bt t) (wt t) W M ((D, .deferred (some [])) :: L') → Ψ t c pre L' → c.wp P Q { a with defers := { target := .collected D, args := #[] } :: a.defers } W) :
    (Code.rangeFunc g ps assign body).wp P Q a w := by
  refine (wpIn_wide (n := 0)).1 (wpIn_rangeFunc ?_)
  intro fn _
  show ∃ (l : Nat) (mark : List Deferred) (w₁ : World) (d : Deferred) (w₁' : World) (f : FuncId) (args : Array Value) (w₂ : World), (Instr.enterLoop fn a.tmps ps assign body none).run P w = .ok (l, mark) w₁ ∧ _
  obtain ⟨rec, hrec⟩ : ∃ rec : LoopState → Option Code → Loop, rec = fun st pe => { state := st, pending := pe, fn, tmps := a.tmps, params := ps, assign, body, defers := w.heap.size } := ⟨_, rfl⟩
  obtain ⟨D, hD⟩ : ∃ D, D = w.heap.size := ⟨_, rfl⟩
  obtain ⟨l, hl⟩ : ∃ l, l = w.heap.size + 1 := ⟨_, rfl⟩
  obtain ⟨W1, hW1⟩ : ∃ W1, (w.alloc (.deferred (some []))).alloc (.loop (rec .ready none)) = W1 := ⟨_, rfl⟩
  have HS1 : St (Bt t0) (wt t0) W1 M ((l, .loop (rec .ready none)) :: (D, .deferred (some [])) :: L) := by
    have h := (HS.alloc (.deferred (some []))).alloc (.loop (rec .ready none))
    rw [hW1, World.size_alloc, ← hD] at h
    rw [hl, ← hD]; exact h
  let J : List α → (Nat → Prop) → World → Prop := fun pre O W => ∃ t L', St (Bt t) (wt t) W M ((l, .loop (rec .ready none)) :: (D, .deferred (some [])) :: L') ∧ Φ t pre L' ∧
    ∀ k, O k → Bt t k ∧ M k = none ∧ k < W.heap.size ∧ ∀ p ∈ (l, Obj.loop (rec .ready none)) :: (D, .deferred (some [])) :: L', p.1 ≠ k
  let Jx : List α → (Nat → Prop) → World → Prop := fun pre O W => ∃ t c L', St (Bt t) (wt t) W M ((l, .loop (rec .done (some c))) :: (D, .deferred (some [])) :: L') ∧ Ψ t c pre L' ∧
    ∀ k, O k → Bt t k ∧ M k = none ∧ k < W.heap.size ∧ ∀ p ∈ (l, Obj.loop (rec .done (some c))) :: (D, .deferred (some [])) :: L', p.1 ≠ k
  refine ⟨l, [{ target := .collected D, args := #[] }], W1, { target := .fn (.func gf) lb, args := #[.func (.yield l) #[] #[]] }, W1, gf, #[.func (.yield l) #[] #[]] ++ lb, W1, ?_, ?_, fun _ _ => trivial, ?_, fun hd => (by cases hd), ?_⟩
  · rw [← hW1, hrec, hl, hD]; exact run_enterLoop_outer _ _ _ _ _
  · simp only [resolve, hg]; simp [go_sem]
  · simp [invoke, go_sem, eg]
  refine (hseq l J Jx W1 HS1.imm (fun s O W h => by obtain ⟨_, _, h, _⟩ := h; exact h.imm) (fun s O W h => by obtain ⟨_, _, _, h, _⟩ := h; exact h.imm) ⟨t0, L, HS1, h0, fun _ h => h.elim⟩ ?_).mono ?_
  · intro pre x vs Fr O0 O1 V0 V1 hpre hJ hM hG hV hF
    obtain ⟨t, L', hS, hΦ, hO⟩ := hJ
    have hS1 := hS.moves hM (fun k hk => ⟨(hO k hk).1, (hO k hk).2.1, (hO k hk).2.2.2⟩)
    have hlt : ∀ p ∈ (l, Obj.loop (rec .ready none)) :: (D, .deferred (some [])) :: L', p.1 < V0.heap.size := fun p hp => (Array.getElem?_eq_some_iff.1 (hS.loc p hp)).1
    have hMn : ∀ k, V0.heap.size ≤ k → M k = none := fun k hk => by
      cases e : M k with
      | none => rfl
      | some o => have := hS.imm.lt (b := k) (by rw [e]; exact fun h => by cases h); omega
    have hS2 := hS1.fresh (fun p hp => ⟨(hF.is p hp).1, (hF.is p hp).2.2⟩) hF.nodup (fun k hk => hS.hB k (Nat.le_trans hS.moved.size hk)) hMn hlt
    have hO1 : ∀ k, O1 k → Bt t k ∧ M k = none ∧ k < V1.heap.size ∧ ∀ p ∈ Fr ++ (l, Obj.loop (rec .ready none)) :: (D, .deferred (some [])) :: L', p.1 ≠ k := fun k hk => by
      refine ⟨?_, ?_, ?_, fun p hp e => ?_⟩
      · rcases hG k hk with h | h
        · exact (hO k h).1
        · exact hS.hB k (Nat.le_trans hS.moved.size h.1)
      · rcases hG k hk with h | h
        · exact (hO k h).2.1
        · exact hMn k h.1
      · rcases hG k hk with h | h
        · exact Nat.lt_of_lt_of_le (hO k h).2.2.1 hM.size
        · exact h.2
      · rcases List.mem_append.1 hp with hp | hp
        · exact (hF.is p hp).2.1 (e ▸ hk)
        · rcases hG k hk with h | h
          · exact (hO k h).2.2.2 p hp e
          · have := hlt p hp; omega
    let M1 := M.and O1 V1
    have hle1 : M.le M1 := fun b o e => by
      show (M.and O1 V1) b = some o
      unfold Mem.and
      rw [if_neg (fun h => by rw [(hO1 b h).2.1] at e; cases e)]; exact e
    have hS3 : St (Bt t) (wt t) V1 M1 (Fr ++ (l, Obj.loop (rec .ready none)) :: (D, .deferred (some [])) :: L') := hS2.more (fun b o e => by
      simp only [M1, Mem.and] at e
      split at e
      · exact e
      · exact hS2.imm b o e) (fun p hp => by
      simp only [M1, Mem.and]
      rw [if_neg (fun h => (hO1 _ h).2.2.2 p hp rfl)]
      exact (hS2.base p hp).2)
    have hS4 : St (Bt t) (wt t) V1 M1 ((l, Obj.loop (rec .ready none)) :: (D, .deferred (some [])) :: (Fr ++ L')) := hS3.perm (by
      refine List.perm_middle.trans (.cons _ ?_)
      exact List.perm_middle)
    have hmem : V1.heap[l]? = some (.loop (rec .ready none)) := hS4.loc _ (.head _)
    have hy := run_yield (P := P) (args := vs) hmem (by rw [hrec]; exact hps _ _ _ _ hV)
    rw [hrec] at hy
    refine ⟨fn, _, assign, body, hy, roundIn_of_wpIn trivial ?_⟩
    have hB1 : ∀ k, M1 k ≠ none → M k = none → Bt t k := fun k h1 h2 => by
      simp only [M1, Mem.and] at h1
      split at h1
      · rename_i hk; exact (hO1 k hk).1
      · exact absurd h2 h1
    have hkeep : ∀ {t' : τ} {M' : Mem} {W' : World} {L2 : List (Nat × Obj)}, (∀ k, M1 k ≠ none → M k = none → Bt t' k) → M1.le M' → St (Bt t') (wt t') W' M' L2 → Keeps O1 V1 W' ∧ ∀ k, O1 k → Bt t' k ∧ M k = none ∧ k < W'.heap.size ∧ ∀ p ∈ L2, p.1 ≠ k := by
      intro t' M' W' L2 hBt hle hS
      have hk : ∀ k, O1 k → ∃ o, M' k = some o ∧ V1.heap[k]? = some o := fun k hk => by
        have hlt := (hO1 k hk).2.2.1
        refine ⟨V1.heap[k], hle _ _ ?_, ?_⟩
        · simp only [M1, Mem.and, if_pos hk]; simp [hlt]
        · simp [hlt]
      refine ⟨fun k hO => ?_, fun k hO => ⟨hBt k ?_ (hO1 k hO).2.1, (hO1 k hO).2.1, ?_, fun p hp e => ?_⟩⟩
      · obtain ⟨o, h1, h2⟩ := hk k hO
        rw [h2]; exact hS.imm k o h1
      · have hlt := (hO1 k hO).2.2.1
        simp only [M1, Mem.and, if_pos hO]; simp [hlt]
      · obtain ⟨o, h1, _⟩ := hk k hO
        exact hS.imm.lt (by rw [h1]; exact fun h => by cases h)
      · obtain ⟨o, h1, _⟩ := hk k hO
        have := (hS.base p hp).2
        rw [e, h1] at this; cases this
    refine hround t l D _ _ pre x vs Fr L' M1 V1 _ hpre hΦ hV hle1 hB1 hS4 ?_
    intro a' W' M' L2 hle2 hS5 hbody
    have hm5 : W'.heap[l]? = some (.loop (rec .ready none)) := hS5.loc _ (.head _)
    refine ⟨_, run_beginRound hm5 (by rw [hrec]), ?_⟩
    have hS6 : St (Bt t) (wt t) (W'.putObj l (.loop { rec .ready none with state := .busy })) M' ((l, .loop { rec .ready none with state := .busy }) :: (D, .deferred (some [])) :: L2) := hS5.putB (.head _)
    refine wpIn_mono (hbody _ _ hS6) ?_
    have fin : ∀ (t' : τ) (hBt : ∀ k, M1 k ≠ none → M k = none → Bt t' k) (jump : Option Code) (W3 : World) (M3 : Mem) (L3 : List (Nat × Obj)), M1.le M3 → St (Bt t') (wt t') W3 M3 ((l, .loop { rec .ready none with state := .busy }) :: (D, .deferred (some [])) :: L3) →
        (Instr.endRound l jump).run P W3 = .ok (.bool jump.isNone) (W3.putObj l (.loop (rec (if jump.isNone then .ready else .done) jump))) ∧
        St (Bt t') (wt t') (W3.putObj l (.loop (rec (if jump.isNone then .ready else .done) jump))) M ((l, .loop (rec (if jump.isNone then .ready else .done) jump)) :: (D, .deferred (some [])) :: L3) ∧
        Keeps O1 V1 (W3.putObj l (.loop (rec (if jump.isNone then .ready else .done) jump))) ∧
        ∀ k, O1 k → Bt t' k ∧ M k = none ∧ k < (W3.putObj l (.loop (rec (if jump.isNone then .ready else .done) jump))).heap.size ∧ ∀ p ∈ (l, Obj.loop (rec (if jump.isNone then .ready else .done) jump)) :: (D, .deferred (some [])) :: L3, p.1 ≠ k := fun t' hBt jump W3 M3 L3 hle hS => by
      have hl3 : W3.heap[l]? = some (.loop { rec .ready none with state := .busy }) := hS.loc _ (.head _)
      have h1 := run_endRound (P := P) jump hl3
      have hS' : St (Bt t') (wt t') (W3.putObj l (.loop (rec (if jump.isNone then .ready else .done) jump))) M3 ((l, .loop (rec (if jump.isNone then .ready else .done) jump)) :: (D, .deferred (some [])) :: L3) := hS.putB (.head _)
      have h2 := hkeep hBt hle hS'
      refine ⟨?_, hS'.less (Mem.le_trans hle1 hle), h2.1, h2.2⟩
      rw [hrec] at h1 ⊢; exact h1
    rintro e a3 W3 hp
    cases e with
    | normal =>
      obtain ⟨t', hBt, M3, L3, hle, hS, hΦ3⟩ := hp
      obtain ⟨hr, hS', hK, hO'⟩ := fin t' hBt none W3 M3 L3 hle hS
      exact ⟨_, _, hr, .inl ⟨rfl, ⟨t', L3, hS', hΦ3, hO'⟩, hK⟩⟩
    | ret =>
      obtain ⟨t', hBt, M3, L3, hle, hS, hΨ3⟩ := hp
      obtain ⟨hr, hS', hK, hO'⟩ := fin t' hBt (some .ret) W3 M3 L3 hle hS
      exact ⟨_, _, hr, .inr ⟨rfl, ⟨t', .ret, L3, hS', hΨ3, hO'⟩, hK⟩⟩
    | exit id =>
      obtain ⟨t', hBt, M3, L3, hle, hS, hΨ3⟩ := hp
      obtain ⟨hr, hS', hK, hO'⟩ := fin t' hBt (some (.exit id)) W3 M3 L3 hle hS
      exact ⟨_, _, hr, .inr ⟨rfl, ⟨t', .exit id, L3, hS', hΨ3, hO'⟩, hK⟩⟩
    | goto t =>
      obtain ⟨t', hBt, M3, L3, hle, hS, hΨ3⟩ := hp
      obtain ⟨hr, hS', hK, hO'⟩ := fin t' hBt (some (.goto t)) W3 M3 L3 hle hS
      exact ⟨_, _, hr, .inr ⟨rfl, ⟨t', .goto t, L3, hS', hΨ3, hO'⟩, hK⟩⟩
    | panic ch => exact hp.elim
    | outgrown => exact hp.elim
  · rintro e W2 ⟨⟨v, rfl⟩, O0, V0, hM, (⟨t, L', hS, hΦ, hO⟩ | ⟨pre, hpre, t, c, L', hS, hΨ, hO⟩)⟩
    · have hS1 := hS.moves hM (fun k hk => ⟨(hO k hk).1, (hO k hk).2.1, (hO k hk).2.2.2⟩)
      have hl2 : W2.heap[l]? = some (.loop (rec .ready none)) := hS1.loc _ (.head _)
      refine ⟨none, _, by have := run_endLoop (P := P) hl2 (by rw [hrec]; simp); rw [hrec] at this; exact this, ?_⟩
      have hS2 : St (Bt t) (wt t) (W2.putObj l (.loop { rec .ready none with state := .exhausted })) M ((l, .loop { rec .ready none with state := .exhausted }) :: (D, .deferred (some [])) :: L') := hS1.putB (.head _)
      have := hdone t D _ L' hS2.drop hΦ
      rw [hrec] at this; exact this
    · have hS1 := hS.moves hM (fun k hk => ⟨(hO k hk).1, (hO k hk).2.1, (hO k hk).2.2.2⟩)
      have hl2 : W2.heap[l]? = some (.loop (rec .done (some c))) := hS1.loc _ (.head _)
      refine ⟨some c, _, by have := run_endLoop (P := P) hl2 (by rw [hrec]; simp); rw [hrec] at this; exact this, ?_⟩
      have hS2 : St (Bt t) (wt t) (W2.putObj l (.loop { rec .done (some c) with state := .exhausted })) M ((l, .loop { rec .done (some c) with state := .exhausted }) :: (D, .deferred (some [])) :: L') := hS1.putB (.head _)
      have := (wpIn_wide (n := 0)).2 (hstop t D _ L' c pre hpre hS2.drop hΨ)
      rw [hrec] at this; exact this

end Go.Proofs.YtbogoehjoglneaaDoor

/- Ranges over functions in a loop: the marks that a function holds, and the return behind them. -/
namespace Go.Proofs.YtbogoehjoglneaaDoor
open Go.RowKit
set_option linter.unusedVariables false
abbrev mkD (D : Nat) : Deferred := { target := .collected D, args := #[] }
abbrev mkB (D : Nat) : Nat × Obj := (D, .deferred (some []))
theorem rep_mid {b : Nat} {o o' : Obj} (L : List (Nat × Obj)) : ∀ K : List (Nat × Obj), Rep1 b o o' (K ++ (b, o) :: L) (K ++ (b, o') :: L)
  | [] => .head _
  | p :: K => .tail p (rep_mid L K)
theorem leaves_marks {P : Program} {fn : Func} {R : Ending → World → Prop} {B : Nat → Prop} {w0 : World} {M : Mem} : ∀ (Ds : List Nat) (K : List (Nat × Obj)) (a : Act) (w : World), St B w0 w M (K ++ Ds.map mkB) → a.defers = Ds.map mkD →
    (∀ w' L', St B w0 w' M (K ++ L') → bodyPost P fn R .ret { a with defers := [] } w') → bodyPostM Fence.wide 0 P fn R .ret a w
  | [], K, a, w, HS, hd, h => by
    obtain ⟨t, d⟩ := a
    simp only [List.map_nil] at hd
    subst hd
    exact leaves_plain (h w _ HS)
  | D :: Ds, K, a, w, HS, hd, h => by
    refine leaves_mark (ds := Ds.map mkD) HS hd (rep_mid _ K) fun w' HS' => ?_
    have := leaves_marks (fn := fn) (R := R) Ds (K ++ [(D, .deferred none)]) { a with defers := Ds.map mkD } w' (by simpa using HS') rfl (fun w2 L2 HS2 => h w2 ((D, .deferred none) :: L2) (by simpa using HS2))
    exact this
/- The mark that a range has left goes behind the others. -/
theorem St.sunk {B : Nat → Prop} {w0 w : World} {M : Mem} {p : Nat × Obj} {K L : List (Nat × Obj)} (h : St B w0 w M (p :: (K ++ L))) : St B w0 w M (K ++ p :: L) := h.perm List.perm_middle.symm
/- A result of one cell. -/
theorem post_cellS {P : Program} {w w0 : World} {B : Nat → Prop} {M : Mem} {L : List (Nat × Obj)} {fn : Func} {R : Ending → World → Prop} {p : Tmp} {T : TypeId} {z : List Value} [TI P T false z] (h : fn.results = #[.cell p T]) {a : Act} {b : Nat} {v : Value} {t : TypeId} {fr : Nat × Nat}
    (HS : St B w0 w M L) (hp : a.tmps.getD p undef = .pointer (some ⟨b, 0, none⟩)) (hd : a.defers = []) (hb : Blk M L b (.cells [v].toArray t fr)) (hR : R (.returned v) w) : bodyPost P fn R .ret a w := by
  refine bodyPost_ret (v := v) ?_ hd hR
  have hv : ldv false z.length [v] 0 = some v := rfl
  have hp' : a.tmps[p]?.getD undef = .pointer (some ⟨b, 0, none⟩) := by simpa using hp
  simp [results, h, hp', asAddr, run_loadVar_blk (P := P) (T := T) (HS.blk hb) hv]
end Go.Proofs.YtbogoehjoglneaaDoor

/- Units of runes: units.Len, units.Split, the reference's UnitsOf and AllUnits. -/
namespace Go.Proofs.YtbogoehjoglneaaDoor
open Go.RowKit
set_option linter.unusedVariables false
set_option linter.unusedSimpArgs false
set_option maxRecDepth 100000
attribute [local go_sem] byt_drop byt_tail Int.toNat_natCast sOf_size

def okR (r : Nat) : Prop := r ≤ 1114111 ∧ ¬ (55296 ≤ r ∧ r ≤ 57343)
theorem stp_okR (l : List UInt8) : okR (stp l).r := by
  by_cases h : enc l = 0
  · rw [stp_zero h]; unfold okR; decide
  · rw [stp_enc_pos h]
    have := (encode_val l h).2
    exact this
def hiU (r : Nat) : Nat := 55296 + (r - 65536) / 1024
def loU (r : Nat) : Nat := 56320 + (r - 65536) % 1024
def unitsOf (r : Nat) : List Nat := if 65535 < r then [hiU r, loU r] else [r]
theorem unitsOf_len (r : Nat) : (unitsOf r).length = uOf r := by unfold unitsOf uOf; split <;> rfl
def uv (u : Nat) : Value := .int .u16 (u : Nat)
theorem uv_one (us : List Nat) : ∀ u ∈ us.map uv, u.oneCell' = true := fun u hu => by
  obtain ⟨x, _, rfl⟩ := List.mem_map.1 hu
  rfl

theorem ValidRune_any (M : Mem) (r : Nat) (hr : okR r) (w : World) (hi : Imm M w) :
    Calls Tryd.prog 123 #[.int .i32 r] w fun e w' => e = .returned (.bool true) ∧ Below w.heap.size w w' := by
  have h1 : (r : Int) ≤ 1114111 := by have := hr.1; omega
  by_cases h2 : (r : Int) < 55296
  · clear hr
    (have HS := St.start hi; go_enter Tryd.func123, Tryd.ntmps123)
    go_wp2
    go_ret
    exact ⟨rfl, HS.below⟩
  · have h3 : (57343 : Int) < r := by have := hr.2; omega
    clear hr
    (have HS := St.start hi; go_enter Tryd.func123, Tryd.ntmps123)
    go_wp2
    go_ret
    exact ⟨rfl, HS.below⟩
theorem ULen_any (M : Mem) (r : Nat) (hr : okR r) (w : World) (hi : Imm M w) :
    Calls Tryd.prog 102 #[.int .i32 r] w fun e w' => e = .returned (.int .i64 (uOf r)) ∧ Below w.heap.size w w' := by
  have HV := Lib.hid (fun w hi => ValidRune_any M r hr w hi)
  have h1 : (r : Int) ≤ 1114111 := by have := hr.1; omega
  clear hr
  (refine calls_shut fun R hR => ?_; have HRR := Lib.hid hR; clear hR)
  by_cases h2 : 65535 < (r : Int)
  · have hu : uOf r = 2 := by unfold uOf; rw [if_pos (by omega)]
    (have HS := St.start hi; go_enter Tryd.func102, Tryd.ntmps102)
    go_wp2_with (first | (go_at_call 123; (with_reducible refine (HV.out _ HS.imm).mono ?_); rintro e w_ ⟨rfl, hb_⟩; have HS_ := HS.call hb_; clear HS hb_; have HS := HS_; clear HS_))
    (try go_ret)
    exact HRR.out _ _ ⟨by rw [hu]; rfl, HS.below⟩
  · have hu : uOf r = 1 := by unfold uOf; rw [if_neg (by omega)]
    (have HS := St.start hi; go_enter Tryd.func102, Tryd.ntmps102)
    go_wp2_with (first | (go_at_call 123; (with_reducible refine (HV.out _ HS.imm).mono ?_); rintro e w_ ⟨rfl, hb_⟩; have HS_ := HS.call hb_; clear HS hb_; have HS := HS_; clear HS_))
    (try go_ret)
    exact HRR.out _ _ ⟨by rw [hu]; rfl, HS.below⟩
theorem USplit_two (M : Mem) (r : Nat) (hr : okR r) (h2 : 65535 < r) (w : World) (hi : Imm M w) :
    Calls Tryd.prog 81 #[.int .i32 r] w fun e w' => e = .returned (.tuple #[uv (hiU r), uv (loU r), .bool true]) ∧ Below w.heap.size w w' := by
  have hu : uOf r = 2 := by unfold uOf; rw [if_pos h2]
  have hl := fun w hi => ULen_any M r hr w hi
  rw [hu] at hl
  have HL := Lib.hid hl
  have h1 : (r : Int) ≤ 1114111 := by have := hr.1; omega
  have h3 : 65536 ≤ (r : Int) := by omega
  have hand : bits BinOp.and IntKind.i32 (((r - 65536 : Nat)) : Int) 1023 = (((r - 65536) % 1024 : Nat) : Int) := by
    rw [Int.natCast_emod]
    exact bits_mask .i32 31 (by decide) wraps_i32 10 (by decide) _ (by omega) (by omega)
  have hx1 : (r : Int) - 65536 = ((r - 65536 : Nat) : Int) := by omega
  have hx2 : ((r - 65536 : Nat) : Int) ≤ 1048575 := by omega
  have hx3 : (((r - 65536) % 1024 : Nat) : Int) ≤ 1023 := by omega
  have he1 : uv (hiU r) = .int .u16 (55296 + ((r - 65536 : Nat) : Int) / 1024) := by unfold uv hiU; congr 1
  have he2 : uv (loU r) = .int .u16 (56320 + (((r - 65536) % 1024 : Nat) : Int)) := by unfold uv loU; congr 1
  rw [he1, he2]
  generalize (r - 65536) % 1024 = y at *
  clear hr hu hl he1 he2
  (refine calls_shut fun R hR => ?_; have HRR := Lib.hid hR; clear hR)
  (have HS := St.start hi; go_enter Tryd.func81, Tryd.ntmps81)
  go_wp2_with (first | (go_at_call 102; (with_reducible refine (HL.out _ HS.imm).mono ?_); rintro e w_ ⟨rfl, hb_⟩; have HS_ := HS.call hb_; clear HS hb_; have HS := HS_; clear HS_))
  refine bodyPost_ret (results_tmp3 rfl _ _ _) rfl ?_
  exact HRR.out _ _ ⟨rfl, HS.below⟩
theorem USplit_one (M : Mem) (r : Nat) (hr : okR r) (h2 : ¬ 65535 < r) (w : World) (hi : Imm M w) :
    Calls Tryd.prog 81 #[.int .i32 r] w fun e w' => e = .returned (.tuple #[uv 0, uv 0, .bool false]) ∧ Below w.heap.size w w' := by
  have hu : uOf r = 1 := by unfold uOf; rw [if_neg h2]
  have hl := fun w hi => ULen_any M r hr w hi
  rw [hu] at hl
  have HL := Lib.hid hl
  clear hr hu hl h2
  (refine calls_shut fun R hR => ?_; have HRR := Lib.hid hR; clear hR)
  (have HS := St.start hi; go_enter Tryd.func81, Tryd.ntmps81)
  go_wp2_with (first | (go_at_call 102; (with_reducible refine (HL.out _ HS.imm).mono ?_); rintro e w_ ⟨rfl, hb_⟩; have HS_ := HS.call hb_; clear HS hb_; have HS := HS_; clear HS_))
  refine bodyPost_ret (results_tmp3 rfl _ _ _) rfl ?_
  exact HRR.out _ _ ⟨rfl, HS.below⟩

theorem SL.lit {M : Mem} {b : Nat} {xs : List Value} {t : TypeId} {fr : Nat × Nat} (h : M b = some (.cells xs.toArray t fr)) (ho : ∀ u ∈ xs, u.oneCell' = true) : SL M 1 (some ⟨b, 0, Option.none⟩) xs.length xs.length xs :=
  ⟨by simp, ho, Nat.le_refl _, fun e => (by cases e), fun ad e => by
    cases e
    refine ⟨rfl, fun j u hj => ?_⟩
    unfold cellM
    rw [h]
    simpa using hj⟩

set_option maxHeartbeats 1000000 in
theorem UnitsOf_full (M : Mem) (s : Stp) (hs : okR s.r) (w : World) (hi : Imm M w) :
    Calls Tryd.prog 27 #[stV s] w fun e w' => ∃ A c M', e = .returned (.slice A (unitsOf s.r).length c) ∧ Grew M M' w w' ∧ SL M' 1 A (unitsOf s.r).length c ((unitsOf s.r).map uv) := by
  have hs' : (s.r : Int) ≤ 1114111 := by have := hs.1; omega
  obtain ⟨us, hus⟩ : ∃ us, us = (unitsOf s.r).map uv := ⟨_, rfl⟩
  have hul : (unitsOf s.r).length = us.length := by rw [hus]; simp
  have huo : ∀ u ∈ us, u.oneCell' = true := by rw [hus]; exact uv_one _
  rw [← hus, hul]
  (refine calls_shut fun R hR => ?_; have HRR := Lib.hid hR; clear hR)
  by_cases h : 65535 < s.r
  · have h' : (65535 : Int) < s.r := by omega
    have hx0 : 0 ≤ (s.r : Int) - 65536 := by omega
    obtain ⟨u1, hu1⟩ : ∃ u1 : Int, u1 = 55296 + ((s.r : Int) - 65536) / 1024 := ⟨_, rfl⟩
    obtain ⟨u2, hu2⟩ : ∃ u2 : Int, u2 = 56320 + ((s.r : Int) - 65536) % 1024 := ⟨_, rfl⟩
    have hE : us = [.int .u16 u1, .int .u16 u2] := by
      rw [hus, hu1, hu2]
      unfold unitsOf hiU loU
      rw [if_pos h]
      simp only [List.map_cons, List.map_nil, uv, List.cons.injEq, Value.int.injEq, true_and, and_true]
      omega
    have HUS := Lib.hid hE
    have HUO := Lib.hid huo
    have HU1 := Lib.hid hu1
    have HU2 := Lib.hid hu2
    clear hE hus hul huo hs h hu1 hu2
    (have HS := St.start hi; go_enter Tryd.func27, Tryd.ntmps27)
    go_wp2_with (first | ((with_reducible refine' q_alloc ?_); refine' a_alloc HS ?_; clear HS; intro b_ w_ HS) | ((with_reducible refine' q_box ?_); refine' a_box2 HS ?_; clear HS; intro b_ w_ HS) | ((with_reducible refine' q_load ?_); refine' a_load HS ?_) | ((with_reducible refine' q_store ?_); refine' a_store2 HS ?_; clear HS; intro w_ HS) | ((with_reducible refine' st_build (cl := [.int .u16 (55296 + ((s.r : Int) - 65536) / 1024), .int .u16 (56320 + ((s.r : Int) - 65536) % 1024)]) ?hw HS ?hl ?h0 ?hf ?_); (case hw => rfl); (case hl => rfl); (case h0 => rfl); (case hf => first | (go_simp; done) | rfl | (simp [Instr.fill]; done)); intro b_ w_ HS_; clear HS; have HS := HS_; clear HS_))
    have k1 := HS.base _ (.head _)
    have HS1 := HS.keep
    (try go_ret)
    refine HRR.out _ _ ?_
    rw [HUS.out, HU1.out, HU2.out]
    exact ⟨_, _, _, rfl, ⟨HS1.below, Mem.le_add k1.2, Mem.fresh_add k1.1, HS1.imm⟩, SL.lit (xs := [_, _]) (Mem.add_same _ _ _) (by rw [← HU1.out, ← HU2.out, ← HUS.out]; exact HUO.out)⟩
  · have h' : ¬ (65535 : Int) < s.r := by omega
    have hE : us = [.int .u16 (s.r : Nat)] := by
      rw [hus]
      unfold unitsOf
      rw [if_neg h]
      rfl
    have HUS := Lib.hid hE
    have HUO := Lib.hid huo
    clear hE hus hul huo hs h
    (have HS := St.start hi; go_enter Tryd.func27, Tryd.ntmps27)
    go_wp2_with (first | ((with_reducible refine' q_alloc ?_); refine' a_alloc HS ?_; clear HS; intro b_ w_ HS) | ((with_reducible refine' q_box ?_); refine' a_box2 HS ?_; clear HS; intro b_ w_ HS) | ((with_reducible refine' q_load ?_); refine' a_load HS ?_) | ((with_reducible refine' q_store ?_); refine' a_store2 HS ?_; clear HS; intro w_ HS) | ((with_reducible refine' st_build (cl := [.int .u16 (s.r : Nat)]) ?hw HS ?hl ?h0 ?hf ?_); (case hw => rfl); (case hl => rfl); (case h0 => rfl); (case hf => first | (go_simp; done) | rfl | (simp [Instr.fill]; done)); intro b_ w_ HS_; clear HS; have HS := HS_; clear HS_))
    have k1 := HS.base _ (.head _)
    have HS1 := HS.keep
    (try go_ret)
    refine HRR.out _ _ ?_
    rw [HUS.out]
    exact ⟨_, _, _, rfl, ⟨HS1.below, Mem.le_add k1.2, Mem.fresh_add k1.1, HS1.imm⟩, SL.lit (xs := [_]) (Mem.add_same _ _ _) (by rw [← HUS.out]; exact HUO.out)⟩

/- The units of a text. -/
def usN (xs : List (Nat × Stp)) : List Nat := xs.flatMap (fun x => unitsOf x.2.r)
theorem usN_len (xs : List (Nat × Stp)) : (usN xs).length = sumS (fun s => uOf s.r) xs := by
  induction xs with
  | nil => rfl
  | cons x xs ih => rw [usN, List.flatMap_cons, List.length_append, unitsOf_len]; simp only [sumS]; rw [← ih]; rfl
theorem usN_take (xs : List (Nat × Stp)) (i : Nat) (x : Nat × Stp) (h : xs[i]? = some x) : usN (xs.take (i + 1)) = usN (xs.take i) ++ unitsOf x.2.r := by
  rw [List.take_add_one, h]
  simp [usN]
theorem usN_units (l : List UInt8) : (usN (steps l 0)).length = unitsN l := by rw [usN_len, steps_units]
theorem usN_le (xs : List (Nat × Stp)) : (usN xs).length ≤ 2 * xs.length := by
  rw [usN_len]
  exact sumS_le _ 2 (fun s => by unfold uOf; split <;> omega) xs

set_option maxHeartbeats 1000000 in
theorem AllUnits_any (M : Mem) (A : Option Addr) (c n : Nat) (l : List UInt8) (hb : BS M A c l) (hn : n = l.length) (hl : l.length ≤ 268435456) (w : World) (hi : Imm M w) :
    Calls Tryd.prog 44 #[.slice A n c] w fun e w' => ∃ A' c' M', e = .returned (.slice A' (usN (steps l 0)).length c') ∧ Grew M M' w w' ∧ SL M' 1 A' (usN (steps l 0)).length c' ((usN (steps l 0)).map uv) := by
  subst hn
  have HST := Lib.hid (fun w hi => rSteps2_any M A c l.length l hb rfl hl w hi)
  have hst := fun i (x : Nat × Stp) (h : (steps l 0)[i]? = some x) => (show okR x.2.r by rw [(step_at h).2.2]; exact stp_okR _)
  have HOK := Lib.hid hst
  have hN := steps_len l
  clear hst hb
  generalize steps l 0 = ss at *
  have hUL := usN_le ss
  (refine calls_shut fun R hR => ?_; have HRR := Lib.hid hR; clear hR)
  (have HS := St.start hi; go_enter Tryd.func44, Tryd.ntmps44)
  go_wp2_with (first | (go_at_call 63; (with_reducible refine (HST.out _ HS.imm).mono ?_); rintro e w_ ⟨A1, c1, M1, rfl, hg1, hE⟩; have hs_hg1 := HS.moved.size; have HS_ := HS.callM hg1.below hg1.fresh hg1.imm; clear HS; have HS := HS_; clear HS_))
  refine wp_loop_i (σ := Nat) (fun i a w1 => i ≤ ss.length ∧ ∃ M2 v Lx, M1.le M2 ∧ M1.fresh M2 w.heap.size ∧ Row 83 1 v (usN (ss.take i)).length ((usN (ss.take i)).map uv) Lx ∧ St (fun k => w.heap.size ≤ k) w w1 M2 Lx ∧
    (∃ g : Nat → Value, a = { tmps := #[g 0, g 1, g 2, v, .slice A1 ss.length c1, .int .i64 (i : Nat), g 6, g 7, g 8, g 9, g 10, g 11, g 12, g 13, g 14, g 15, g 16, g 17, g 18, g 19, g 20, g 21], defers := [] })) (fun i => ss.length - i) 0
    ⟨Nat.zero_le _, M1, _, [], Mem.le_refl _, Mem.fresh_refl _ _, Row.nil _ _, HS, actg rfl⟩ ?_
  clear HS hi
  rintro J hJ i a w1 ⟨hi, M2, v, Lx, hle, hfr, HRow, HS, ⟨g, rfl⟩⟩
  obtain ⟨Ar_, cr_, rfl⟩ := HRow.shape
  have hE2 := hE.mono hle
  by_cases hlt : i < ss.length
  · obtain ⟨x, hx⟩ : ∃ x, ss[i]? = some x := ⟨_, List.getElem?_eq_getElem hlt⟩
    have HX := Lib.hid hx
    have HT := Lib.hid (usN_take ss i x hx)
    have hxr := HOK.out i x hx
    have HU := Lib.hid (fun w hi => UnitsOf_full M2 x.2 hxr w hi)
    have hb1 : (usN (ss.take i)).length ≤ 2 * i := by have := usN_le (ss.take i); rw [List.length_take] at this; omega
    have hb2 : (unitsOf x.2.r).length ≤ 2 := by unfold unitsOf; split <;> simp
    have HLE := Lib.hid hle
    have HFR := Lib.hid hfr
    clear hx hxr hle hfr
    generalize usN (ss.take i) = us at *
    generalize unitsOf x.2.r = vs at *
    have hlt' : (i : Int) < ss.length := by omega
    go_wp2_with (first | (((with_reducible refine' st_idx_sl ?hw ?hx ?hb ?hi ?hj ?_); (case hw => rfl); (case hx => first | exact eval_lit rfl | rfl); (case hb => assumption); (case hi => first | exact eval_lit rfl | rfl); (case hj => first | omega | (simp; omega)); intro b_ o_ hc_); have hcA := st_cells hc_ (x := x) (by simpa using HX.out); clear hc_) | ((with_reducible refine' st_load_aggM (vs := [.int .i32 (x.2.r : Nat), .int .i64 (x.2.w : Nat), .bool x.2.ok]) ?hw HS ?hx ?hc ?hl ?_); (case hw => first | rfl | (go_simp; done)); (case hx => first | exact eval_lit rfl | rfl); (case hc => exact hcA); (case hl => rfl)) | (go_at_call 27; (with_reducible refine (HU.out _ HS.imm).mono ?_); rintro e w_ ⟨A5, c5, M5, rfl, hg5, hs5⟩; have hs_hg5 := HS.moved.size; have HS_ := HS.callM hg5.below hg5.fresh hg5.imm; clear HS; have HS := HS_; clear HS_) | (((with_reducible refine' st_append (F := fun y => y) HRow HS ?hF ?hw ?h1 ?h2 ?hs ?hm ?_); (case hF => repeat (first | exact Pre.nil | apply Pre.cons)); (case hw => rfl); (case h1 => first | exact eval_lit rfl | rfl); (case h2 => first | exact eval_lit rfl | rfl); (case hs => (exact Src.sl hs5)); (case hm => omega); intro v_ Lx_ w_ HR_ HS_; clear HRow; have HRow := HR_; clear HR_; clear HS; have HS := HS_; clear HS_); obtain ⟨Ar_, cr_, rfl⟩ := HRow.shape))
    rw [← List.map_append, ← List.length_append] at HRow
    rw [← List.length_append]
    refine ⟨i + 1, hJ _ _ _ ⟨by omega, M5, _, _, Mem.le_trans HLE.out hg5.le, Mem.fresh_trans HFR.out (hg5.fresh.less hs_hg5) (Nat.le_refl _), by rw [HT.out]; exact HRow, HS, actg rfl⟩, by omega⟩
  · obtain rfl : i = ss.length := by omega
    rw [List.take_length] at HRow ⊢
    go_wp2
    obtain ⟨A', c', M3, e3, hle3, hfr3, HS3, hsl⟩ := HS.keepRow (F := fun y => y) .nil HRow (uv_one _) (fun _ h _ => h)
    cases e3
    (try go_ret)
    exact HRR.out _ _ ⟨_, _, M3, rfl, ⟨HS3.below, Mem.le_trans hg1.le (Mem.le_trans hle hle3), Mem.fresh_trans (hg1.fresh.less hs_hg1) (Mem.fresh_trans hfr hfr3 (Nat.le_refl _)) (Nat.le_refl _), HS3.imm⟩, hsl⟩
end Go.Proofs.YtbogoehjoglneaaDoor

/- walk.Units: an iterator over a rope's units. -/
namespace Go.Proofs.YtbogoehjoglneaaDoor
open Go.RowKit
set_option linter.unusedVariables false
set_option linter.unusedSimpArgs false
set_option maxRecDepth 100000
attribute [local go_sem] byt_drop byt_tail Int.toNat_natCast sOf_size

def unitV : List (Nat × Nat) → Nat × Nat → Array Value → List (Nat × Obj) → Prop := fun _ x vs Fr => vs = #[.int .i64 (x.2 : Nat), uv x.1] ∧ Fr = []
theorem zip_snoc (us : List Nat) (u : Nat) : (us ++ [u]).zipIdx = us.zipIdx ++ [(u, us.length)] := by simp [List.zipIdx_append]
theorem zip_prefix {a b : List Nat} (h : a <+: b) : a.zipIdx <+: b.zipIdx := by
  obtain ⟨t, rfl⟩ := h
  rw [List.zipIdx_append]
  exact ⟨_, rfl⟩
theorem usN_prefix {a b : List (Nat × Stp)} (h : a <+: b) : usN a <+: usN b := by
  obtain ⟨t, rfl⟩ := h
  exact ⟨usN t, by simp [usN]⟩
theorem usN_snoc (a : List (Nat × Stp)) (x : Nat × Stp) : usN (a ++ [x]) = usN a ++ unitsOf x.2.r := by simp [usN]
theorem mem_ne {M M' : Mem} (h : M.le M') {k : Nat} (g : M k ≠ none) : M' k ≠ none := by
  obtain ⟨o, ho⟩ := Option.ne_none_iff_exists'.1 g
  rw [h k o ho]
  exact fun e => by cases e
theorem mem_no {M M' : Mem} (h : M.le M') {k : Nat} (g : M' k = none) : M k = none := by
  cases e : M k with
  | none => rfl
  | some o => rw [h k o e] at g; cases g
abbrev Tau : Type := (Nat → Prop) × World
abbrev BT (t : Tau) : Nat → Prop := fun k => t.1 k ∨ t.2.heap.size ≤ k

set_option maxHeartbeats 4000000 in
theorem Units1_seq (M : Mem) (hG : Gl M) (r : Nat) (l : List UInt8) (hr : RopeAt M r l) (b1 : Nat) (h1 : M b1 = some (.cells [ptr r].toArray 27 (0, 0))) :
    SeqK Tryd.prog M 80 #[ptr b1] (usN (steps l 0)).zipIdx unitV := by
  intro l0 J Jx W hi hJ hJx h0 hY
  refine (callsIn_wide (n := 0)).2 ?_
  have HG := Lib.hid hG
  have HR := Lib.hid hr
  have HY := Lib.hid hY; have HJ := Lib.hid hJ; have HJX := Lib.hid hJx
  have hsm := hr.small
  clear hG hr hY hJ hJx
  (have HS := St.start' hi; refine calls_of_marks Tryd.func80 rfl ?_; simp only [Tryd.ntmps80, List.size_toArray, List.length_cons, List.length_nil, Nat.reduceAdd, Nat.reduceSub, Array.replicate_succ, Array.replicate_zero, List.push_toArray, List.append_toArray, List.nil_append, List.cons_append])
  go_wp2_with (first | ((with_reducible refine' q_alloc ?_); refine' a_alloc HS ?_; clear HS; intro b_ w_ HS) | ((with_reducible refine' q_box ?_); refine' a_box2 HS ?_; clear HS; intro b_ w_ HS) | ((with_reducible refine' q_load ?_); refine' a_load HS ?_) | ((with_reducible refine' q_store ?_); refine' a_store2 HS ?_; clear HS; intro w_ HS) | (go_at_call 25; (with_reducible refine (Steps_any M r 0 _ HS.imm).mono ?_); rintro e w_ ⟨c1, c2, M2, rfl, hg2, q1, q2⟩; have hs_hg2 := HS.moved.size; have HS_ := HS.callM hg2.below hg2.fresh hg2.imm; clear HS; have HS := HS_; clear HS_))
  rename_i b2 _ _ _
  obtain ⟨b3, hb_⟩ : ∃ b3, b3 = b_ := ⟨_, rfl⟩; subst hb_
  have hfl : floorN l 0 = 0 := by have := floor_le l 0; omega
  have hseq := Steps1_seq M2 (HG.out.mono hg2.le) r l (HR.out.mono hg2.le) c1 c2 0 (Nat.zero_le _) q1 q2
  have hsF : stepsF l 0 = steps l 0 := by unfold stepsF; rw [hfl, List.drop_zero]
  rw [hsF] at hseq
  have hok := fun i (x : Nat × Stp) (h : (steps l 0)[i]? = some x) => (show okR x.2.r by rw [(step_at h).2.2]; exact stp_okR _)
  have HOK := Lib.hid hok
  have hN := steps_len l
  clear hsF hfl hok q1 q2
  obtain ⟨ss, hss⟩ : ∃ ss, ss = steps l 0 := ⟨_, rfl⟩
  rw [← hss] at hseq hN HOK HY
  have HSS := Lib.hid hss
  clear hss
  have hle02 := Lib.hid hg2.le
  have hMB0 : ∀ k, M2 k ≠ none → M k = none → (fun _ => False) k ∨ W.heap.size ≤ k := fun k a b => .inr (Nat.le_trans hs_hg2 (hg2.fresh k b a))
  have hUL := usN_le ss
  clear hg2 hs_hg2 HG HR
  refine' wp_rangeG (τ := Tau) (Bt := BT) (wt := fun t => t.2) (t0 := (fun _ => False, W)) HS rfl (enters_of Tryd.func64 (by kernel_rfl) rfl) (SeqK.of_C hseq) ?hps
    (fun t pre L => (∀ k, M2 k ≠ none → M k = none → BT t k) ∧ J (usN pre).zipIdx t.1 t.2 ∧ L = [(b3, .cells [.int .i64 ((usN pre).length : Nat)].toArray 3 (0, 0)), (b2, .cells [.func (.yield l0) #[] #[]].toArray 144 (0, 0))])
    (fun t c pre L => c = .ret ∧ ∃ pu, pu <+: (usN ss).zipIdx ∧ Jx pu t.1 t.2) ?h0 ?hround ?hdone ?hstop
  case h0 => exact ⟨hMB0, h0, rfl⟩
  case hps => rintro _ _ _ _ ⟨rfl, rfl⟩; rfl
  case hround =>
    clear HS hMB0 h0
    intro t lp D o1 o2 pre z vs Fr L' M3 W1 K hpre hΦ hV hle1 hB1 HS hK
    obtain ⟨rfl, rfl⟩ := hV
    obtain ⟨hMB, hJp, rfl⟩ := hΦ
    have hz : okR z.2.r := by
      obtain ⟨tl, e⟩ := hpre
      exact HOK.out pre.length z (by rw [← e, List.append_assoc, List.getElem?_append_right (Nat.le_refl _), Nat.sub_self]; rfl)
    have hup := usN_prefix hpre
    rw [usN_snoc] at hup
    rw [List.nil_append] at HS
    have HUS := Lib.hid (usN_snoc pre z)
    have hul := hup.length_le
    rw [List.length_append] at hul
    generalize usN pre = us at *
    have HUP := Lib.hid hup; clear hup hpre
    have HMB := Lib.hid hMB; have HJP := Lib.hid hJp; have HB1 := Lib.hid hB1; have HLE1 := Lib.hid hle1
    clear hMB hJp hB1 hle1 hseq
    have hzr : (z.2.r : Int) ≤ 1114111 := by have := hz.1; omega
    simp only [List.zip_toArray, List.foldl_toArray, List.zip_cons_cons, List.zip_nil_right, List.foldl_cons, List.foldl_nil, List.setIfInBounds_toArray, List.set_cons_succ, List.set_cons_zero, List.size_toArray, List.length_cons, List.length_nil, List.foldl_toArray']
    repeat' (first | ((with_reducible refine' q_alloc ?_); refine' a_alloc HS ?_; clear HS; intro b_ w_ HS) | ((with_reducible refine' q_box ?_); refine' a_box2 HS ?_; clear HS; intro b_ w_ HS) | ((with_reducible refine' q_load ?_); refine' a_load HS ?_) | ((with_reducible refine' q_store ?_); refine' a_store2 HS ?_; clear HS; intro w_ HS) | ((with_reducible refine' wpIn_region_plain ?hd ?hno ?_); (case hd => rfl); (case hno => (rintro ⟨_, _, h⟩; first | exact (h : False) | exact hNO ⟨_, _, h⟩ | exact (h : (∃ v, Ending.outgrown = Ending.returned v) ∧ _).1.elim (fun v hv => nomatch hv) | exact (h : Ending.outgrown = Ending.returned _ ∧ _).1.elim | exact (h : (Ending.outgrown = Ending.returned _ ∧ _) ∨ (Ending.outgrown = Ending.returned _ ∧ _)).elim (fun h => nomatch h.1) (fun h => nomatch h.1)))) | go_values | go_skip | go_guarded | go_step | go_upon | gi_step | (simp only [Int.not_lt, Int.not_le] at *; go_simp) | (go_values <;> (try go_simp)) | (go_ite <;> go_prune <;> (try go_simp)) | (split <;> (first | (rename_i hx; exact (hx _ rfl).elim) | go_prune)))
    refine hK _ _ _ _ (Mem.le_refl _) HS.sink ?_
    clear hK HS
    intro o3 W2 HS
    refine wpIn_shut (by (rintro ⟨_, _, h⟩; first | exact (h : False) | exact hNO ⟨_, _, h⟩ | exact (h : (∃ v, Ending.outgrown = Ending.returned v) ∧ _).1.elim (fun v hv => nomatch hv) | exact (h : Ending.outgrown = Ending.returned _ ∧ _).1.elim | exact (h : (Ending.outgrown = Ending.returned _ ∧ _) ∨ (Ending.outgrown = Ending.returned _ ∧ _)).elim (fun h => nomatch h.1) (fun h => nomatch h.1))) fun Q hNO hQ => ?_
    have HQ := Lib.hid hQ
    clear hQ
    obtain ⟨b5, hb_⟩ : ∃ b5, b5 = b_ := ⟨_, rfl⟩; subst hb_
    by_cases h2 : 65535 < z.2.r
    · have hsp := fun w hi => USplit_two M3 z.2.r hz h2 w hi
      obtain ⟨u1, hu1⟩ : ∃ u1 : Int, uv (hiU z.2.r) = .int .u16 u1 := ⟨_, rfl⟩
      obtain ⟨u2, hu2⟩ : ∃ u2 : Int, uv (loU z.2.r) = .int .u16 u2 := ⟨_, rfl⟩
      rw [hu1, hu2] at hsp
      have HSP := Lib.hid hsp; have HU1 := Lib.hid hu1; have HU2 := Lib.hid hu2; have H2 := Lib.hid h2
      clear hsp hu1 hu2 h2
      repeat' (first | ((with_reducible refine' q_alloc ?_); refine' a_alloc HS ?_; clear HS; intro b_ w_ HS) | ((with_reducible refine' q_box ?_); refine' a_box2 HS ?_; clear HS; intro b_ w_ HS) | ((with_reducible refine' q_load ?_); refine' a_load HS ?_) | ((with_reducible refine' q_store ?_); refine' a_store2 HS ?_; clear HS; intro w_ HS) | (((with_reducible refine' st_build (len := 1) (cl := [.int .u16 (IntKind.u16.wrap (z.2.r : Int))]) ?hw HS ?hl ?h0 ?hf ?_); (case hw => rfl); (case hl => rfl); (case h0 => rfl); (case hf => go_simp); intro b_ w_ HS_; clear HS; have HS := HS_; clear HS_); generalize IntKind.u16.wrap (z.2.r : Int) = wv_ at HS ⊢) | ((with_reducible refine' st_build (len := 2) (cl := [.int .u16 u1, .int .u16 u2]) ?hw HS ?hl ?h0 ?hf ?_); (case hw => rfl); (case hl => rfl); (case h0 => rfl); (case hf => go_simp); intro b_ w_ HS_; clear HS; have HS := HS_; clear HS_) | (go_at_call 81; (with_reducible refine (HSP.out _ HS.imm).mono ?_); rintro e w_ ⟨rfl, hb_⟩; have HS_ := HS.call hb_; clear HS hb_; have HS := HS_; clear HS_) | ((with_reducible refine' wpIn_region_plain ?hd ?hno ?_); (case hd => rfl); (case hno => (rintro ⟨_, _, h⟩; first | exact (h : False) | exact hNO ⟨_, _, h⟩ | exact (h : (∃ v, Ending.outgrown = Ending.returned v) ∧ _).1.elim (fun v hv => nomatch hv) | exact (h : Ending.outgrown = Ending.returned _ ∧ _).1.elim | exact (h : (Ending.outgrown = Ending.returned _ ∧ _) ∨ (Ending.outgrown = Ending.returned _ ∧ _)).elim (fun h => nomatch h.1) (fun h => nomatch h.1)))) | go_values | go_skip | go_guarded | go_step | go_upon | gi_step | (simp only [Int.not_lt, Int.not_le] at *; go_simp) | (go_values <;> (try go_simp)) | (go_ite <;> go_prune <;> (try go_simp)) | (split <;> (first | (rename_i hx; exact (hx _ rfl).elim) | go_prune)))
      obtain ⟨VL, hVL⟩ : ∃ VL, VL = unitsOf z.2.r := ⟨_, rfl⟩
      have hVS : VL.map uv = [.int .u16 u1, .int .u16 u2] := by rw [hVL]; unfold unitsOf; rw [if_pos H2.out]; show [uv _, uv _] = _; rw [HU1.out, HU2.out]
      have hVN : VL.length = 2 := by rw [hVL]; unfold unitsOf; rw [if_pos H2.out]; rfl
      have hM3 : Hid (M3.le (M3.add b_ (.cells [.int .u16 u1, .int .u16 u2].toArray 83 (0, 0)))) := Lib.hid (Mem.le_add (HS.base _ (.head _)).2)
      have hbB := (HS.base _ (.head _)).1
      have HS_ := HS.keep.drop; clear HS; have HS := HS_; clear HS_
      have hsl : SL (M3.add b_ (.cells [.int .u16 u1, .int .u16 u2].toArray 83 (0, 0))) 1 (some ⟨b_, 0, none⟩) 2 2 (VL.map uv) := by
        have := SL.lit (xs := [.int .u16 u1, .int .u16 u2]) (Mem.add_same M3 b_ (.cells [.int .u16 u1, .int .u16 u2].toArray 83 (0, 0))) (by rw [← hVS]; exact uv_one _)
        rw [hVS]; exact this
      have HBb := Lib.hid (fun k (g1 : (M3.add b_ (.cells [.int .u16 u1, .int .u16 u2].toArray 83 (0, 0))) k ≠ none) (g2 : M k = none) => show BT t k by
        unfold Mem.add at g1
        split at g1
        · rename_i hk; subst hk; exact hbB
        · cases e : M2 k with
          | none => exact HB1.out k g1 e
          | some o => exact HMB.out k (by rw [e]; exact fun h => by cases h) g2)
      generalize M3.add b_ (.cells [.int .u16 u1, .int .u16 u2].toArray 83 (0, 0)) = M4 at *
      rw [← hVL] at HUS HUP hul
      have HVN := Lib.hid hVN
      have HRT := Lib.hid (fun k (g1 : M3 k ≠ none) (g2 : M2 k = none) => show M4 k ≠ none ∧ M k = none from ⟨mem_ne hM3.out g1, mem_no hle02.out g2⟩)
      have HM24 := Lib.hid (fun k (g1 : M2 k ≠ none) => mem_ne (Mem.le_trans HLE1.out hM3.out) g1)
      have hle4 := Lib.hid (Mem.le_trans hle02.out (Mem.le_trans HLE1.out hM3.out))
      have hul2 : us.length + 2 ≤ 536870912 := by omega
      clear hVS hVL hVN hbB HSP H2 HU1 HU2 hul
      refine wpIn_loop_i (σ := Nat × Tau) (fun q a w1 => q.1 ≤ 2 ∧ (∀ k, M4 k ≠ none → M k = none → BT q.2 k) ∧ J (us ++ VL.take q.1).zipIdx q.2.1 q.2.2 ∧
        St (BT q.2) q.2.2 w1 M4 [(lp, o3), (D, o2), (b5, .cells [.int .i32 (z.2.r : Nat), .int .i64 (z.2.w : Nat), .bool z.2.ok].toArray 43 (0, 0)), (b3, .cells [.int .i64 ((us.length + q.1 : Nat))].toArray 3 (0, 0)), (b2, .cells [.func (.yield l0) #[] #[]].toArray 144 (0, 0))] ∧
        (∃ g : Nat → Value, a = { tmps := #[g 0, g 1, ptr b2, ptr b3, g 4, g 5, g 6, g 7, g 8, g 9, g 10, g 11, g 12, g 13, g 14, g 15, g 16, g 17, g 18, g 19, g 20, g 21, g 22, g 23, g 24, g 25, g 26, g 27, g 28, g 29, g 30, .slice (some ⟨b_, 0, none⟩) 2 2, .int .i64 2, .int .i64 (q.1 : Nat), g 34, g 35, g 36, g 37, g 38, g 39, g 40, g 41, g 42, g 43, g 44], defers := [] })) (fun q => 2 - q.1) (0, t)
        ⟨Nat.zero_le _, HBb.out, by rw [List.take_zero, List.append_nil]; exact HJP.out, by rw [Nat.add_zero]; exact HS, actg rfl⟩ ?_
      clear HS HBb HJP
      rintro J2 hJ2 ⟨j, t2⟩ a w1 ⟨hj, hB2, hJp, HS, ⟨g, rfl⟩⟩
      have hj : j ≤ 2 := hj
      simp only at hB2 hJp HS
      by_cases hlt : j < 2
      · obtain ⟨u, hu⟩ : ∃ u, VL[j]? = some u := ⟨_, List.getElem?_eq_getElem (by rw [HVN.out]; exact hlt)⟩
        have hZ : (us ++ VL.take (j + 1)).zipIdx = (us ++ VL.take j).zipIdx ++ [(u, us.length + j)] := by
          rw [List.take_add_one, hu, Option.toList_some, ← List.append_assoc, zip_snoc, List.length_append, List.length_take, Nat.min_eq_left (by rw [HVN.out]; omega)]
        have hP : ((us ++ VL.take j).zipIdx ++ [(u, us.length + j)]) <+: (usN ss).zipIdx := by
          rw [← hZ]
          refine zip_prefix (List.IsPrefix.trans ?_ HUP.out)
          exact ⟨VL.drop (j + 1), by rw [List.append_assoc, List.take_append_drop]⟩
        have HU := Lib.hid hu; have HZ := Lib.hid hZ; have HP := Lib.hid hP; have HB2 := Lib.hid hB2; have HJP := Lib.hid hJp
        have hlt' : (j : Int) < 2 := by omega
        clear hu hZ hP hB2 hJp
        repeat' (first | (((with_reducible refine' wpIn_region_yield (id := 11) 3 ?hd ?hno ?_); (case hd => rfl); (case hno => (rintro ⟨_, _, h⟩; first | exact (h : False) | exact hNO ⟨_, _, h⟩ | exact (h : (∃ v, Ending.outgrown = Ending.returned v) ∧ _).1.elim (fun v hv => nomatch hv) | exact (h : Ending.outgrown = Ending.returned _ ∧ _).1.elim | exact (h : (Ending.outgrown = Ending.returned _ ∧ _) ∨ (Ending.outgrown = Ending.returned _ ∧ _)).elim (fun h => nomatch h.1) (fun h => nomatch h.1))); intro K_ hK_; simp only [List.take_succ_cons, List.take_zero, List.drop_succ_cons, List.drop_zero] at hK_ ⊢); (repeat' (first | (simp only [Act.put, List.setIfInBounds_toArray, List.set_cons_zero, List.set_cons_succ]) | ((with_reducible refine' q_alloc ?_); refine' a_alloc HS ?_; clear HS; intro b_ w_ HS) | ((with_reducible refine' q_box ?_); refine' a_box HS ?_; clear HS; intro b_ w_ HS) | ((with_reducible refine' q_load ?_); refine' a_load HS ?_) | ((with_reducible refine' q_store ?_); refine' a_store HS ?_; clear HS; intro w_ HS) | go_values | go_skip | go_guarded | go_step | go_upon | go_back | (simp only [Int.not_lt, Int.not_le] at *; go_simp) | (go_values <;> (try go_simp)) | (go_ite <;> go_prune <;> (try go_simp)) | (split <;> (first | (rename_i hx; exact (hx _ rfl).elim) | go_prune)))); ((with_reducible refine' st_yieldIn ?hw ?hx ?hargs ?hd ?hno ?hy ?_); (case hw => first | rfl | (go_simp; done)); (case hx => first | exact eval_lit rfl | rfl); (case hy => exact HY.out _ (u, us.length + j) _ _ t2.1 _ t2.2 _ HP.out HJP.out HS.movesO (HS.grown2 HB2.out) ⟨rfl, rfl⟩ (Fresh.nil _ _ _)); (case hargs => first | (go_simp; done) | rfl); (case hd => rfl); (case hno => (rintro ⟨_, _, h⟩; first | exact (h : False) | exact hNO ⟨_, _, h⟩ | exact (h : (∃ v, Ending.outgrown = Ending.returned v) ∧ _).1.elim (fun v hv => nomatch hv) | exact (h : Ending.outgrown = Ending.returned _ ∧ _).1.elim | exact (h : (Ending.outgrown = Ending.returned _ ∧ _) ∨ (Ending.outgrown = Ending.returned _ ∧ _)).elim (fun h => nomatch h.1) (fun h => nomatch h.1)))); rintro e W' (⟨rfl, hJ', hK'⟩ | ⟨rfl, hJx', hK'⟩); all_goals (first | have HS_ := HS.again2 (fun p hp => .inl (List.mem_map.2 ⟨p, hp, rfl⟩)) (fun k a b => .inr ⟨a, b⟩) hle4.out hK' (HJ.out _ _ _ hJ') | have HS_ := HS.again2 (fun p hp => .inl (List.mem_map.2 ⟨p, hp, rfl⟩)) (fun k a b => .inr ⟨a, b⟩) hle4.out hK' (HJX.out _ _ _ hJx')); all_goals (clear HS; have HS := HS_; clear HS_ hK'; refine ⟨_, rfl, ?_⟩)) | ((with_reducible refine' q_alloc ?_); refine' a_alloc HS ?_; clear HS; intro b_ w_ HS) | ((with_reducible refine' q_box ?_); refine' a_box HS ?_; clear HS; intro b_ w_ HS) | ((with_reducible refine' q_load ?_); refine' a_load HS ?_) | ((with_reducible refine' q_store ?_); refine' a_store HS ?_; clear HS; intro w_ HS) | (((with_reducible refine' st_idx_sl ?hw ?hx ?hb ?hi ?hj ?_); (case hw => rfl); (case hx => first | exact eval_lit rfl | rfl); (case hb => assumption); (case hi => first | exact eval_lit rfl | rfl); (case hj => first | omega | (simp; omega)); intro b_ o_ hc_); have hcB := hc_ 0 (uv u) (by simpa [List.getElem?_map] using congrArg (Option.map uv) HU.out); rw [Nat.add_zero] at hcB) | (clear hc_; ((with_reducible refine' st_load_cellM ?hw HS ?hx ?hc ?_); (case hw => rfl); (case hx => first | exact eval_lit rfl | rfl); (case hc => assumption))) | ((with_reducible refine' wpIn_region_plain ?hd ?hno ?_); (case hd => rfl); (case hno => (rintro ⟨_, _, h⟩; first | exact (h : False) | exact hNO ⟨_, _, h⟩ | exact (h : (∃ v, Ending.outgrown = Ending.returned v) ∧ _).1.elim (fun v hv => nomatch hv) | exact (h : Ending.outgrown = Ending.returned _ ∧ _).1.elim | exact (h : (Ending.outgrown = Ending.returned _ ∧ _) ∨ (Ending.outgrown = Ending.returned _ ∧ _)).elim (fun h => nomatch h.1) (fun h => nomatch h.1)))) | go_values | go_skip | go_guarded | go_step | go_upon | gi_step | (simp only [Int.not_lt, Int.not_le] at *; go_simp) | (go_values <;> (try go_simp)) | (go_ite <;> go_prune <;> (try go_simp)) | (split <;> (first | (rename_i hx; exact (hx _ rfl).elim) | go_prune)))
        all_goals first
          | exact HQ.out _ _ _ ⟨(_, W'), fun k a b => .inl (.inr (HRT.out k a b)), M4, _, hM3.out, HS, rfl, _, HP.out, hJx'⟩
          | exact ⟨(j + 1, (_, W')), hJ2 _ _ _ ⟨hlt, fun k a b => .inl (.inr ⟨a, b⟩), by rw [HZ.out]; exact hJ', HS, actg rfl⟩, by omega⟩
          | exact ⟨j + 1, ⟨_, W', hJ2 _ _ _ ⟨hlt, fun k a b => .inl (.inr ⟨a, b⟩), by rw [HZ.out]; exact hJ', HS, actg rfl⟩⟩, by omega⟩
      · have hjn : j = 2 := by omega
        subst hjn
        have HB2 := Lib.hid hB2; have HJP := Lib.hid hJp
        clear hB2 hJp hlt
        repeat' (first | ((with_reducible refine' q_alloc ?_); refine' a_alloc HS ?_; clear HS; intro b_ w_ HS) | ((with_reducible refine' q_box ?_); refine' a_box2 HS ?_; clear HS; intro b_ w_ HS) | ((with_reducible refine' q_load ?_); refine' a_load HS ?_) | ((with_reducible refine' q_store ?_); refine' a_store2 HS ?_; clear HS; intro w_ HS) | ((with_reducible refine' wpIn_region_plain ?hd ?hno ?_); (case hd => rfl); (case hno => (rintro ⟨_, _, h⟩; first | exact (h : False) | exact hNO ⟨_, _, h⟩ | exact (h : (∃ v, Ending.outgrown = Ending.returned v) ∧ _).1.elim (fun v hv => nomatch hv) | exact (h : Ending.outgrown = Ending.returned _ ∧ _).1.elim | exact (h : (Ending.outgrown = Ending.returned _ ∧ _) ∨ (Ending.outgrown = Ending.returned _ ∧ _)).elim (fun h => nomatch h.1) (fun h => nomatch h.1)))) | go_values | go_skip | go_guarded | go_step | go_upon | gi_step | (simp only [Int.not_lt, Int.not_le] at *; go_simp) | (go_values <;> (try go_simp)) | (go_ite <;> go_prune <;> (try go_simp)) | (split <;> (first | (rename_i hx; exact (hx _ rfl).elim) | go_prune)))
        refine HQ.out _ _ _ ⟨t2, fun k a b => HB2.out k (HRT.out k a b).1 (HRT.out k a b).2, M4, _, hM3.out, HS.drop3, fun k a b => HB2.out k (HM24.out k a) b, ?_, ?_⟩
        · rw [HUS.out]
          have := HJP.out
          rwa [List.take_of_length_le (by rw [HVN.out]; exact Nat.le_refl _)] at this
        · rw [HUS.out, List.length_append, HVN.out]
    · have HSP := Lib.hid (fun w hi => USplit_one M3 z.2.r hz h2 w hi)
      have hz6 : (z.2.r : Int) ≤ 65535 := by omega
      repeat' (first | ((with_reducible refine' q_alloc ?_); refine' a_alloc HS ?_; clear HS; intro b_ w_ HS) | ((with_reducible refine' q_box ?_); refine' a_box2 HS ?_; clear HS; intro b_ w_ HS) | ((with_reducible refine' q_load ?_); refine' a_load HS ?_) | ((with_reducible refine' q_store ?_); refine' a_store2 HS ?_; clear HS; intro w_ HS) | ((with_reducible refine' st_build (cl := [.int .u16 (z.2.r : Nat)]) ?hw HS ?hl ?h0 ?hf ?_); (case hw => rfl); (case hl => rfl); (case h0 => rfl); (case hf => first | (go_simp; done) | rfl | (simp [Instr.fill]; done)); intro b_ w_ HS_; clear HS; have HS := HS_; clear HS_) | (go_at_call 81; (with_reducible refine (HSP.out _ HS.imm).mono ?_); rintro e w_ ⟨rfl, hb_⟩; have HS_ := HS.call hb_; clear HS hb_; have HS := HS_; clear HS_) | ((with_reducible refine' wpIn_region_plain ?hd ?hno ?_); (case hd => rfl); (case hno => (rintro ⟨_, _, h⟩; first | exact (h : False) | exact hNO ⟨_, _, h⟩ | exact (h : (∃ v, Ending.outgrown = Ending.returned v) ∧ _).1.elim (fun v hv => nomatch hv) | exact (h : Ending.outgrown = Ending.returned _ ∧ _).1.elim | exact (h : (Ending.outgrown = Ending.returned _ ∧ _) ∨ (Ending.outgrown = Ending.returned _ ∧ _)).elim (fun h => nomatch h.1) (fun h => nomatch h.1)))) | go_values | go_skip | go_guarded | go_step | go_upon | gi_step | (simp only [Int.not_lt, Int.not_le] at *; go_simp) | (go_values <;> (try go_simp)) | (go_ite <;> go_prune <;> (try go_simp)) | (split <;> (first | (rename_i hx; exact (hx _ rfl).elim) | go_prune)))
      obtain ⟨VL, hVL⟩ : ∃ VL, VL = unitsOf z.2.r := ⟨_, rfl⟩
      have hVS : VL.map uv = [.int .u16 (z.2.r : Nat)] := by rw [hVL]; unfold unitsOf; rw [if_neg h2]; rfl
      have hVN : VL.length = 1 := by rw [hVL]; unfold unitsOf; rw [if_neg h2]; rfl
      have hM3 : Hid (M3.le (M3.add b_ (.cells [.int .u16 (z.2.r : Nat)].toArray 83 (0, 0)))) := Lib.hid (Mem.le_add (HS.base _ (.head _)).2)
      have hbB := (HS.base _ (.head _)).1
      have HS_ := HS.keep; clear HS; have HS := HS_; clear HS_
      have hsl : SL (M3.add b_ (.cells [.int .u16 (z.2.r : Nat)].toArray 83 (0, 0))) 1 (some ⟨b_, 0, none⟩) 1 1 (VL.map uv) := by
        have := SL.lit (xs := [.int .u16 (z.2.r : Nat)]) (Mem.add_same M3 b_ (.cells [.int .u16 (z.2.r : Nat)].toArray 83 (0, 0))) (by rw [← hVS]; exact uv_one _)
        rw [hVS]; exact this
      have HBb := Lib.hid (fun k (g1 : (M3.add b_ (.cells [.int .u16 (z.2.r : Nat)].toArray 83 (0, 0))) k ≠ none) (g2 : M k = none) => show BT t k by
        unfold Mem.add at g1
        split at g1
        · rename_i hk; subst hk; exact hbB
        · cases e : M2 k with
          | none => exact HB1.out k g1 e
          | some o => exact HMB.out k (by rw [e]; exact fun h => by cases h) g2)
      generalize M3.add b_ (.cells [.int .u16 (z.2.r : Nat)].toArray 83 (0, 0)) = M4 at *
      rw [← hVL] at HUS HUP hul
      have HVN := Lib.hid hVN
      have HRT := Lib.hid (fun k (g1 : M3 k ≠ none) (g2 : M2 k = none) => show M4 k ≠ none ∧ M k = none from ⟨mem_ne hM3.out g1, mem_no hle02.out g2⟩)
      have HM24 := Lib.hid (fun k (g1 : M2 k ≠ none) => mem_ne (Mem.le_trans HLE1.out hM3.out) g1)
      have hle4 := Lib.hid (Mem.le_trans hle02.out (Mem.le_trans HLE1.out hM3.out))
      have hul2 : us.length + 1 ≤ 536870912 := by omega
      clear hVS hVL hVN hbB HSP h2 hul
      refine wpIn_loop_i (σ := Nat × Tau) (fun q a w1 => q.1 ≤ 1 ∧ (∀ k, M4 k ≠ none → M k = none → BT q.2 k) ∧ J (us ++ VL.take q.1).zipIdx q.2.1 q.2.2 ∧
        St (BT q.2) q.2.2 w1 M4 [(lp, o3), (D, o2), (b5, .cells [.int .i32 (z.2.r : Nat), .int .i64 (z.2.w : Nat), .bool z.2.ok].toArray 43 (0, 0)), (b3, .cells [.int .i64 ((us.length + q.1 : Nat))].toArray 3 (0, 0)), (b2, .cells [.func (.yield l0) #[] #[]].toArray 144 (0, 0))] ∧
        (∃ g : Nat → Value, a = { tmps := #[g 0, g 1, ptr b2, ptr b3, g 4, g 5, g 6, g 7, g 8, g 9, g 10, g 11, g 12, g 13, g 14, g 15, g 16, g 17, g 18, g 19, g 20, g 21, g 22, g 23, g 24, g 25, g 26, g 27, g 28, g 29, g 30, .slice (some ⟨b_, 0, none⟩) 1 1, .int .i64 1, .int .i64 (q.1 : Nat), g 34, g 35, g 36, g 37, g 38, g 39, g 40, g 41, g 42, g 43, g 44], defers := [] })) (fun q => 1 - q.1) (0, t)
        ⟨Nat.zero_le _, HBb.out, by rw [List.take_zero, List.append_nil]; exact HJP.out, by rw [Nat.add_zero]; exact HS, actg rfl⟩ ?_
      clear HS HBb HJP
      rintro J2 hJ2 ⟨j, t2⟩ a w1 ⟨hj, hB2, hJp, HS, ⟨g, rfl⟩⟩
      have hj : j ≤ 1 := hj
      simp only at hB2 hJp HS
      by_cases hlt : j < 1
      · obtain ⟨u, hu⟩ : ∃ u, VL[j]? = some u := ⟨_, List.getElem?_eq_getElem (by rw [HVN.out]; exact hlt)⟩
        have hZ : (us ++ VL.take (j + 1)).zipIdx = (us ++ VL.take j).zipIdx ++ [(u, us.length + j)] := by
          rw [List.take_add_one, hu, Option.toList_some, ← List.append_assoc, zip_snoc, List.length_append, List.length_take, Nat.min_eq_left (by rw [HVN.out]; omega)]
        have hP : ((us ++ VL.take j).zipIdx ++ [(u, us.length + j)]) <+: (usN ss).zipIdx := by
          rw [← hZ]
          refine zip_prefix (List.IsPrefix.trans ?_ HUP.out)
          exact ⟨VL.drop (j + 1), by rw [List.append_assoc, List.take_append_drop]⟩
        have HU := Lib.hid hu; have HZ := Lib.hid hZ; have HP := Lib.hid hP; have HB2 := Lib.hid hB2; have HJP := Lib.hid hJp
        have hlt' : (j : Int) < 1 := by omega
        clear hu hZ hP hB2 hJp
        repeat' (first | (((with_reducible refine' wpIn_region_yield (id := 11) 3 ?hd ?hno ?_); (case hd => rfl); (case hno => (rintro ⟨_, _, h⟩; first | exact (h : False) | exact hNO ⟨_, _, h⟩ | exact (h : (∃ v, Ending.outgrown = Ending.returned v) ∧ _).1.elim (fun v hv => nomatch hv) | exact (h : Ending.outgrown = Ending.returned _ ∧ _).1.elim | exact (h : (Ending.outgrown = Ending.returned _ ∧ _) ∨ (Ending.outgrown = Ending.returned _ ∧ _)).elim (fun h => nomatch h.1) (fun h => nomatch h.1))); intro K_ hK_; simp only [List.take_succ_cons, List.take_zero, List.drop_succ_cons, List.drop_zero] at hK_ ⊢); (repeat' (first | (simp only [Act.put, List.setIfInBounds_toArray, List.set_cons_zero, List.set_cons_succ]) | ((with_reducible refine' q_alloc ?_); refine' a_alloc HS ?_; clear HS; intro b_ w_ HS) | ((with_reducible refine' q_box ?_); refine' a_box HS ?_; clear HS; intro b_ w_ HS) | ((with_reducible refine' q_load ?_); refine' a_load HS ?_) | ((with_reducible refine' q_store ?_); refine' a_store HS ?_; clear HS; intro w_ HS) | go_values | go_skip | go_guarded | go_step | go_upon | go_back | (simp only [Int.not_lt, Int.not_le] at *; go_simp) | (go_values <;> (try go_simp)) | (go_ite <;> go_prune <;> (try go_simp)) | (split <;> (first | (rename_i hx; exact (hx _ rfl).elim) | go_prune)))); ((with_reducible refine' st_yieldIn ?hw ?hx ?hargs ?hd ?hno ?hy ?_); (case hw => first | rfl | (go_simp; done)); (case hx => first | exact eval_lit rfl | rfl); (case hy => exact HY.out _ (u, us.length + j) _ _ t2.1 _ t2.2 _ HP.out HJP.out HS.movesO (HS.grown2 HB2.out) ⟨rfl, rfl⟩ (Fresh.nil _ _ _)); (case hargs => first | (go_simp; done) | rfl); (case hd => rfl); (case hno => (rintro ⟨_, _, h⟩; first | exact (h : False) | exact hNO ⟨_, _, h⟩ | exact (h : (∃ v, Ending.outgrown = Ending.returned v) ∧ _).1.elim (fun v hv => nomatch hv) | exact (h : Ending.outgrown = Ending.returned _ ∧ _).1.elim | exact (h : (Ending.outgrown = Ending.returned _ ∧ _) ∨ (Ending.outgrown = Ending.returned _ ∧ _)).elim (fun h => nomatch h.1) (fun h => nomatch h.1)))); rintro e W' (⟨rfl, hJ', hK'⟩ | ⟨rfl, hJx', hK'⟩); all_goals (first | have HS_ := HS.again2 (fun p hp => .inl (List.mem_map.2 ⟨p, hp, rfl⟩)) (fun k a b => .inr ⟨a, b⟩) hle4.out hK' (HJ.out _ _ _ hJ') | have HS_ := HS.again2 (fun p hp => .inl (List.mem_map.2 ⟨p, hp, rfl⟩)) (fun k a b => .inr ⟨a, b⟩) hle4.out hK' (HJX.out _ _ _ hJx')); all_goals (clear HS; have HS := HS_; clear HS_ hK'; refine ⟨_, rfl, ?_⟩)) | ((with_reducible refine' q_alloc ?_); refine' a_alloc HS ?_; clear HS; intro b_ w_ HS) | ((with_reducible refine' q_box ?_); refine' a_box HS ?_; clear HS; intro b_ w_ HS) | ((with_reducible refine' q_load ?_); refine' a_load HS ?_) | ((with_reducible refine' q_store ?_); refine' a_store HS ?_; clear HS; intro w_ HS) | (((with_reducible refine' st_idx_sl ?hw ?hx ?hb ?hi ?hj ?_); (case hw => rfl); (case hx => first | exact eval_lit rfl | rfl); (case hb => assumption); (case hi => first | exact eval_lit rfl | rfl); (case hj => first | omega | (simp; omega)); intro b_ o_ hc_); have hcB := hc_ 0 (uv u) (by simpa [List.getElem?_map] using congrArg (Option.map uv) HU.out); rw [Nat.add_zero] at hcB) | (clear hc_; ((with_reducible refine' st_load_cellM ?hw HS ?hx ?hc ?_); (case hw => rfl); (case hx => first | exact eval_lit rfl | rfl); (case hc => assumption))) | ((with_reducible refine' wpIn_region_plain ?hd ?hno ?_); (case hd => rfl); (case hno => (rintro ⟨_, _, h⟩; first | exact (h : False) | exact hNO ⟨_, _, h⟩ | exact (h : (∃ v, Ending.outgrown = Ending.returned v) ∧ _).1.elim (fun v hv => nomatch hv) | exact (h : Ending.outgrown = Ending.returned _ ∧ _).1.elim | exact (h : (Ending.outgrown = Ending.returned _ ∧ _) ∨ (Ending.outgrown = Ending.returned _ ∧ _)).elim (fun h => nomatch h.1) (fun h => nomatch h.1)))) | go_values | go_skip | go_guarded | go_step | go_upon | gi_step | (simp only [Int.not_lt, Int.not_le] at *; go_simp) | (go_values <;> (try go_simp)) | (go_ite <;> go_prune <;> (try go_simp)) | (split <;> (first | (rename_i hx; exact (hx _ rfl).elim) | go_prune)))
        all_goals first
          | exact HQ.out _ _ _ ⟨(_, W'), fun k a b => .inl (.inr (HRT.out k a b)), M4, _, hM3.out, HS, rfl, _, HP.out, hJx'⟩
          | exact ⟨(j + 1, (_, W')), hJ2 _ _ _ ⟨hlt, fun k a b => .inl (.inr ⟨a, b⟩), by rw [HZ.out]; exact hJ', HS, actg rfl⟩, by omega⟩
          | exact ⟨j + 1, ⟨_, W', hJ2 _ _ _ ⟨hlt, fun k a b => .inl (.inr ⟨a, b⟩), by rw [HZ.out]; exact hJ', HS, actg rfl⟩⟩, by omega⟩
      · have hjn : j = 1 := by omega
        subst hjn
        have HB2 := Lib.hid hB2; have HJP := Lib.hid hJp
        clear hB2 hJp hlt
        repeat' (first | ((with_reducible refine' q_alloc ?_); refine' a_alloc HS ?_; clear HS; intro b_ w_ HS) | ((with_reducible refine' q_box ?_); refine' a_box2 HS ?_; clear HS; intro b_ w_ HS) | ((with_reducible refine' q_load ?_); refine' a_load HS ?_) | ((with_reducible refine' q_store ?_); refine' a_store2 HS ?_; clear HS; intro w_ HS) | ((with_reducible refine' wpIn_region_plain ?hd ?hno ?_); (case hd => rfl); (case hno => (rintro ⟨_, _, h⟩; first | exact (h : False) | exact hNO ⟨_, _, h⟩ | exact (h : (∃ v, Ending.outgrown = Ending.returned v) ∧ _).1.elim (fun v hv => nomatch hv) | exact (h : Ending.outgrown = Ending.returned _ ∧ _).1.elim | exact (h : (Ending.outgrown = Ending.returned _ ∧ _) ∨ (Ending.outgrown = Ending.returned _ ∧ _)).elim (fun h => nomatch h.1) (fun h => nomatch h.1)))) | go_values | go_skip | go_guarded | go_step | go_upon | gi_step | (simp only [Int.not_lt, Int.not_le] at *; go_simp) | (go_values <;> (try go_simp)) | (go_ite <;> go_prune <;> (try go_simp)) | (split <;> (first | (rename_i hx; exact (hx _ rfl).elim) | go_prune)))
        refine HQ.out _ _ _ ⟨t2, fun k a b => HB2.out k (HRT.out k a b).1 (HRT.out k a b).2, M4, _, hM3.out, HS.drop3, fun k a b => HB2.out k (HM24.out k a) b, ?_, ?_⟩
        · rw [HUS.out]
          have := HJP.out
          rwa [List.take_of_length_le (by rw [HVN.out]; exact Nat.le_refl _)] at this
        · rw [HUS.out, List.length_append, HVN.out]
  case hdone =>
    clear HS hMB0 h0 hi
    rintro t D W1 L' HS ⟨_, hJp, rfl⟩
    go_wp2_with (first | ((with_reducible refine' q_alloc ?_); refine' a_alloc HS ?_; clear HS; intro b_ w_ HS) | ((with_reducible refine' q_box ?_); refine' a_box HS ?_; clear HS; intro b_ w_ HS) | ((with_reducible refine' q_load ?_); refine' a_load HS ?_) | ((with_reducible refine' q_store ?_); refine' a_store HS ?_; clear HS; intro w_ HS))
    ((refine' leaves_mark HS rfl ?hm ?_); (case hm => repeat (first | exact Rep1.head _ | apply Rep1.tail)); intro w_ HS_; clear HS; have HS := HS_; clear HS_)
    refine leaves_plain ?_
    refine bodyPost_ret (results_none rfl _ _ _) rfl ?_
    exact ⟨⟨_, rfl⟩, _, _, HS.movesO, .inl (by rw [← HSS.out]; exact hJp)⟩
  case hstop =>
    clear HS hMB0 h0 hi
    rintro t D W1 L' c pre hpre HS ⟨rfl, pu, hpu, hJx'⟩
    go_wp2_with (first | ((with_reducible refine' q_alloc ?_); refine' a_alloc HS ?_; clear HS; intro b_ w_ HS) | ((with_reducible refine' q_box ?_); refine' a_box HS ?_; clear HS; intro b_ w_ HS) | ((with_reducible refine' q_load ?_); refine' a_load HS ?_) | ((with_reducible refine' q_store ?_); refine' a_store HS ?_; clear HS; intro w_ HS))
    ((refine' leaves_mark HS rfl ?hm ?_); (case hm => repeat (first | exact Rep1.head _ | apply Rep1.tail)); intro w_ HS_; clear HS; have HS := HS_; clear HS_)
    refine leaves_plain ?_
    refine bodyPost_ret (results_none rfl _ _ _) rfl ?_
    exact ⟨⟨_, rfl⟩, _, _, HS.movesO, .inr ⟨pu, by rw [← HSS.out]; exact hpu, hJx'⟩⟩

theorem Units_any (M : Mem) (r : Nat) (w : World) (hi : Imm M w) :
    Calls Tryd.prog 43 #[ptr r] w fun e w' => ∃ b1 M', e = .returned (.func (.func 80) #[] #[ptr b1]) ∧ Grew M M' w w' ∧ M' b1 = some (.cells [ptr r].toArray 27 (0, 0)) := by
  (refine calls_shut fun R hR => ?_; have HRR := Lib.hid hR; clear hR)
  (have HS := St.start hi; go_enter Tryd.func43, Tryd.ntmps43)
  go_wp2_with (first | ((with_reducible refine' q_alloc ?_); refine' a_alloc HS ?_; clear HS; intro b_ w_ HS) | ((with_reducible refine' q_box ?_); refine' a_box HS ?_; clear HS; intro b_ w_ HS) | ((with_reducible refine' q_load ?_); refine' a_load HS ?_) | ((with_reducible refine' q_store ?_); refine' a_store HS ?_; clear HS; intro w_ HS))
  have k1 := HS.base _ (.head _)
  have HS1 := HS.keep
  (try go_ret)
  exact HRR.out _ _ ⟨_, _, rfl, ⟨HS1.below, Mem.le_add k1.2, Mem.fresh_add k1.1, HS1.imm⟩, Mem.add_same _ _ _⟩
end Go.Proofs.YtbogoehjoglneaaDoor

/- WalkUnits returns true. -/
namespace Go.Proofs.YtbogoehjoglneaaDoor
open Go.RowKit
set_option linter.unusedVariables false
set_option linter.unusedSimpArgs false
set_option maxRecDepth 100000
theorem fnNilU (f : Fn) (a b : Array Value) (w : World) : (binOp BinOp.eql 80 (.func f a b) .nilFunc).run Tryd.prog w = .ok (.bool false) w := by kernel_rfl
attribute [local go_sem] byt_drop byt_tail Int.toNat_natCast sOf_size fnNilU field_weld uv

set_option maxHeartbeats 4000000 in
theorem WUnits_any (M : Mem) (hG : Gl M) (A0 : Option Addr) (n0 c0 : Nat) (vs : List Value) (tt : Bool) (hp : PsAt M A0 n0 c0 vs) (hn : (n0 : Int) ≤ 9223372036854775807) (w : World) (hi : Imm M w) :
    Calls Tryd.prog 8 #[.agg #[.slice A0 n0 c0, .bool tt]] w fun e w' => e = .returned (.bool true) ∧ Below w.heap.size w w' := by
  have HG := Lib.hid hG
  have HPS := Lib.hid hp
  have HFX := Lib.hid (fun w hi => fixed_any M hG w hi)
  clear hG hp
  (refine calls_shut fun R hR => ?_; have HRR := Lib.hid hR; clear hR)
  (have HS := St.start hi; refine calls_of_marks Tryd.func8 rfl ?_; simp only [Tryd.ntmps8, List.size_toArray, List.length_cons, List.length_nil, Nat.reduceAdd, Nat.reduceSub, Array.replicate_succ, Array.replicate_zero, List.push_toArray, List.append_toArray, List.nil_append, List.cons_append])
  go_wp2_with (first | ((with_reducible refine' q_alloc ?_); refine' a_alloc HS ?_; clear HS; intro b_ w_ HS) | ((with_reducible refine' q_box ?_); refine' a_box2 HS ?_; clear HS; intro b_ w_ HS) | ((with_reducible refine' q_load ?_); refine' a_load HS ?_) | ((with_reducible refine' q_store ?_); refine' a_store2 HS ?_; clear HS; intro w_ HS) | (go_at_call 14; (with_reducible refine (HFX.out _ HS.imm).mono ?_); rintro e w_ ⟨rfl, hb_⟩; have HS_ := HS.call hb_; clear HS hb_; have HS := HS_; clear HS_) | (go_at_call 15; (with_reducible refine (made_any' M HG.out A0 n0 c0 vs tt HPS.out hn _ HS.imm).mono ?_); rintro e w_ ⟨r, A, c, M1, l, rfl, hg1, hr, hb, hl⟩; have HR := Lib.hid hr; have HB := Lib.hid hb; have HGM := Lib.hid (HG.out.mono hg1.le); have hs_hg1 := HS.moved.size; have HS_ := HS.callM hg1.below hg1.fresh hg1.imm; clear HS; have HS := HS_; clear HS_) | (go_at_call 43; (with_reducible refine (Units_any M1 r _ HS.imm).mono ?_); rintro e w_ ⟨b1, M2, rfl, hg2, q1⟩; have hs_hg2 := HS.moved.size; have HS_ := HS.callM hg2.below hg2.fresh hg2.imm; clear HS; have HS := HS_; clear HS_) | (go_at_call 44; (with_reducible refine (AllUnits_any M2 A c l.length l (HB.out.mono hg2.le) rfl (by omega) _ HS.imm).mono ?_); rintro e w_ ⟨A3, c3, M3, rfl, hg3, hs3⟩; have hs_hg3 := HS.moved.size; have HS_ := HS.callM hg3.below hg3.fresh hg3.imm; clear HS; have HS := HS_; clear HS_))
  obtain ⟨bw, hb_⟩ : ∃ bw, bw = b_ := ⟨_, rfl⟩; subst hb_
  obtain ⟨br, hb_⟩ : ∃ br, br = b_ := ⟨_, rfl⟩; subst hb_
  have HG3 := HGM.out.mono (Mem.le_trans hg2.le hg3.le)
  have HR3 := HR.out.mono (Mem.le_trans hg2.le hg3.le)
  have hseq := Units1_seq M3 HG3 r l HR3 b1 (hg3.le _ _ q1)
  have hW := fun w hi => RWeld_any M3 HG3 r l HR3 w hi
  unfold weldV at hW
  have hN := steps_len l
  have hUL := usN_le (steps l 0)
  rw [← usN_units l] at hW
  generalize usN (steps l 0) = us at *
  have HW := Lib.hid hW
  have HSEQ := Lib.hid hseq
  have HS3 := Lib.hid hs3
  clear HG3 HR3 hseq hW hs3 hg1 hg2 hg3 hs_hg1 hs_hg2 hs_hg3 q1 HG HPS HFX hr hb HR HB HGM
  have hul : us.length ≤ 50000 := by omega
  refine wp_loop_i (σ := Nat) (fun k a w1 => k ≤ 2 ∧ ∃ Ds : List Nat, St (fun k => w.heap.size ≤ k) w w1 M3 ((bw, .cells [.slice A3 us.length c3].toArray 57 (0, 0)) :: (br, .cells [.bool false].toArray 4 (0, 0)) :: Ds.map mkB) ∧
    (∃ g : Nat → Value, a = { tmps := #[g 0, g 1, ptr br, ptr r, g 4, .func (.func 80) #[] #[ptr b1], ptr bw, .int .i64 (k : Nat), g 8, g 9, g 10, g 11, g 12, g 13, g 14, g 15, g 16, g 17, g 18, g 19, g 20, g 21, g 22, g 23, g 24, g 25, g 26, g 27, g 28, g 29, g 30, g 31, g 32, g 33, g 34, g 35, g 36, g 37, g 38, g 39, g 40, g 41, g 42, g 43, g 44, g 45, g 46, g 47, g 48, g 49, g 50, g 51, g 52, g 53, g 54, g 55, g 56, g 57, g 58, g 59, g 60, g 61, g 62, g 63, g 64], defers := Ds.map mkD })) (fun k => 2 - k) 0
    ⟨Nat.zero_le _, [], HS.init (K := [_, _]), actg rfl⟩ ?_
  clear HS hi
  rintro J hJ k a w1 ⟨hk, Ds, HS, ⟨g, rfl⟩⟩
  by_cases hk2 : k < 2
  · have hk2' : (k : Int) < 2 := by omega
    go_wp2_with (first | ((with_reducible refine' q_alloc ?_); refine' a_alloc HS ?_; clear HS; intro b_ w_ HS) | ((with_reducible refine' q_load ?_); refine' a_load HS ?_) | ((with_reducible refine' q_store ?_); refine' a_store HS ?_; clear HS; intro w_ HS))
    obtain ⟨bn, hb_⟩ : ∃ bn, bn = b_ := ⟨_, rfl⟩; subst hb_
    refine' wp_rangeG (τ := Unit) (Bt := fun _ k => w.heap.size ≤ k) (wt := fun _ => w) (t0 := ()) HS rfl (enters_of Tryd.func80 (by kernel_rfl) rfl) HSEQ.out ?hps
      (fun _ pre L => L = (bn, .cells [.int .i64 (pre.length : Nat)].toArray 3 (0, 0)) :: (bw, .cells [.slice A3 us.length c3].toArray 57 (0, 0)) :: (br, .cells [.bool false].toArray 4 (0, 0)) :: Ds.map mkB)
      (fun _ _ _ _ => False) ?h0 ?hround ?hdone ?hstop
    case h0 => rfl
    case hps => rintro _ _ _ _ ⟨rfl, rfl⟩; rfl
    case hstop => intro _ _ _ _ _ _ _ _ h; exact h.elim
    case hround =>
      clear HS
      intro t lp D o1 o2 pre z vs Fr L' M6 W K hpre hΦ hV hle1 hB1 HS hK
      obtain ⟨rfl, rfl⟩ := hV
      subst hΦ
      have hz : us[pre.length]? = some z.1 ∧ z.2 = pre.length := by
        obtain ⟨tl, e⟩ := hpre
        have h1 : us.zipIdx[pre.length]? = some z := by rw [← e, List.append_assoc, List.getElem?_append_right (Nat.le_refl _), Nat.sub_self]; rfl
        rw [List.getElem?_zipIdx] at h1
        cases hu : us[pre.length]? with
        | none => rw [hu] at h1; cases h1
        | some u =>
          rw [hu] at h1
          simp only [Option.map_some, Option.some.injEq] at h1
          rw [← h1]
          exact ⟨rfl, by simp⟩
      have hlp : (pre ++ [z]).length = pre.length + 1 := by simp
      rw [List.nil_append] at HS
      generalize pre.length = pl at *
      obtain ⟨zu, zi⟩ := z
      obtain ⟨hz1, rfl⟩ := hz
      simp only at hz1
      have hlt : zi < us.length := (List.getElem?_eq_some_iff.1 hz1).1
      have hlt' : (zi : Int) < us.length := by omega
      have HZ := Lib.hid hz1; have HLP := Lib.hid hlp; have HB1 := Lib.hid hB1
      have hs6 := HS3.out.mono hle1
      clear hz1 hlp hB1 hpre hle1
      simp only [List.zip_toArray, List.foldl_toArray, List.zip_cons_cons, List.zip_nil_right, List.foldl_cons, List.foldl_nil, List.setIfInBounds_toArray, List.set_cons_succ, List.set_cons_zero, List.size_toArray, List.length_cons, List.length_nil, List.foldl_toArray']
      repeat' (first | ((with_reducible refine' q_alloc ?_); refine' a_alloc HS ?_; clear HS; intro b_ w_ HS) | ((with_reducible refine' q_box ?_); refine' a_box HS ?_; clear HS; intro b_ w_ HS) | ((with_reducible refine' q_load ?_); refine' a_load HS ?_) | ((with_reducible refine' q_store ?_); refine' a_store HS ?_; clear HS; intro w_ HS) | ((with_reducible refine' wpIn_region_plain ?hd ?hno ?_); (case hd => rfl); (case hno => (rintro ⟨_, _, h⟩; first | exact (h : False) | exact hNO ⟨_, _, h⟩ | exact (h : (∃ v, Ending.outgrown = Ending.returned v) ∧ _).1.elim (fun v hv => nomatch hv) | exact (h : Ending.outgrown = Ending.returned _ ∧ _).1.elim | exact (h : (Ending.outgrown = Ending.returned _ ∧ _) ∨ (Ending.outgrown = Ending.returned _ ∧ _)).elim (fun h => nomatch h.1) (fun h => nomatch h.1)))) | go_values | go_skip | go_guarded | go_step | go_upon | gi_step | (simp only [Int.not_lt, Int.not_le] at *; go_simp) | (go_values <;> (try go_simp)) | (go_ite <;> go_prune <;> (try go_simp)) | (split <;> (first | (rename_i hx; exact (hx _ rfl).elim) | go_prune)))
      refine hK _ _ _ _ (Mem.le_refl _) HS ?_
      clear hK HS
      intro o3 W2 HS
      refine wpIn_shut (by (rintro ⟨_, _, h⟩; first | exact (h : False) | exact hNO ⟨_, _, h⟩ | exact (h : (∃ v, Ending.outgrown = Ending.returned v) ∧ _).1.elim (fun v hv => nomatch hv) | exact (h : Ending.outgrown = Ending.returned _ ∧ _).1.elim | exact (h : (Ending.outgrown = Ending.returned _ ∧ _) ∨ (Ending.outgrown = Ending.returned _ ∧ _)).elim (fun h => nomatch h.1) (fun h => nomatch h.1))) fun Q hNO hQ => ?_
      have HQ := Lib.hid hQ
      clear hQ
      repeat' (first | ((with_reducible refine' q_alloc ?_); refine' a_alloc HS ?_; clear HS; intro b_ w_ HS) | ((with_reducible refine' q_box ?_); refine' a_box2 HS ?_; clear HS; intro b_ w_ HS) | ((with_reducible refine' q_load ?_); refine' a_load HS ?_) | ((with_reducible refine' q_store ?_); refine' a_store2 HS ?_; clear HS; intro w_ HS) | (((with_reducible refine' st_idx_sl ?hw ?hx ?hb ?hi ?hj ?_); (case hw => first | rfl | (go_simp; done)); (case hx => first | exact eval_lit rfl | rfl); (case hb => assumption); (case hi => first | exact eval_lit rfl | rfl); (case hj => first | omega | (simp; omega)); intro b_ o_ hc_); have hcB := hc_ 0 (uv zu) (by simpa [List.getElem?_map] using congrArg (Option.map uv) HZ.out); rw [Nat.add_zero] at hcB) | (clear hc_; ((with_reducible refine' st_load_cellM ?hw HS ?hx ?hc ?_); (case hw => first | rfl | (go_simp; done)); (case hx => first | exact eval_lit rfl | rfl); (case hc => assumption))) | ((with_reducible refine' wpIn_region_plain ?hd ?hno ?_); (case hd => rfl); (case hno => (rintro ⟨_, _, h⟩; first | exact (h : False) | exact hNO ⟨_, _, h⟩ | exact (h : (∃ v, Ending.outgrown = Ending.returned v) ∧ _).1.elim (fun v hv => nomatch hv) | exact (h : Ending.outgrown = Ending.returned _ ∧ _).1.elim | exact (h : (Ending.outgrown = Ending.returned _ ∧ _) ∨ (Ending.outgrown = Ending.returned _ ∧ _)).elim (fun h => nomatch h.1) (fun h => nomatch h.1)))) | go_values | go_skip | go_guarded | go_step | go_upon | gi_step | (simp only [Int.not_lt, Int.not_le] at *; go_simp) | (go_values <;> (try go_simp)) | (go_ite <;> go_prune <;> (try go_simp)) | (split <;> (first | (rename_i hx; exact (hx _ rfl).elim) | go_prune)))
      refine HQ.out _ _ _ ?_
      exact ⟨(), HB1.out, M6, _, Mem.le_refl _, HS, by show _ = _ :: _; rw [HLP.out]; rfl⟩
    case hdone =>
      clear HS
      rintro t D W L' HS rfl
      have hzl : us.zipIdx.length = us.length := by simp
      rw [hzl] at HS
      go_wp2_with (first | ((with_reducible refine' q_alloc ?_); refine' a_alloc HS ?_; clear HS; intro b_ w_ HS) | ((with_reducible refine' q_box ?_); refine' a_box HS ?_; clear HS; intro b_ w_ HS) | ((with_reducible refine' q_load ?_); refine' a_load HS ?_) | ((with_reducible refine' q_store ?_); refine' a_store HS ?_; clear HS; intro w_ HS))
      exact ⟨k + 1, hJ _ _ _ ⟨by omega, D :: Ds, (HS.perm (.swap _ _ _)).drop.sunk (K := [_, _]), actg rfl⟩, by omega⟩
  · obtain rfl : k = 2 := by omega
    go_wp2
    refine wp_region_plan [7] [(true, 0), (true, 4), (true, 5), (false, 1), (true, 2), (true, 3), (true, 6), (false, 7)] (fun W_ => St _ _ W_ _ _) (by kernel_rfl) (by kernel_rfl) rfl (by kernel_rfl) (HS).drew ?_
    have HS_ := HS.drew; clear HS; have HS := HS_; clear HS_
    refine' a_dSoft rfl ?_
    (try simp only [Act.put, List.setIfInBounds_toArray, List.set_cons_zero, List.set_cons_succ])
    (first | refine' a_dLoad rfl (fun w_ hw_ => hw_) ?_ | refine' a_dLoadC rfl (fun w_ hw_ => hw_) ?_)
    (try simp only [Act.put, List.setIfInBounds_toArray, List.set_cons_zero, List.set_cons_succ])
    refine' a_dSoft rfl ?_
    (try simp only [Act.put, List.setIfInBounds_toArray, List.set_cons_zero, List.set_cons_succ])
    refine dHard rfl ?_
    refine' st_call ?hw Tryd.func45 (by kernel_rfl) rfl ?hargs (HW.out _ HS.imm) ?_
    case hw => rfl
    case hargs => first | rfl | (go_simp; done)
    rintro e w_ ⟨rfl, hb_⟩
    (have HS_ := HS.call hb_; clear HS hb_; have HS := HS_; clear HS_)
    refine ⟨_, rfl, ?_⟩
    refine lexD_done (fun _ => HS) ?_
    (try simp only [Act.put, List.setIfInBounds_toArray, List.set_cons_zero, List.set_cons_succ])
    refine' a_dSoft rfl ?_
    (try simp only [Act.put, List.setIfInBounds_toArray, List.set_cons_zero, List.set_cons_succ])
    refine' a_dSoft rfl ?_
    (try simp only [Act.put, List.setIfInBounds_toArray, List.set_cons_zero, List.set_cons_succ])
    refine' a_dSoft rfl ?_
    (try simp only [Act.put, List.setIfInBounds_toArray, List.set_cons_zero, List.set_cons_succ])
    refine dHard rfl ?_
    ((with_reducible refine' q_store ?_); refine' a_store HS ?_; clear HS; intro w_ HS)
    refine lexD_done (fun h => absurd h (by decide)) ?_
    (try simp only [Act.put, List.setIfInBounds_toArray, List.set_cons_zero, List.set_cons_succ])
    refine lexD_end ?_
    go_wp2
    refine leaves_marks Ds [_, _] _ _ HS rfl fun w' L' HS => ?_
    refine post_cellS (p := 2) (T := 4) rfl HS rfl rfl (by apply Blk.loc; exact .tail _ (.head _)) ?_
    exact HRR.out _ _ ⟨rfl, HS.below⟩
end Go.Proofs.YtbogoehjoglneaaDoor
