/- Package leaf: a leaf is a block that never changes. -/
import Derived.ArgAppend
import Derived.OwnWalk
import Derived.Great.BuildSlice
import Derived.Test.YtbogoehjoglneaaDoorM4
import Derived.Test.YtbogoehjoglneaaDoorM1
import Derived.Test.YtbogoehjoglneaaDoorM2
import Derived.Test.YtbogoehjoglneaaDoorM3
set_option linter.unusedVariables false
set_option linter.unusedSimpArgs false
set_option linter.unnecessarySimpa false
set_option linter.unusedSectionVars false
namespace Go.Proofs.YtbogoehjoglneaaDoor
open Go.RowKit
set_option linter.unusedVariables false
set_option linter.unusedSimpArgs false
set_option maxRecDepth 100000
attribute [local go_sem] byt_drop byt_tail Int.toNat_natCast sOf_size sOf_append

abbrev leafC (l : List UInt8) : List Value := [.string (sOf l), .int .i64 l.length, .int .i64 (runesN l), .int .i64 (unitsN l), .int .i64 (endsN false l), .string (sOf (l.take 3)), .string (sOf (l.drop (l.length - 3)))]
def LeafAt (M : Mem) (p : Nat) (l : List UInt8) : Prop := M p = some (.cells (leafC l).toArray 205 (0, 0))
/- A call hands back more known memory. -/
structure Grew (M M' : Mem) (w w' : World) : Prop where
  below : Below w.heap.size w w'
  le : M.le M'
  fresh : M.fresh M' w.heap.size
  imm : Imm M' w'

theorem LeafAt.mono {M M' : Mem} {p : Nat} {l : List UInt8} (h : LeafAt M p l) (hm : M.le M') : LeafAt M' p l := hm _ _ h
theorem Grew.trans {M M' M'' : Mem} {w w' w'' : World} (h : Grew M M' w w') (k : Grew M' M'' w' w'') : Grew M M'' w w'' :=
  ⟨h.below.trans (k.below.mono h.below.size), Mem.le_trans h.le k.le, Mem.fresh_trans h.fresh k.fresh h.below.size, k.imm⟩
theorem Mem.fresh.less {M M' : Mem} {n m : Nat} (h : M.fresh M' n) (hm : m ≤ n) : M.fresh M' m := fun b h1 h2 => Nat.le_trans hm (h b h1 h2)
theorem results_tmp3 {fn : Func} {t u v : Tmp} (h : fn.results = #[.tmp t, .tmp u, .tmp v]) (tmps : Array Value) (P : Program) (w : World) :
    (results fn tmps).run P w = .ok (.tuple #[tmps.getD t undef, tmps.getD u undef, tmps.getD v undef]) w := by
  simp [results, h]
theorem Of_n (M : Mem) (hG : Gl M) (A : Option Addr) (c : Nat) (l l' : List UInt8) (n : Nat) (hb : BS M A c l) (hl : l' = l) (hn : n = l'.length) (hm : (l'.length : Int) ≤ 268435456) (w : World) (hi : Imm M w) :
    Calls Tryd.prog 82 #[.slice A n c] w fun e w' => e = .returned (weldV l') ∧ Below w.heap.size w w' := by
  subst hl; subst hn; exact Of_any M hG A c l' hb hm w hi

theorem made_any (M : Mem) (hG : Gl M) (l : List UInt8) (hm : (l.length : Int) ≤ 268435456) (w : World) (hi : Imm M w) :
    Calls Tryd.prog 111 #[.string (sOf l)] w fun e w' => ∃ p M', e = .returned (.pointer (some ⟨p, 0, none⟩)) ∧ Grew M M' w w' ∧ LeafAt M' p l := by
  have HG := Lib.hid hG; clear hG
  (have HS := St.start hi; go_enter Tryd.func111, Tryd.ntmps111)
  go_wp2_with (first | ((with_reducible refine' q_alloc ?_); refine' a_alloc HS ?_; clear HS; intro b_ w_ HS) | ((with_reducible refine' q_box ?_); refine' a_box HS ?_; clear HS; intro b_ w_ HS) | ((with_reducible refine' q_load ?_); refine' a_load HS ?_) | ((with_reducible refine' q_store ?_); refine' a_store HS ?_; clear HS; intro w_ HS) | ((with_reducible refine' st_conv_sb (S := 9) (D := 28) (e := 5) ?hw Tryd.underlying9 Tryd.underlying28 Tryd.underlying5 HS ?hx ?_); (case hw => rfl); (case hx => first | exact eval_lit rfl | rfl); intro M_ b_ c_ w_ hle_ hfr_ HS_ hsz_ hbs_; clear HS; have HS := HS_; clear HS_) | (go_at_call 82; (with_reducible refine (Of_any M_ (HG.out.mono hle_) _ _ l hbs_ hm _ HS.imm).mono ?_); rintro e w_ ⟨rfl, hb_⟩; have HS_ := (HS.call hb_).less hle_; clear HS hb_; have HS := HS_; clear HS_))
  go_ret
  have hb2 := HS.base _ (.head _)
  exact ⟨b_, M.add b_ _, rfl, ⟨HS.below, Mem.le_add hb2.2, Mem.fresh_add hb2.1, HS.keep.imm⟩, Mem.add_same _ _ _⟩

theorem Len_any (M : Mem) (p : Nat) (l : List UInt8) (hp : LeafAt M p l) (w : World) (hi : Imm M w) :
    Calls Tryd.prog 112 #[.pointer (some ⟨p, 0, none⟩)] w fun e w' => e = .returned (.int .i64 l.length) ∧ w' = w := by
  unfold LeafAt at hp
  (have HS := St.start hi; go_enter Tryd.func112, Tryd.ntmps112)
  go_wp2_with (first | ((with_reducible refine' q_alloc ?_); refine' a_alloc HS ?_; clear HS; intro b_ w_ HS) | ((with_reducible refine' q_box ?_); refine' a_box HS ?_; clear HS; intro b_ w_ HS) | ((with_reducible refine' q_load ?_); refine' a_load HS ?_) | ((with_reducible refine' q_store ?_); refine' a_store HS ?_; clear HS; intro w_ HS))
  go_ret
  exact ⟨rfl, rfl⟩

theorem LWeld_any (M : Mem) (p : Nat) (l : List UInt8) (hp : LeafAt M p l) (w : World) (hi : Imm M w) :
    Calls Tryd.prog 167 #[.pointer (some ⟨p, 0, none⟩)] w fun e w' => e = .returned (weldV l) ∧ Below w.heap.size w w' := by
  unfold LeafAt at hp
  (have HS := St.start hi; go_enter Tryd.func167, Tryd.ntmps167)
  go_wp2_with (first | ((with_reducible refine' q_alloc ?_); refine' a_alloc HS ?_; clear HS; intro b_ w_ HS) | ((with_reducible refine' q_box ?_); refine' a_box HS ?_; clear HS; intro b_ w_ HS) | ((with_reducible refine' q_load ?_); refine' a_load HS ?_) | ((with_reducible refine' q_store ?_); refine' a_store HS ?_; clear HS; intro w_ HS))
  (refine post_cell (p := 2) (T := 87) rfl HS rfl rfl (by (first | (apply Blk.loc; (repeat (first | (with_reducible exact List.mem_cons_self) | apply List.mem_cons_of_mem)); done) | (apply Blk.imm; with_reducible assumption))) (by exact Eq.refl true) ?_)
  exact ⟨rfl, HS.below⟩

theorem LBytes_any (M : Mem) (p : Nat) (l : List UInt8) (hp : LeafAt M p l) (w : World) (hi : Imm M w) :
    Calls Tryd.prog 126 #[.pointer (some ⟨p, 0, none⟩)] w fun e w' => ∃ b c M', e = .returned (.slice (some ⟨b, 0, none⟩) l.length c) ∧ Grew M M' w w' ∧ BS M' (some ⟨b, 0, none⟩) c l := by
  unfold LeafAt at hp
  (have HS := St.start hi; go_enter Tryd.func126, Tryd.ntmps126)
  go_wp2_with (first | ((with_reducible refine' q_alloc ?_); refine' a_alloc HS ?_; clear HS; intro b_ w_ HS) | ((with_reducible refine' q_box ?_); refine' a_box HS ?_; clear HS; intro b_ w_ HS) | ((with_reducible refine' q_load ?_); refine' a_load HS ?_) | ((with_reducible refine' q_store ?_); refine' a_store HS ?_; clear HS; intro w_ HS) | ((with_reducible refine' st_conv_sb (S := 9) (D := 28) (e := 5) ?hw Tryd.underlying9 Tryd.underlying28 Tryd.underlying5 HS ?hx ?_); (case hw => rfl); (case hx => first | exact eval_lit rfl | rfl); intro M_ b_ c_ w_ hle_ hfr_ HS_ hsz_ hbs_; clear HS; have HS := HS_; clear HS_))
  go_ret
  exact ⟨b_, c_, M_, rfl, ⟨HS.below, hle_, hfr_, HS.imm⟩, hbs_⟩

theorem Lplace_any (M : Mem) (p : Nat) (l : List UInt8) (hp : LeafAt M p l) (n : Int) (h0 : 0 ≤ n) (h1 : n ≤ l.length) (w : World) (hi : Imm M w) :
    Calls Tryd.prog 121 #[.pointer (some ⟨p, 0, none⟩), .int .i64 n] w fun e w' => e = .returned (.int .i64 0) ∧ Below w.heap.size w w' := by
  unfold LeafAt at hp
  (have HS := St.start hi; go_enter Tryd.func121, Tryd.ntmps121)
  go_wp2_with (first | ((with_reducible refine' q_alloc ?_); refine' a_alloc HS ?_; clear HS; intro b_ w_ HS) | ((with_reducible refine' q_box ?_); refine' a_box HS ?_; clear HS; intro b_ w_ HS) | ((with_reducible refine' q_load ?_); refine' a_load HS ?_) | ((with_reducible refine' q_store ?_); refine' a_store HS ?_; clear HS; intro w_ HS))
  go_ret
  exact ⟨rfl, HS.below⟩

theorem LBefore_any (M : Mem) (hG : Gl M) (p : Nat) (l : List UInt8) (hp : LeafAt M p l) (hm : (l.length : Int) ≤ 268435456) (n : Int) (h0 : 0 ≤ n) (h1 : n ≤ l.length) (w : World) (hi : Imm M w) :
    Calls Tryd.prog 100 #[.pointer (some ⟨p, 0, none⟩), .int .i64 n] w fun e w' => e = .returned (.tuple #[weldV (l.take n.toNat), .int .i64 0]) ∧ Below w.heap.size w w' := by
  have hp' : M p = some (.cells (leafC l).toArray 205 (0, 0)) := hp
  have HP := Lib.hid hp; clear hp
  have HG := Lib.hid hG; clear hG
  have hn : ((n.toNat : Nat) : Int) = n := by omega
  have hlt : (l.take n.toNat).length = n.toNat := by rw [List.length_take]; omega
  have hm2 : ((l.take n.toNat).length : Int) ≤ 268435456 := by rw [hlt]; omega
  have HM := Lib.hid hm2; clear hm2
  have HL := Lib.hid hlt
  (have HS := St.start hi; go_enter Tryd.func100, Tryd.ntmps100)
  go_wp2_with (first | ((with_reducible refine' q_alloc ?_); refine' a_alloc HS ?_; clear HS; intro b_ w_ HS) | ((with_reducible refine' q_box ?_); refine' a_box HS ?_; clear HS; intro b_ w_ HS) | ((with_reducible refine' q_load ?_); refine' a_load HS ?_) | ((with_reducible refine' q_store ?_); refine' a_store HS ?_; clear HS; intro w_ HS) | (go_at_call 121; (with_reducible refine (Lplace_any M p l HP.out n h0 h1 _ HS.imm).mono ?_); rintro e w_ ⟨rfl, hb_⟩; have HS_ := HS.call hb_; clear HS hb_; have HS := HS_; clear HS_) | ((with_reducible refine' st_slice_str (S := 9) (i := 0) (j := n.toNat) ?hw Tryd.underlying9 ?hx ?hij ?_); (case hw => first | rfl | (go_simp; done)); (case hx => first | exact eval_lit rfl | rfl); (case hij => first | exact ⟨rfl, rfl, by omega, by omega⟩ | (refine ⟨rfl, ?_, by omega, by omega⟩; (refine congrArg (Value.int IntKind.i64) ?_; omega)))) | ((with_reducible refine' st_conv_sb (S := 9) (D := 28) (e := 5) ?hw Tryd.underlying9 Tryd.underlying28 Tryd.underlying5 HS ?hx ?_); (case hw => rfl); (case hx => first | exact eval_lit rfl | rfl); intro M_ b_ c_ w_ hle_ hfr_ HS_ hsz_ hbs_; clear HS; have HS := HS_; clear HS_) | (go_at_call 82; (with_reducible refine (Of_n M_ (HG.out.mono hle_) _ _ _ (l.take n.toNat) _ hbs_ rfl HL.out.symm HM.out _ HS.imm).mono ?_); rintro e w_ ⟨rfl, hb_⟩; have HS_ := (HS.call hb_).less hle_; clear HS hb_; have HS := HS_; clear HS_))
  (refine post_cell_tmp (p := 4) (T := 87) rfl HS rfl rfl (by (first | (apply Blk.loc; (repeat (first | (with_reducible exact List.mem_cons_self) | apply List.mem_cons_of_mem)); done) | (apply Blk.imm; with_reducible assumption))) (by exact Eq.refl true) ?_)
  exact ⟨rfl, HS.below⟩

abbrev ptr (p : Nat) : Value := .pointer (some ⟨p, 0, none⟩)
theorem LSplit_any (M : Mem) (hG : Gl M) (p : Nat) (l : List UInt8) (hp : LeafAt M p l) (hm : (l.length : Int) ≤ 268435456) (n : Int) (h0 : 0 ≤ n) (h1 : n ≤ l.length) (w : World) (hi : Imm M w) :
    Calls Tryd.prog 107 #[ptr p, .int .i64 n] w fun e w' => ∃ q r M', e = .returned (.tuple #[ptr q, ptr r, .int .i64 0]) ∧ Grew M M' w w' ∧ LeafAt M' q (l.take n.toNat) ∧ LeafAt M' r (l.drop n.toNat) := by
  have hp' : M p = some (.cells (leafC l).toArray 205 (0, 0)) := hp
  have HP := Lib.hid hp; clear hp
  have HG := Lib.hid hG; clear hG
  (have HS := St.start hi; go_enter Tryd.func107, Tryd.ntmps107)
  go_wp2_with (first | ((with_reducible refine' q_alloc ?_); refine' a_alloc HS ?_; clear HS; intro b_ w_ HS) | ((with_reducible refine' q_box ?_); refine' a_box HS ?_; clear HS; intro b_ w_ HS) | ((with_reducible refine' q_load ?_); refine' a_load HS ?_) | ((with_reducible refine' q_store ?_); refine' a_store HS ?_; clear HS; intro w_ HS) | (go_at_call 121; (with_reducible refine (Lplace_any M p l HP.out n h0 h1 _ HS.imm).mono ?_); rintro e w_ ⟨rfl, hb_⟩; have HS_ := HS.call hb_; clear HS hb_; have HS := HS_; clear HS_))
  refine wp_region_plan [] [(true, 0), (true, 1), (true, 2), (true, 3), (true, 4), (true, 5), (true, 7), (true, 8), (true, 9), (true, 10), (true, 11), (true, 12), (false, 6), (false, 13), (true, 14), (true, 15), (true, 16)] (fun W_ => St _ _ W_ _ _) (by kernel_rfl) (by kernel_rfl) rfl (by kernel_rfl) (HS).drew ?_
  have HS_ := HS.drew; clear HS; have HS := HS_; clear HS_
  refine' a_dSoft rfl ?_
  (try simp only [Act.put, List.setIfInBounds_toArray, List.set_cons_zero, List.set_cons_succ])
  refine' a_dSoft rfl ?_
  (try simp only [Act.put, List.setIfInBounds_toArray, List.set_cons_zero, List.set_cons_succ])
  refine' a_dSoft rfl ?_
  (try simp only [Act.put, List.setIfInBounds_toArray, List.set_cons_zero, List.set_cons_succ])
  (first | refine' a_dLoad rfl (fun w_ hw_ => hw_) ?_ | refine' a_dLoadC rfl (fun w_ hw_ => hw_) ?_)
  (try simp only [Act.put, List.setIfInBounds_toArray, List.set_cons_zero, List.set_cons_succ])
  refine' a_dSoft rfl ?_
  (try simp only [Act.put, List.setIfInBounds_toArray, List.set_cons_zero, List.set_cons_succ])
  (refine' dSliceS (0 ) ( n.toNat) rfl ?hw Tryd.underlying9 ?hx ?hij ?_; (case hw => first | rfl | go_simp); (case hx => first | exact eval_lit rfl | rfl); (case hij => first | exact ⟨rfl, rfl, by omega, by omega⟩ | (refine ⟨?_, ?_, by omega, by omega⟩ <;> first | rfl | (refine congrArg (Value.int IntKind.i64) ?_; (repeat' split) <;> omega) | (simp; done) | (simp; omega))))
  (try simp only [Act.put, List.setIfInBounds_toArray, List.set_cons_zero, List.set_cons_succ])
  refine' a_dSoft rfl ?_
  (try simp only [Act.put, List.setIfInBounds_toArray, List.set_cons_zero, List.set_cons_succ])
  refine' a_dSoft rfl ?_
  (try simp only [Act.put, List.setIfInBounds_toArray, List.set_cons_zero, List.set_cons_succ])
  refine' a_dSoft rfl ?_
  (try simp only [Act.put, List.setIfInBounds_toArray, List.set_cons_zero, List.set_cons_succ])
  (first | refine' a_dLoad rfl (fun w_ hw_ => hw_) ?_ | refine' a_dLoadC rfl (fun w_ hw_ => hw_) ?_)
  (try simp only [Act.put, List.setIfInBounds_toArray, List.set_cons_zero, List.set_cons_succ])
  refine' a_dSoft rfl ?_
  (try simp only [Act.put, List.setIfInBounds_toArray, List.set_cons_zero, List.set_cons_succ])
  (refine' dSliceS (n.toNat ) ( l.length) rfl ?hw Tryd.underlying9 ?hx ?hij ?_; (case hw => first | rfl | go_simp); (case hx => first | exact eval_lit rfl | rfl); (case hij => first | exact ⟨rfl, rfl, by omega, by omega⟩ | (refine ⟨?_, ?_, by omega, by omega⟩ <;> first | rfl | (refine congrArg (Value.int IntKind.i64) ?_; (repeat' split) <;> omega) | (simp; done) | (simp; omega))))
  (try simp only [Act.put, List.setIfInBounds_toArray, List.set_cons_zero, List.set_cons_succ])
  refine dHard rfl ?_
  refine' st_call ?hw Tryd.func111 (by kernel_rfl) rfl ?hargs (made_any M HG.out (l.take n.toNat) (by rw [List.length_take]; omega) _ HS.imm) ?_
  case hw => rfl
  case hargs => first | rfl | (go_simp; done)
  rintro e w_ ⟨q, M1, rfl, hg1, hq1⟩
  have hs1 := HS.moved.size
  have HS_ := HS.callM hg1.below hg1.fresh hg1.imm; clear HS; have HS := HS_; clear HS_
  refine ⟨_, rfl, ?_⟩
  refine lexD_done (fun _ => HS.less hg1.le) ?_
  (try simp only [Act.put, List.setIfInBounds_toArray, List.set_cons_zero, List.set_cons_succ])
  refine dHard rfl ?_
  refine' st_call ?hw Tryd.func111 (by kernel_rfl) rfl ?hargs (made_any M1 (HG.out.mono hg1.le) (l.drop n.toNat) (by rw [List.length_drop]; omega) _ HS.imm) ?_
  case hw => rfl
  case hargs => first | rfl | (go_simp; done)
  rintro e w_ ⟨r, M2, rfl, hg2, hq2⟩
  have hs2 := HS.moved.size
  have HS_ := HS.callM hg2.below hg2.fresh hg2.imm; clear HS; have HS := HS_; clear HS_
  refine ⟨_, rfl, ?_⟩
  refine lexD_done (fun _ => HS.less (Mem.le_trans hg1.le hg2.le)) ?_
  (try simp only [Act.put, List.setIfInBounds_toArray, List.set_cons_zero, List.set_cons_succ])
  refine' a_dSoft rfl ?_
  (try simp only [Act.put, List.setIfInBounds_toArray, List.set_cons_zero, List.set_cons_succ])
  refine' a_dSoft rfl ?_
  (try simp only [Act.put, List.setIfInBounds_toArray, List.set_cons_zero, List.set_cons_succ])
  refine' a_dSoft rfl ?_
  (try simp only [Act.put, List.setIfInBounds_toArray, List.set_cons_zero, List.set_cons_succ])
  refine lexD_end ?_
  go_wp2_with (first | ((with_reducible refine' q_alloc ?_); refine' a_alloc HS ?_; clear HS; intro b_ w_ HS) | ((with_reducible refine' q_box ?_); refine' a_box HS ?_; clear HS; intro b_ w_ HS) | ((with_reducible refine' q_load ?_); refine' a_load HS ?_) | ((with_reducible refine' q_store ?_); refine' a_store HS ?_; clear HS; intro w_ HS))
  refine bodyPost_ret (results_tmp3 rfl _ _ _) rfl ?_
  exact ⟨q, r, M2, rfl, ⟨HS.below, Mem.le_trans hg1.le hg2.le, Mem.fresh_trans (hg1.fresh.less hs1) (hg2.fresh.less hs2) (Nat.le_refl _), HS.imm⟩, hq1.mono hg2.le, hq2⟩

theorem LJoin_any (M : Mem) (hG : Gl M) (p q : Nat) (a b : List UInt8) (hp : LeafAt M p a) (hq : LeafAt M q b) (hm : ((a.length + b.length : Nat) : Int) ≤ 4096) (w : World) (hi : Imm M w) :
    Calls Tryd.prog 114 #[ptr p, ptr q] w fun e w' => ∃ r M', e = .returned (.tuple #[ptr r, .int .i64 0]) ∧ Grew M M' w w' ∧ LeafAt M' r (a ++ b) := by
  have hp' : M p = some (.cells (leafC a).toArray 205 (0, 0)) := hp
  have hq' : M q = some (.cells (leafC b).toArray 205 (0, 0)) := hq
  have HP := Lib.hid hp; clear hp
  have HQ := Lib.hid hq; clear hq
  have HG := Lib.hid hG; clear hG
  have h1 : ¬ ((4096 : Int) < a.length + b.length) := by omega
  have h2 : (a.length : Int) ≤ 4096 := by omega
  have h3 : (b.length : Int) ≤ 4096 := by omega
  have hcat : ¬ (9223372036854775807 < a.length + b.length) := by omega
  (have HS := St.start hi; go_enter Tryd.func114, Tryd.ntmps114)
  go_wp2_with (first | ((with_reducible refine' q_alloc ?_); refine' a_alloc HS ?_; clear HS; intro b_ w_ HS) | ((with_reducible refine' q_box ?_); refine' a_box HS ?_; clear HS; intro b_ w_ HS) | ((with_reducible refine' q_load ?_); refine' a_load HS ?_) | ((with_reducible refine' q_store ?_); refine' a_store HS ?_; clear HS; intro w_ HS) | (go_at_call 112; (with_reducible refine (Len_any M p a HP.out _ HS.imm).mono ?_); rintro e w_ ⟨rfl, rfl⟩) | (go_at_call 112; (with_reducible refine (Len_any M q b HQ.out _ HS.imm).mono ?_); rintro e w_ ⟨rfl, rfl⟩))
  refine wp_region_plan [] [(true, 0), (true, 1), (true, 2), (true, 3), (true, 4), (true, 5), (true, 6), (true, 7), (true, 8), (false, 9), (true, 10), (true, 11)] (fun W_ => St _ _ W_ _ _) (by kernel_rfl) (by kernel_rfl) rfl (by kernel_rfl) (HS).drew ?_
  have HS_ := HS.drew; clear HS; have HS := HS_; clear HS_
  refine' a_dSoft rfl ?_
  (try simp only [Act.put, List.setIfInBounds_toArray, List.set_cons_zero, List.set_cons_succ])
  refine' a_dSoft rfl ?_
  (try simp only [Act.put, List.setIfInBounds_toArray, List.set_cons_zero, List.set_cons_succ])
  refine' a_dSoft rfl ?_
  (try simp only [Act.put, List.setIfInBounds_toArray, List.set_cons_zero, List.set_cons_succ])
  (first | refine' a_dLoad rfl (fun w_ hw_ => hw_) ?_ | refine' a_dLoadC rfl (fun w_ hw_ => hw_) ?_)
  (try simp only [Act.put, List.setIfInBounds_toArray, List.set_cons_zero, List.set_cons_succ])
  refine' a_dSoft rfl ?_
  (try simp only [Act.put, List.setIfInBounds_toArray, List.set_cons_zero, List.set_cons_succ])
  refine' a_dSoft rfl ?_
  (try simp only [Act.put, List.setIfInBounds_toArray, List.set_cons_zero, List.set_cons_succ])
  refine' a_dSoft rfl ?_
  (try simp only [Act.put, List.setIfInBounds_toArray, List.set_cons_zero, List.set_cons_succ])
  (first | refine' a_dLoad rfl (fun w_ hw_ => hw_) ?_ | refine' a_dLoadC rfl (fun w_ hw_ => hw_) ?_)
  (try simp only [Act.put, List.setIfInBounds_toArray, List.set_cons_zero, List.set_cons_succ])
  refine' a_dSoft rfl ?_
  (try simp only [Act.put, List.setIfInBounds_toArray, List.set_cons_zero, List.set_cons_succ])
  refine dHard rfl ?_
  refine' st_call ?hw Tryd.func111 (by kernel_rfl) rfl ?hargs (made_any M HG.out (a ++ b) (by rw [List.length_append]; omega) _ HS.imm) ?_
  case hw => rfl
  case hargs => first | rfl | (go_simp; done)
  rintro e w_ ⟨q, M1, rfl, hg1, hq1⟩
  have hs1 := HS.moved.size
  have HS_ := HS.callM hg1.below hg1.fresh hg1.imm; clear HS; have HS := HS_; clear HS_
  refine ⟨_, rfl, ?_⟩
  refine lexD_done (fun _ => HS.less hg1.le) ?_
  (try simp only [Act.put, List.setIfInBounds_toArray, List.set_cons_zero, List.set_cons_succ])
  refine' a_dSoft rfl ?_
  (try simp only [Act.put, List.setIfInBounds_toArray, List.set_cons_zero, List.set_cons_succ])
  refine' a_dSoft rfl ?_
  (try simp only [Act.put, List.setIfInBounds_toArray, List.set_cons_zero, List.set_cons_succ])
  refine lexD_end ?_
  go_wp2_with (first | ((with_reducible refine' q_alloc ?_); refine' a_alloc HS ?_; clear HS; intro b_ w_ HS) | ((with_reducible refine' q_box ?_); refine' a_box HS ?_; clear HS; intro b_ w_ HS) | ((with_reducible refine' q_load ?_); refine' a_load HS ?_) | ((with_reducible refine' q_store ?_); refine' a_store HS ?_; clear HS; intro w_ HS))
  go_ret2
  exact ⟨q, M1, rfl, ⟨HS.below, hg1.le, hg1.fresh.less hs1, HS.imm⟩, hq1⟩
end Go.Proofs.YtbogoehjoglneaaDoor

/- Package rope: a node stands for bytes. -/
namespace Go.Proofs.YtbogoehjoglneaaDoor
open Go.RowKit
set_option linter.unusedVariables false
set_option linter.unusedSimpArgs false
set_option maxRecDepth 100000
attribute [local go_sem] byt_drop byt_tail Int.toNat_natCast sOf_size sOf_append

theorem rboth_gen (M : Mem) (x1 x2 x3 x4 y1 y2 y3 y4 z1 z2 z3 z4 : Nat) (h1 t1 h2 t2 h3 t3 : List UInt8)
    (hB : ∀ w, Imm M w → Calls Tryd.prog 122 #[wv x1 x2 x3 x4 h1 t1, wv y1 y2 y3 y4 h2 t2] w fun e w' => e = .returned (.tuple #[wv z1 z2 z3 z4 h3 t3, .int .i64 0]) ∧ Below w.heap.size w w') (w : World) (hi : Imm M w) :
    Calls Tryd.prog 101 #[wv x1 x2 x3 x4 h1 t1, wv y1 y2 y3 y4 h2 t2] w fun e w' => e = .returned (wv z1 z2 z3 z4 h3 t3) ∧ Below w.heap.size w w' := by
  have HB := Lib.hid hB; clear hB
  (have HS := St.start hi; go_enter Tryd.func101, Tryd.ntmps101)
  go_wp2_with (first | ((with_reducible refine' q_alloc ?_); refine' a_alloc HS ?_; clear HS; intro b_ w_ HS) | ((with_reducible refine' q_box ?_); refine' a_box HS ?_; clear HS; intro b_ w_ HS) | ((with_reducible refine' q_load ?_); refine' a_load HS ?_) | ((with_reducible refine' q_store ?_); refine' a_store HS ?_; clear HS; intro w_ HS) | (go_at_call 122; (with_reducible refine (HB.out _ HS.imm).mono ?_); rintro e w_ ⟨rfl, hb_⟩; have HS_ := HS.call hb_; clear HS hb_; have HS := HS_; clear HS_))
  (refine post_cell (p := 4) (T := 87) rfl HS rfl rfl (by (first | (apply Blk.loc; (repeat (first | (with_reducible exact List.mem_cons_self) | apply List.mem_cons_of_mem)); done) | (apply Blk.imm; with_reducible assumption))) (by exact Eq.refl true) ?_)
  exact ⟨rfl, HS.below⟩
theorem rboth_any (M : Mem) (hG : Gl M) (a b : List UInt8) (hm : ((a.length + b.length : Nat) : Int) ≤ 268435456) (w : World) (hi : Imm M w) :
    Calls Tryd.prog 101 #[weldV a, weldV b] w fun e w' => e = .returned (weldV (a ++ b)) ∧ Below w.heap.size w w' :=
  rboth_gen M _ _ _ _ _ _ _ _ _ _ _ _ _ _ _ _ _ _ (fun w hi => Join_any M hG a b hm w hi) w hi
end Go.Proofs.YtbogoehjoglneaaDoor

/- rope: what a node's methods answer. -/
namespace Go.Proofs.YtbogoehjoglneaaDoor
open Go.RowKit
set_option linter.unusedVariables false
set_option linter.unusedSimpArgs false
set_option maxRecDepth 100000
attribute [local go_sem] byt_drop byt_tail Int.toNat_natCast sOf_size sOf_append

abbrev forkC (va vb : Value) (l : List UInt8) (h : Nat) : List Value := [va, vb, .int .i64 l.length, .int .i64 h, .int .i64 l.length, .int .i64 (runesN l), .int .i64 (unitsN l), .int .i64 (endsN false l), .string (sOf (l.take 3)), .string (sOf (l.drop (l.length - 3)))]
/- A node, its bytes, its height. -/
inductive Node (M : Mem) : Value → List UInt8 → Nat → Prop
  | tip (p : Nat) (l : List UInt8) (hp : LeafAt M p l) (h0 : l ≠ []) (h1 : l.length ≤ 4096) : Node M (.iface 182 (.agg #[ptr p])) l 1
  | fork (p : Nat) (va vb : Value) (a b : List UInt8) (ha hb : Nat) (na : Node M va a ha) (nb : Node M vb b hb) (hM : M p = some (.cells (forkC va vb (a ++ b) (1 + max ha hb)).toArray 186 (0, 0))) :
    Node M (.iface 184 (ptr p)) (a ++ b) (1 + max ha hb)

theorem Node.mono {M M' : Mem} (hm : M.le M') {v : Value} {l : List UInt8} {h : Nat} (n : Node M v l h) : Node M' v l h := by
  induction n with
  | tip p l hp h0 h1 => exact .tip p l (hp.mono hm) h0 h1
  | fork p va vb a b ha hb na nb hM iha ihb => exact .fork p va vb a b ha hb iha ihb (hm _ _ hM)
theorem Node.height {M : Mem} {v : Value} {l : List UInt8} {h : Nat} (n : Node M v l h) : 1 ≤ h ∧ h ≤ l.length := by
  induction n with
  | tip p l hp h0 h1 => exact ⟨Nat.le_refl _, List.length_pos_iff.2 h0⟩
  | fork p va vb a b ha hb na nb hM iha ihb => rw [List.length_append]; omega

theorem tipSize_any (M : Mem) (p : Nat) (l : List UInt8) (hp : LeafAt M p l) (w : World) (hi : Imm M w) :
    Calls Tryd.prog 165 #[.agg #[ptr p]] w fun e w' => e = .returned (.int .i64 l.length) ∧ Below w.heap.size w w' := by
  have HP := Lib.hid hp; clear hp
  (have HS := St.start hi; go_enter Tryd.func165, Tryd.ntmps165)
  go_wp2_with (first | ((with_reducible refine' q_alloc ?_); refine' a_alloc HS ?_; clear HS; intro b_ w_ HS) | ((with_reducible refine' q_box ?_); refine' a_box HS ?_; clear HS; intro b_ w_ HS) | ((with_reducible refine' q_load ?_); refine' a_load HS ?_) | ((with_reducible refine' q_store ?_); refine' a_store HS ?_; clear HS; intro w_ HS) | (go_at_call 112; (with_reducible refine (Len_any M p l HP.out _ HS.imm).mono ?_); rintro e w_ ⟨rfl, rfl⟩))
  go_ret
  exact ⟨rfl, HS.below⟩
theorem tipHeight_any (p : Nat) (M : Mem) (w : World) (hi : Imm M w) :
    Calls Tryd.prog 164 #[.agg #[ptr p]] w fun e w' => e = .returned (.int .i64 1) ∧ Below w.heap.size w w' := by
  (have HS := St.start hi; go_enter Tryd.func164, Tryd.ntmps164)
  go_wp2_with (first | ((with_reducible refine' q_alloc ?_); refine' a_alloc HS ?_; clear HS; intro b_ w_ HS) | ((with_reducible refine' q_box ?_); refine' a_box HS ?_; clear HS; intro b_ w_ HS) | ((with_reducible refine' q_load ?_); refine' a_load HS ?_) | ((with_reducible refine' q_store ?_); refine' a_store HS ?_; clear HS; intro w_ HS))
  go_ret
  exact ⟨rfl, HS.below⟩
theorem tipWeld_any (M : Mem) (p : Nat) (l : List UInt8) (hp : LeafAt M p l) (w : World) (hi : Imm M w) :
    Calls Tryd.prog 166 #[.agg #[ptr p]] w fun e w' => e = .returned (weldV l) ∧ Below w.heap.size w w' := by
  have HP := Lib.hid hp; clear hp
  (have HS := St.start hi; go_enter Tryd.func166, Tryd.ntmps166)
  go_wp2_with (first | ((with_reducible refine' q_alloc ?_); refine' a_alloc HS ?_; clear HS; intro b_ w_ HS) | ((with_reducible refine' q_box ?_); refine' a_box HS ?_; clear HS; intro b_ w_ HS) | ((with_reducible refine' q_load ?_); refine' a_load HS ?_) | ((with_reducible refine' q_store ?_); refine' a_store HS ?_; clear HS; intro w_ HS) | (go_at_call 167; (with_reducible refine (LWeld_any M p l HP.out _ HS.imm).mono ?_); rintro e w_ ⟨rfl, hb_⟩; have HS_ := HS.call hb_; clear HS hb_; have HS := HS_; clear HS_))
  (refine post_cell (p := 2) (T := 87) rfl HS rfl rfl (by (first | (apply Blk.loc; (repeat (first | (with_reducible exact List.mem_cons_self) | apply List.mem_cons_of_mem)); done) | (apply Blk.imm; with_reducible assumption))) (by exact Eq.refl true) ?_)
  exact ⟨rfl, HS.below⟩
theorem forkSize_any (M : Mem) (p : Nat) (va vb : Value) (l : List UInt8) (h : Nat) (hM : M p = some (.cells (forkC va vb l h).toArray 186 (0, 0))) (w : World) (hi : Imm M w) :
    Calls Tryd.prog 169 #[ptr p] w fun e w' => e = .returned (.int .i64 l.length) ∧ Below w.heap.size w w' := by
  (have HS := St.start hi; go_enter Tryd.func169, Tryd.ntmps169)
  go_wp2_with (first | ((with_reducible refine' q_alloc ?_); refine' a_alloc HS ?_; clear HS; intro b_ w_ HS) | ((with_reducible refine' q_box ?_); refine' a_box HS ?_; clear HS; intro b_ w_ HS) | ((with_reducible refine' q_load ?_); refine' a_load HS ?_) | ((with_reducible refine' q_store ?_); refine' a_store HS ?_; clear HS; intro w_ HS))
  go_ret
  exact ⟨rfl, HS.below⟩
theorem forkHeight_any (M : Mem) (p : Nat) (va vb : Value) (l : List UInt8) (h : Nat) (hM : M p = some (.cells (forkC va vb l h).toArray 186 (0, 0))) (w : World) (hi : Imm M w) :
    Calls Tryd.prog 168 #[ptr p] w fun e w' => e = .returned (.int .i64 h) ∧ Below w.heap.size w w' := by
  (have HS := St.start hi; go_enter Tryd.func168, Tryd.ntmps168)
  go_wp2_with (first | ((with_reducible refine' q_alloc ?_); refine' a_alloc HS ?_; clear HS; intro b_ w_ HS) | ((with_reducible refine' q_box ?_); refine' a_box HS ?_; clear HS; intro b_ w_ HS) | ((with_reducible refine' q_load ?_); refine' a_load HS ?_) | ((with_reducible refine' q_store ?_); refine' a_store HS ?_; clear HS; intro w_ HS))
  go_ret
  exact ⟨rfl, HS.below⟩
theorem forkWeld_any (M : Mem) (p : Nat) (va vb : Value) (l : List UInt8) (h : Nat) (hM : M p = some (.cells (forkC va vb l h).toArray 186 (0, 0))) (w : World) (hi : Imm M w) :
    Calls Tryd.prog 170 #[ptr p] w fun e w' => e = .returned (weldV l) ∧ Below w.heap.size w w' := by
  (have HS := St.start hi; go_enter Tryd.func170, Tryd.ntmps170)
  go_wp2_with (first | ((with_reducible refine' q_alloc ?_); refine' a_alloc HS ?_; clear HS; intro b_ w_ HS) | ((with_reducible refine' q_box ?_); refine' a_box HS ?_; clear HS; intro b_ w_ HS) | ((with_reducible refine' q_load ?_); refine' a_load HS ?_) | ((with_reducible refine' q_store ?_); refine' a_store HS ?_; clear HS; intro w_ HS))
  (refine post_cell (p := 2) (T := 87) rfl HS rfl rfl (by (first | (apply Blk.loc; (repeat (first | (with_reducible exact List.mem_cons_self) | apply List.mem_cons_of_mem)); done) | (apply Blk.imm; with_reducible assumption))) (by exact Eq.refl true) ?_)
  exact ⟨rfl, HS.below⟩

/- A call of a node's method, the node known by its bytes and height. -/
theorem enter_of {P : Program} {o : Oper} {a : Act} {w : World} {x : Operand} {name : String} {v : Value} {f : Nat} {vs : Array Value} {ts : Array TypeId} (ho : o.op = .call { callee := .invoke x name, args := #[], argTypes := ts }) (hx : a.eval x = v)
    (hc : (callMethod v name #[]).run P w = .ok (.enter f vs) w) : (execOp a.eval o).run P w = .ok (.enter f vs) w := by
  unfold execOp
  rw [ho]
  simp only [resolve, Sem.run_bind, Sem.run_pure, Result.andThen, hx, invoke]
  simpa using hc
theorem st_method {P : Program} {ops : Array Oper} {rest : List Oper} {Q : Exit → Act → World → Prop} {a : Act} {w : World} {d : Option Tmp} {x : Operand} {name : String} {ts : Array TypeId} {ty : TypeId} {ps : String} {af : Array Edge} {g : Option (Nat × Bool)} {v : Value} {R : Ending → World → Prop}
    (hw : Region.wanted { dst := d, op := .call { callee := .invoke x name, args := #[], argTypes := ts }, type := ty, pos := ps, after := af, guard := g } (yielded ops a.tmps) = true) (hx : a.eval x = v)
    (hc : ∃ f vs, (callMethod v name #[]).run P w = .ok (.enter f vs) w ∧ Calls P f vs w R) (k : ∀ e w', R e w' → ∃ u, e = .returned u ∧ wpList P ops Q rest (a.put d u) w') :
    wpList P ops Q ({ dst := d, op := .call { callee := .invoke x name, args := #[], argTypes := ts }, type := ty, pos := ps, after := af, guard := g } :: rest) a w :=
  wpList_step fun K hK => by
    obtain ⟨f, vs, h1, h2⟩ := hc
    rw [if_pos hw]
    unfold Oper.wp
    rw [enter_of rfl hx h1]
    exact h2.mono fun e w' he => by
      obtain ⟨u, rfl, h⟩ := k e w' he
      exact hK _ _ h

theorem nodeSize (M : Mem) {v : Value} {l : List UInt8} {h : Nat} (n : Node M v l h) (w : World) (hi : Imm M w) :
    ∃ f vs, (callMethod v "galley/rope.size" #[]).run Tryd.prog w = .ok (.enter f vs) w ∧ Calls Tryd.prog f vs w fun e w' => e = .returned (.int .i64 l.length) ∧ Below w.heap.size w w' := by
  cases n with
  | tip p l hp h0 h1 => exact ⟨165, _, by kernel_rfl, tipSize_any M p l hp w hi⟩
  | fork p va vb a b ha hb na nb hM => exact ⟨169, _, by kernel_rfl, forkSize_any M p va vb _ _ hM w hi⟩
theorem nodeHeight (M : Mem) {v : Value} {l : List UInt8} {h : Nat} (n : Node M v l h) (w : World) (hi : Imm M w) :
    ∃ f vs, (callMethod v "galley/rope.height" #[]).run Tryd.prog w = .ok (.enter f vs) w ∧ Calls Tryd.prog f vs w fun e w' => e = .returned (.int .i64 h) ∧ Below w.heap.size w w' := by
  cases n with
  | tip p l hp h0 h1 => exact ⟨164, _, by kernel_rfl, tipHeight_any p M w hi⟩
  | fork p va vb a b ha hb na nb hM => exact ⟨168, _, by kernel_rfl, forkHeight_any M p va vb _ _ hM w hi⟩
theorem nodeWeld (M : Mem) {v : Value} {l : List UInt8} {h : Nat} (n : Node M v l h) (w : World) (hi : Imm M w) :
    ∃ f vs, (callMethod v "galley/rope.weld" #[]).run Tryd.prog w = .ok (.enter f vs) w ∧ Calls Tryd.prog f vs w fun e w' => e = .returned (weldV l) ∧ Below w.heap.size w w' := by
  cases n with
  | tip p l hp h0 h1 => exact ⟨166, _, by kernel_rfl, tipWeld_any M p l hp w hi⟩
  | fork p va vb a b ha hb na nb hM => exact ⟨170, _, by kernel_rfl, forkWeld_any M p va vb _ _ hM w hi⟩
end Go.Proofs.YtbogoehjoglneaaDoor

/- A slice of one's own that grows: append, make; a slice over immutable memory. No Go function is named here. -/
namespace Go.Proofs.YtbogoehjoglneaaDoor
open Go.RowKit
set_option linter.unusedVariables false
set_option linter.unusedSimpArgs false

/- What a slice type's row says of its elements. -/
class RI (P : Program) (T : TypeId) (e : outParam TypeId) (z : outParam Value) (size : outParam Nat) (bytes : outParam Nat) : Prop where
  under : P.underlying T = some (.slice e)
  info : (P.info? e).map (fun i => (i.zero, i.size, i.bytes)) = some (some z, size, bytes)
  hz : z.cells.size = size
  pos : 0 < size
  small : bytes ≤ 64
  spos : 0 < bytes

/- A list under some items. -/
inductive Pre : (List (Nat × Obj) → List (Nat × Obj)) → Prop
  | nil : Pre (fun y => y)
  | cons {F : List (Nat × Obj) → List (Nat × Obj)} {p : Nat × Obj} : Pre F → Pre (fun y => p :: F y)
theorem Pre.is {F : List (Nat × Obj) → List (Nat × Obj)} (h : Pre F) : ∃ K, ∀ y, F y = K ++ y := by
  induction h with
  | nil => exact ⟨[], fun _ => rfl⟩
  | cons h ih => rename_i p; obtain ⟨K, hK⟩ := ih; exact ⟨p :: K, fun y => by simp only [hK y]; rfl⟩

/- A slice of one's own: n elements, their cells xs, the block where they lie. -/
def Row (e : TypeId) (size : Nat) (v : Value) (n : Nat) (xs : List Value) (Lx : List (Nat × Obj)) : Prop :=
  xs.length = n * size ∧ ((v = .slice none 0 0 ∧ n = 0 ∧ Lx = []) ∨
    ∃ g cap cur, v = .slice (some ⟨g, 0, none⟩) n cap ∧ Lx = [(g, .cells cur e (0, 0))] ∧ n ≤ cap ∧ cap ≤ maxLen ∧ cur.size = cap * size ∧ cur.toList.take (n * size) = xs)
theorem Row.nil (e : TypeId) (size : Nat) : Row e size (.slice none 0 0) 0 [] [] := ⟨by simp, .inl ⟨rfl, rfl, rfl⟩⟩

/- Values that can be read at an address in every world that has M and L. -/
def Src (M : Mem) (L : List (Nat × Obj)) (A : Option Addr) (m size : Nat) (news : List Value) : Prop :=
  news.length = m * size ∧ (∀ u ∈ news, u.oneCell' = true) ∧ (A = none → m = 0) ∧ ∀ ad, A = some ad → ∀ w, Imm M w → (∀ p ∈ L, w.heap[p.1]? = some p.2) → ∀ j u, news[j]? = some u → w.cell? (ad.add j) = some u
theorem Src.own {M : Mem} {L : List (Nat × Obj)} {b : Nat} {t : TypeId} {fr : Nat × Nat} {m size : Nat} {news : List Value} (h : (b, Obj.cells news.toArray t fr) ∈ L) (hl : Nat.beq news.length (m * size) = true) (ho : news.all Value.oneCell' = true) :
    Src M L (some ⟨b, 0, none⟩) m size news :=
  ⟨Nat.eq_of_beq_eq_true hl, fun u hu => List.all_eq_true.1 ho u hu, fun h => (by cases h), fun ad e w _ hL j u hj => by
    cases e
    rw [Addr.add_lit, Nat.zero_add, cell_of_row _ _ _ _ _ _ (hL _ h)]
    simpa using hj⟩
theorem Src.bs {M : Mem} {L : List (Nat × Obj)} {A : Option Addr} {c : Nat} {l : List UInt8} (h : BS M A c l) : Src M L A l.length 1 (l.map ub) :=
  ⟨by simp, fun u hu => (by obtain ⟨x, _, rfl⟩ := List.mem_map.1 hu; rfl), fun e => by rw [h.nil e]; rfl, fun ad e w hi _ j u hj => by
    obtain ⟨h1, h2⟩ := h.at_ ad e
    obtain ⟨b, off, sp⟩ := ad
    simp only at h1 h2
    subst h1
    rw [List.getElem?_map] at hj
    obtain ⟨x, hx, rfl⟩ := Option.map_eq_some_iff.1 hj
    obtain ⟨hlt, rfl⟩ := List.getElem?_eq_some_iff.1 hx
    rw [Addr.add_lit]
    exact hi.cell (h2 j hlt)⟩

theorem Src.bs' {M : Mem} {L : List (Nat × Obj)} {A : Option Addr} {c m : Nat} {l : List UInt8} (h : BS M A c l) (hm : m = l.length) : Src M L A m 1 (l.map ub) := hm ▸ Src.bs h
theorem Row.shape {e : TypeId} {size n : Nat} {v : Value} {xs : List Value} {Lx : List (Nat × Obj)} (h : Row e size v n xs Lx) : ∃ A c, v = .slice A n c := by
  obtain ⟨_, ⟨rfl, rfl, _⟩ | ⟨g, cap, cur, rfl, _⟩⟩ := h
  · exact ⟨_, _, rfl⟩
  · exact ⟨_, _, rfl⟩

/- A slice over immutable memory: n elements of size cells. -/
structure SL (M : Mem) (size : Nat) (A : Option Addr) (n c : Nat) (xs : List Value) : Prop where
  len : xs.length = n * size
  one : ∀ u ∈ xs, u.oneCell' = true
  cap : n ≤ c
  nil : A = none → n = 0
  at_ : ∀ ad, A = some ad → ad.spot = none ∧ ∀ j u, xs[j]? = some u → cellM M ad.block (ad.off + j) = some u
theorem SL.mono {M M' : Mem} {size n c : Nat} {A : Option Addr} {xs : List Value} (h : SL M size A n c xs) (hm : M.le M') : SL M' size A n c xs :=
  ⟨h.len, h.one, h.cap, h.nil, fun ad e => ⟨(h.at_ ad e).1, fun j u hj => cellM_le hm ((h.at_ ad e).2 j u hj)⟩⟩
theorem SL.none (M : Mem) (size c : Nat) : SL M size none 0 c [] := ⟨by simp, fun _ h => (by cases h), Nat.zero_le _, fun _ => rfl, fun _ e => by cases e⟩
theorem Src.sl {M : Mem} {L : List (Nat × Obj)} {A : Option Addr} {size n c : Nat} {xs : List Value} (h : SL M size A n c xs) : Src M L A n size xs :=
  ⟨h.len, h.one, h.nil, fun ad e w hi _ j u hj => by
    obtain ⟨h1, h2⟩ := h.at_ ad e
    obtain ⟨b, off, sp⟩ := ad
    simp only at h1 h2
    subst h1
    rw [Addr.add_lit]
    exact hi.cell (h2 j u hj)⟩
theorem BS.of_sl {M : Mem} {A : Option Addr} {c : Nat} {l : List UInt8} (h : SL M 1 A l.length c (l.map ub)) : BS M A c l :=
  ⟨h.cap, fun e => List.eq_nil_of_length_eq_zero (h.nil e), fun ad e => ⟨(h.at_ ad e).1, fun i hi => (h.at_ ad e).2 i _ (by simp [hi])⟩⟩

section
variable {P : Program} {ops : Array Oper} {rest : List Oper} {a : Act} {Q : Exit → Act → World → Prop} {w w0 : World} {B : Nat → Prop} {M : Mem}

/- An own row becomes immutable: what is handed back. -/
theorem St.keepRow {F : List (Nat × Obj) → List (Nat × Obj)} {Lx : List (Nat × Obj)} {e : TypeId} {size n : Nat} {v : Value} {xs : List Value} (HS : St B w0 w M (F Lx)) (hF : Pre F) (HR : Row e size v n xs Lx) (ho : ∀ u ∈ xs, u.oneCell' = true) (hB : ∀ k, B k → M k = none → w0.heap.size ≤ k) :
    ∃ A c M', v = .slice A n c ∧ M.le M' ∧ M.fresh M' w0.heap.size ∧ St B w0 w M' (F []) ∧ SL M' size A n c xs := by
  obtain ⟨K, hK⟩ := hF.is
  rw [hK] at HS ⊢
  obtain ⟨hl, ⟨rfl, rfl, rfl⟩ | ⟨g, cap, cur, rfl, rfl, h1, h2, h3, h4⟩⟩ := HR
  · obtain rfl : xs = [] := List.eq_nil_of_length_eq_zero (by simpa using hl)
    exact ⟨none, 0, M, rfl, Mem.le_refl _, Mem.fresh_refl _ _, HS, SL.none _ _ _⟩
  · have HS1 : St B w0 w M ((g, .cells cur e (0, 0)) :: K) := HS.perm (by simpa using List.perm_append_comm)
    have hb := HS1.base _ (.head _)
    refine ⟨some ⟨g, 0, Option.none⟩, cap, M.add g _, rfl, Mem.le_add hb.2, Mem.fresh_add (hB _ hb.1 hb.2), by simpa using HS1.keep, hl, ho, h1, fun h => (by cases h), fun ad e => ?_⟩
    cases e
    refine ⟨rfl, fun j u hj => ?_⟩
    simp only [Nat.zero_add]
    unfold cellM
    rw [Mem.add_same]
    simp only
    rw [← h4, List.getElem?_take] at hj
    split at hj
    · simpa using hj
    · cases hj

theorem run_append_zero {t ty e : TypeId} {i : TypeInfo} {A : Option Addr} {n c : Nat} {xs : List Value} {v : Value} {size base : Nat} (ht : P.underlying t = some (.slice e)) (hi : P.info? e = some i) (hown : w.ownsRow base e size v n xs) :
    (Builtin.append_ #[t, t] ty #[v, .slice A 0 c]).run P w = .ok v w := by
  rcases hown.2 with ⟨rfl, rfl⟩ | ⟨g, cap, cur, rfl, _, _, hnc, _⟩
  · cases A <;> simp [Builtin.append_, run_underlying ht, sizeOf, typeInfo, hi, Builtin.lenOf, Builtin.firstCells, loadCells, loadCellsFrom, storeCells, Result.andThen]
  · cases A <;> simp [Builtin.append_, run_underlying ht, sizeOf, typeInfo, hi, Builtin.lenOf, Builtin.firstCells, hnc, storeCells, loadCells, loadCellsFrom, storeCells, Result.andThen]

theorem St.grown' {K : List (Nat × Obj)} {w' : World} (HS : St B w0 w M K) (hg : w.grownBy w' none) : St B w0 w' M K :=
  HS.call ⟨hg.os, hg.tape, hg.output, hg.size, fun k hk => hg.block k hk (by simp)⟩
theorem St.turned {K : List (Nat × Obj)} {g : Nat} {o o' : Obj} {w' : World} (HS : St B w0 w M ((g, o) :: K)) (hg : w.grownBy w' (some g)) (h' : w'.heap[g]? = some o') : St B w0 w' M ((g, o') :: K) where
  moved := HS.moved.trans ⟨hg.os, hg.tape, hg.output, hg.size, fun k hk hn => hg.block k hk (fun e => hn (by cases e; exact (HS.base _ (.head _)).1))⟩
  imm := fun b x e => by
    have h1 := HS.imm b x e
    rw [hg.block b (Array.getElem?_eq_some_iff.1 h1).1 (fun h => by cases h; rw [(HS.base _ (.head _)).2] at e; cases e)]; exact h1
  loc := fun p hp => by
    rcases List.mem_cons.1 hp with rfl | hp
    · exact h'
    · have h1 := HS.loc p (.tail _ hp)
      rw [hg.block p.1 (Array.getElem?_eq_some_iff.1 h1).1 (fun h => by
        have := (List.nodup_cons.1 HS.nodup).1
        exact this (List.mem_map.2 ⟨p, hp, by cases h; rfl⟩))]; exact h1
  base := fun p hp => by
    rcases List.mem_cons.1 hp with rfl | hp
    · exact HS.base (g, o) (.head _)
    · exact HS.base p (.tail _ hp)
  nodup := HS.nodup
  hB := HS.hB
theorem St.newRow {K : List (Nat × Obj)} {w1 : World} {g : Nat} {o : Obj} (HS : St B w0 w1 M K) (HS0 : St B w0 w M K) (hg : w.heap.size ≤ g) (ho : w1.heap[g]? = some o) : St B w0 w1 M ((g, o) :: K) where
  moved := HS.moved
  imm := HS.imm
  loc := fun p hp => by
    rcases List.mem_cons.1 hp with rfl | hp
    · exact ho
    · exact HS.loc p hp
  base := fun p hp => by
    rcases List.mem_cons.1 hp with rfl | hp
    · exact ⟨HS.hB _ (Nat.le_trans HS0.moved.size hg), HS0.imm.fresh hg⟩
    · exact HS.base p hp
  nodup := by
    refine List.nodup_cons.2 ⟨fun hm => ?_, HS.nodup⟩
    obtain ⟨p, hp, e⟩ := List.mem_map.1 hm
    have := (Array.getElem?_eq_some_iff.1 (HS0.loc p hp)).1
    omega
  hB := HS.hB

/- append onto a slice of one's own. -/
theorem run_append_row {T ty e : TypeId} {z : Value} {size bytes : Nat} [RI P T e z size bytes] {F : List (Nat × Obj) → List (Nat × Obj)} {Lx : List (Nat × Obj)} {v : Value} {n m c : Nat} {xs news : List Value} {A : Option Addr}
    (HR : Row e size v n xs Lx) (HS : St B w0 w M (F Lx)) (hF : Pre F) (hs : Src M (F Lx) A m size news) (hm : n + m ≤ 1099511627776) :
    ∃ v' Lx' w', (Builtin.append_ #[T, T] ty #[v, .slice A m c]).run P w = .ok v' w' ∧ Row e size v' (n + m) (xs ++ news) Lx' ∧ St B w0 w' M (F Lx') := by
  obtain ⟨i, hi, hz0, hz1, hz2⟩ := info_parts (RI.info (P := P) (T := T))
  have ht : P.underlying T = some (.slice e) := RI.under
  have hzs : z.cells.size = size := RI.hz P T
  have hpos : 0 < size := RI.pos P T
  have hsm : bytes ≤ 64 := RI.small P T
  have hb1 : (n + m) * bytes ≤ 140737488355328 := Nat.le_trans (Nat.mul_le_mul hm hsm) (by omega)
  have hb2 : n + m ≤ maxLen := by simp only [maxLen]; omega
  obtain ⟨K, hK⟩ := hF.is
  obtain ⟨hl1, hone, hno, hat⟩ := hs
  have hcells : ∀ ad, A = some ad → ∀ j u, news[j]? = some u → w.cell? (ad.add j) = some u := fun ad e => hat ad e w HS.imm (fun p hp => HS.loc p hp)
  rw [hK] at HS
  obtain ⟨hl, ⟨rfl, rfl, rfl⟩ | ⟨g, cap, cur, rfl, rfl, h1, h2, h3, h4⟩⟩ := HR
  · obtain rfl : xs = [] := List.eq_nil_of_length_eq_zero (by simpa using hl)
    rw [List.append_nil] at HS
    cases A with
    | none =>
      obtain rfl := hno rfl
      obtain rfl : news = [] := List.eq_nil_of_length_eq_zero (by simpa using hl1)
      exact ⟨_, [], w, run_append_zero ht hi (World.ownsRow_nil w 0 e size), ⟨by simp, .inl ⟨rfl, rfl, rfl⟩⟩, by rw [hK, List.append_nil]; exact HS⟩
    | some ad =>
      obtain ⟨v', w', hrun, r1, r2, r3⟩ := run_append_own (P := P) w w.heap.size T ty e i z size bytes ht hi hz0 hz1 hz2 hzs hpos (.slice none 0 0) 0 [] (World.ownsRow_nil w _ e size) ad m c news hl1 (hcells ad rfl) hone hb2 hb1 (Nat.le_refl _)
      rcases r1.2 with ⟨rfl, h0⟩ | ⟨g, cap, cur, rfl, hbg, hg, g1, g2, g3, g4⟩
      · exact ⟨_, [], w', hrun, ⟨r1.1, .inl ⟨rfl, h0, rfl⟩⟩, by rw [hK, List.append_nil]; exact HS.grown' r2⟩
      · refine ⟨_, [(g, .cells cur e (0, 0))], w', hrun, ⟨r1.1, .inr ⟨g, cap, cur, rfl, rfl, g1, g2, g3, g4⟩⟩, ?_⟩
        rw [hK]
        exact ((HS.grown' r2).newRow HS hbg hg).perm (by simpa using List.perm_append_comm (l₁ := [_]))
  · have HS1 : St B w0 w M ((g, .cells cur e (0, 0)) :: K) := HS.perm (by simpa using List.perm_append_comm)
    have hown : w.ownsRow 0 e size (.slice (some ⟨g, 0, none⟩) n cap) n xs := ⟨hl, .inr ⟨g, cap, cur, rfl, Nat.zero_le _, HS1.loc _ (.head _), h1, h2, h3, h4⟩⟩
    cases A with
    | none =>
      obtain rfl := hno rfl
      obtain rfl : news = [] := List.eq_nil_of_length_eq_zero (by simpa using hl1)
      exact ⟨_, [(g, .cells cur e (0, 0))], w, run_append_zero ht hi hown, by rw [List.append_nil]; exact ⟨hl, .inr ⟨g, cap, cur, rfl, rfl, h1, h2, h3, h4⟩⟩, by rw [hK]; exact HS⟩
    | some ad =>
      by_cases hr : n + m ≤ cap
      · obtain ⟨w', hrun, r1, r2⟩ := run_append_fits (P := P) w 0 T ty e i size ht hi hz1 g n cap xs hown ad m c news hl1 (hcells ad rfl) hone hr
        rcases r1.2 with ⟨h, _⟩ | ⟨g', cap', cur', h, _, hg, g1, g2, g3, g4⟩
        · cases h
        · cases h
          refine ⟨_, [(g, .cells cur' e (0, 0))], w', hrun, ⟨r1.1, .inr ⟨g, cap, cur', rfl, rfl, g1, g2, g3, g4⟩⟩, ?_⟩
          rw [hK]
          exact (HS1.turned r2 hg).perm (by simpa using List.perm_append_comm (l₁ := [_]))
      · obtain ⟨v', w', hrun, r1, r2⟩ := run_append_arg_grows (P := P) w T ty e i z size bytes ht hi hz0 hz1 hz2 hzs hpos ⟨g, 0, none⟩ n cap xs hl (hown.cells rfl) ad m c news hl1 (hcells ad rfl) (by omega) hb2 hb1
        have HS2 : St B w0 w M K := HS1.drop
        rcases r1.2 with ⟨rfl, h0⟩ | ⟨g', cap', cur', rfl, hbg, hg, g1, g2, g3, g4⟩
        · exact ⟨_, [], w', hrun, ⟨r1.1, .inl ⟨rfl, h0, rfl⟩⟩, by rw [hK, List.append_nil]; exact HS2.grown' r2⟩
        · refine ⟨_, [(g', .cells cur' e (0, 0))], w', hrun, ⟨r1.1, .inr ⟨g', cap', cur', rfl, rfl, g1, g2, g3, g4⟩⟩, ?_⟩
          rw [hK]
          exact ((HS2.grown' r2).newRow HS2 hbg hg).perm (by simpa using List.perm_append_comm (l₁ := [_]))

theorem st_append {T ty e : TypeId} {z : Value} {size bytes : Nat} [RI P T e z size bytes] {d : Option Tmp} {s x : Operand} {ps : String} {af : Array Edge} {gd : Option (Nat × Bool)} {F : List (Nat × Obj) → List (Nat × Obj)} {Lx : List (Nat × Obj)} {v : Value} {n m c : Nat} {xs news : List Value} {A : Option Addr}
    (HR : Row e size v n xs Lx) (HS : St B w0 w M (F Lx)) (hF : Pre F)
    (hw : Region.wanted { dst := d, op := .call { callee := .builtin .append, args := #[s, x], argTypes := #[T, T] }, type := ty, pos := ps, after := af, guard := gd } (yielded ops a.tmps) = true)
    (h1 : a.eval s = v) (h2 : a.eval x = .slice A m c) (hs : Src M (F Lx) A m size news) (hm : n + m ≤ 1099511627776)
    (k : ∀ v' Lx' w', Row e size v' (n + m) (xs ++ news) Lx' → St B w0 w' M (F Lx') → wpList P ops Q rest (a.put d v') w') :
    wpList P ops Q ({ dst := d, op := .call { callee := .builtin .append, args := #[s, x], argTypes := #[T, T] }, type := ty, pos := ps, after := af, guard := gd } :: rest) a w := by
  obtain ⟨v', Lx', w', hrun, hR, hS⟩ := run_append_row (P := P) (T := T) (ty := ty) (c := c) HR HS hF hs hm
  refine wpList_ok (v := v') (w' := w') hw ?_ (k _ _ _ hR hS)
  subst h1
  simp [execOp, resolve, invoke, builtin, h2, hrun, Result.andThen]

/- make([]T, 0, n). -/
theorem st_make {T ty e : TypeId} {z : Value} {size bytes : Nat} [RI P T e z size bytes] {d : Option Tmp} {l c : Operand} {ps : String} {af : Array Edge} {gd : Option (Nat × Bool)} {L : List (Nat × Obj)} {kl kc : IntKind} {n : Nat} {C : Int}
    (HS : St B w0 w M L)
    (hw : Region.wanted { dst := d, op := .makeSlice T l c, type := ty, pos := ps, after := af, guard := gd } (yielded ops a.tmps) = true)
    (h1 : a.eval l = .int kl 0) (h2 : a.eval c = .int kc C) (h3 : C = (n : Int)) (hm : n ≤ 1099511627776)
    (k : ∀ v' g o w', Row e size v' 0 [] [(g, o)] → St B w0 w' M ((g, o) :: L) → wpList P ops Q rest (a.put d v') w') :
    wpList P ops Q ({ dst := d, op := .makeSlice T l c, type := ty, pos := ps, after := af, guard := gd } :: rest) a w := by
  obtain ⟨i, hi, hz0, hz1, hz2⟩ := info_parts (RI.info (P := P) (T := T))
  have ht : P.underlying T = some (.slice e) := RI.under
  have hsm : bytes ≤ 64 := RI.small P T
  subst h3
  obtain ⟨w', hrun, r1, r2⟩ := run_make_own (P := P) w w.heap.size T e i z size ht hi hz0 hz1 kl kc n (by rw [hz2]; exact Nat.le_trans (Nat.mul_le_mul hsm hm) (by omega)) (by simp only [maxLen]; omega) (Nat.le_refl _)
  rcases r1.2 with ⟨h, _⟩ | ⟨g, cap, cur, h, hbg, hg, g1, g2, g3, g4⟩
  · cases h
  · cases h
    refine wpList_ok (w' := w') hw ?_ (k _ _ (.cells cur e (0, 0)) w' ⟨by simp, .inr ⟨_, _, cur, rfl, rfl, g1, g2, g3, g4⟩⟩ ((HS.grown' r2).newRow HS hbg hg))
    simp [execOp, h1, h2, hrun, Result.andThen]

/- A slice's literal. -/
theorem st_build {T ty e : TypeId} {z : Value} {size bytes : Nat} [RI P T e z size bytes] {d : Option Tmp} {len : Nat} {parts : Array (Nat × Operand)} {ps : String} {af : Array Edge} {gd : Option (Nat × Bool)} {L : List (Nat × Obj)} {cl : List Value}
    (hw : Region.wanted { dst := d, op := .buildSlice T len parts, type := ty, pos := ps, after := af, guard := gd } (yielded ops a.tmps) = true) (HS : St B w0 w M L)
    (hl : Nat.ble (len * size) 16777216 = true) (h0 : Nat.blt 0 len = true)
    (hf : Instr.fill (fun i => some (i * size, size)) ((Array.range (len * size)).map (z.cells[· % z.cells.size]!)) (parts.map fun (i, x) => (i, a.eval x)).toList = some cl.toArray)
    (k : ∀ b w', St B w0 w' M ((b, .cells cl.toArray e (0, 0)) :: L) → wpList P ops Q rest (a.put d (.slice (some ⟨b, 0, none⟩) len len)) w') :
    wpList P ops Q ({ dst := d, op := .buildSlice T len parts, type := ty, pos := ps, after := af, guard := gd } :: rest) a w := by
  obtain ⟨i, hi, hz0, hz1, hz2⟩ := info_parts (RI.info (P := P) (T := T))
  have ht : P.underlying T = some (.slice e) := RI.under
  have hpos : 0 < size := RI.pos P T
  have hl' := Nat.le_of_ble_eq_true hl
  have h0' : 0 < len := Nat.le_of_ble_eq_true h0
  have hm : 0 < len * size := Nat.mul_pos h0' hpos
  subst hz1
  refine wpList_ok (w' := w.alloc (.cells cl.toArray e)) hw ?_ (k _ _ (HS.alloc _))
  simp only [execOp, Sem.run_bind, run_buildSlice w T e len _ cl.toArray i z ht hi hz0 (by omega) (by omega) hf, Result.andThen, Sem.run_pure]
theorem st_build0 {T ty e : TypeId} {z : Value} {size bytes : Nat} [RI P T e z size bytes] {d : Option Tmp} {ps : String} {af : Array Edge} {gd : Option (Nat × Bool)} {L : List (Nat × Obj)}
    (hw : Region.wanted { dst := d, op := .buildSlice T 0 #[], type := ty, pos := ps, after := af, guard := gd } (yielded ops a.tmps) = true) (HS : St B w0 w M L)
    (k : ∀ v' Lx w', Row e size v' 0 [] Lx → St B w0 w' M (Lx ++ L) → wpList P ops Q rest (a.put d v') w') :
    wpList P ops Q ({ dst := d, op := .buildSlice T 0 #[], type := ty, pos := ps, after := af, guard := gd } :: rest) a w := by
  obtain ⟨i, hi, hz0, hz1, hz2⟩ := info_parts (RI.info (P := P) (T := T))
  have ht : P.underlying T = some (.slice e) := RI.under
  refine wpList_ok (v := .slice (some ⟨w.heap.size, 0, none⟩) 0 0) (w' := w.alloc (.cells #[] e)) hw ?_ (k _ [(w.heap.size, .cells #[] e (0, 0))] _ ⟨by simp, .inr ⟨_, 0, #[], rfl, rfl, Nat.le_refl _, Nat.zero_le _, by simp, by simp⟩⟩ (HS.alloc _))
  simp [execOp, Instr.buildSlice, run_underlying ht, sizeOf, typeInfo, hi, newRow, Instr.fill, Result.andThen]
  rw [show (Array.range 0 : Array Nat) = #[] from Array.eq_empty_of_size_eq_zero (by simp)]; simp
end
end Go.Proofs.YtbogoehjoglneaaDoor

/- Slices over immutable memory: slicing, an element's address, an element's load. No Go function is named here. -/
namespace Go.Proofs.YtbogoehjoglneaaDoor
open Go.RowKit
set_option linter.unusedVariables false
set_option linter.unusedSimpArgs false

theorem SL.slice {M : Mem} {size n c : Nat} {A : Option Addr} {xs : List Value} (h : SL M size A n c xs) {lo hi : Nat} (h1 : lo ≤ hi) (h2 : hi ≤ n) :
    SL M size (if c = lo then A else A.map (·.add (lo * size))) (hi - lo) (c - lo) ((xs.take (hi * size)).drop (lo * size)) := by
  have hm : hi * size ≤ n * size := Nat.mul_le_mul_right _ h2
  have hs : hi * size - lo * size = (hi - lo) * size := (Nat.sub_mul hi lo size).symm
  refine ⟨by rw [List.length_drop, List.length_take, h.len, Nat.min_eq_left hm, hs], fun u hu => h.one u (List.mem_of_mem_take (List.mem_of_mem_drop hu)), by have := h.cap; omega, fun e => ?_, fun ad e => ?_⟩
  · have : n = 0 := by
      split at e
      · exact h.nil e
      · cases A with
        | none => exact h.nil rfl
        | some ad => cases e
    omega
  · split at e
    · rename_i hc
      have := h.cap
      refine ⟨(h.at_ ad e).1, fun j u hj => ?_⟩
      have hlo : hi - lo = 0 := by omega
      have hlen : ((xs.take (hi * size)).drop (lo * size)).length = 0 := by rw [List.length_drop, List.length_take, h.len, Nat.min_eq_left hm, hs, hlo, Nat.zero_mul]
      rw [List.eq_nil_of_length_eq_zero hlen] at hj
      cases hj
    · cases A with
      | none => cases e
      | some a0 =>
        obtain ⟨g1, g2⟩ := h.at_ a0 rfl
        obtain ⟨b, off, sp⟩ := a0
        simp only at g1 g2
        subst g1
        simp only [Option.map_some, Option.some.injEq, Addr.add_lit] at e
        subst e
        refine ⟨rfl, fun j u hj => ?_⟩
        rw [List.getElem?_drop, List.getElem?_take] at hj
        split at hj
        · simp only
          rw [Nat.add_assoc]; exact g2 _ _ hj
        · cases hj

section
variable {P : Program} {ops : Array Oper} {rest : List Oper} {a : Act} {Q : Exit → Act → World → Prop} {w w0 : World} {B : Nat → Prop} {M : Mem} {L : List (Nat × Obj)}

theorem RI.sizeOf {T e : TypeId} {z : Value} {size bytes : Nat} [RI P T e z size bytes] (w : World) : (Go.sizeOf e).run P w = .ok size w := by
  obtain ⟨i, hi, hz0, hz1, hz2⟩ := info_parts (RI.info (P := P) (T := T))
  simp [Go.sizeOf, typeInfo, hi, hz1]

theorem st_slice_sl {d : Option Tmp} {S e ty : TypeId} {z : Value} {size bytes : Nat} [RI P S e z size bytes] {x : Operand} {lo hi : Option Operand} {ps : String} {af : Array Edge} {g : Option (Nat × Bool)} {A : Option Addr} {n c : Nat} {xs : List Value} (i j : Nat)
    (hw : Region.wanted { dst := d, op := .slice S x lo hi Option.none, type := ty, pos := ps, after := af, guard := g } (yielded ops a.tmps) = true)
    (hx : a.eval x = .slice A n c) (hb : SL M size A n c xs) (hij : sliceEnds n (lo.map a.eval) (hi.map a.eval) i j)
    (k : ∀ A', SL M size A' (j - i) (c - i) ((xs.take (j * size)).drop (i * size)) → wpList P ops Q rest (a.put d (.slice A' (j - i) (c - i))) w) :
    wpList P ops Q ({ dst := d, op := .slice S x lo hi Option.none, type := ty, pos := ps, after := af, guard := g } :: rest) a w := by
  have hj := hij.2.2
  refine wpList_ok (v := .slice (if c = i then A else A.map (·.add (i * size))) (j - i) (c - i)) (w' := w) hw ?_ (k _ (hb.slice hj.1 hj.2))
  simp only [execOp, hx, Instr.sliceAt, Sem.run_bind, run_underlying (RI.under (P := P) (T := S)), Result.andThen, Option.map_none, Instr.slice, run_sliceBounds (P := P) (w := w) (b := true) hij hb.cap, RI.sizeOf (P := P) (T := S) w, Sem.run_pure]

theorem dSliceL {ops : List Oper} {S : World → Prop} {brk : Nat → Bool} {r : List (Bool × Nat)} {i : Nat} {d : Option Tmp} {T e ty : TypeId} {z : Value} {size bytes : Nat} [RI P T e z size bytes] {x : Operand} {lo hi' : Option Operand} {ps : String} {af : Array Edge} {g : Option (Nat × Bool)} {A : Option Addr} {n c : Nat} {xs : List Value} (p q : Nat)
    (hi : nth ops i = some { dst := d, op := .slice T x lo hi' Option.none, type := ty, pos := ps, after := af, guard := g }) (hw : Region.wanted { dst := d, op := .slice T x lo hi' Option.none, type := ty, pos := ps, after := af, guard := g } (yielded ops.toArray a.tmps) = true)
    (hx : a.eval x = .slice A n c) (hb : SL M size A n c xs) (hij : sliceEnds n (lo.map a.eval) (hi'.map a.eval) p q)
    (k : ∀ A', SL M size A' (q - p) (c - p) ((xs.take (q * size)).drop (p * size)) → lexD P ops.toArray Q S brk r (a.put d (.slice A' (q - p) (c - p))) w) : lexD P ops.toArray Q S brk ((true, i) :: r) a w := by
  have hj := hij.2.2
  exact dSoft (v := .slice (if c = p then A else A.map (·.add (p * size))) (q - p) (c - p)) hi hw
    (fun w _ => by simp only [execOp, hx, Instr.sliceAt, Sem.run_bind, run_underlying (RI.under (P := P) (T := T)), Result.andThen, Option.map_none, Instr.slice, run_sliceBounds (P := P) (w := w) (b := true) hij hb.cap, RI.sizeOf (P := P) (T := T) w, Sem.run_pure]) (k _ (hb.slice hj.1 hj.2))

/- &l[i] of a slice over immutable memory. -/
theorem st_idx_sl {d : Option Tmp} {T e ty : TypeId} {z : Value} {size bytes : Nat} [RI P T e z size bytes] {x ix : Operand} {ps : String} {af : Array Edge} {g : Option (Nat × Bool)} {A : Option Addr} {n c : Nat} {xs : List Value} {j : Int}
    (hw : Region.wanted { dst := d, op := .indexAddr T x ix, type := ty, pos := ps, after := af, guard := g } (yielded ops a.tmps) = true)
    (hx : a.eval x = .slice A n c) (hb : SL M size A n c xs) (hi : a.eval ix = .int .i64 j) (hj : 0 ≤ j ∧ j < n)
    (k : ∀ b o, (∀ t u, xs[j.toNat * size + t]? = some u → cellM M b (o + t) = some u) → wpList P ops Q rest (a.put d (.pointer (some ⟨b, o, Option.none⟩))) w) :
    wpList P ops Q ({ dst := d, op := .indexAddr T x ix, type := ty, pos := ps, after := af, guard := g } :: rest) a w := by
  cases A with
  | none => have := hb.nil rfl; omega
  | some ad =>
    obtain ⟨h1, h2⟩ := hb.at_ ad rfl
    obtain ⟨b, off, sp⟩ := ad
    simp only at h1 h2
    subst h1
    refine wpList_ok (v := .pointer (some ⟨b, off + j.toNat * size, Option.none⟩)) (w' := w) hw ?_ (k b (off + j.toNat * size) (fun t u h => by rw [Nat.add_assoc]; exact h2 _ _ h))
    simp [execOp, hx, hi, Instr.indexAt, asIntOf, run_underlying (RI.under (P := P) (T := T)), Result.andThen, hj, RI.sizeOf (P := P) (T := T) w, Addr.add_lit]

/- A load of a struct out of immutable memory. -/
theorem st_load_aggM {d : Option Tmp} {T ty : TypeId} {x : Operand} {ps : String} {af : Array Edge} {g : Option (Nat × Bool)} {z : List Value} [TI P T true z] {b off : Nat} {vs : List Value}
    (hw : Region.wanted { dst := d, op := .load T x, type := ty, pos := ps, after := af, guard := g } (yielded ops a.tmps) = true) (HS : St B w0 w M L) (hx : a.eval x = .pointer (some ⟨b, off, Option.none⟩))
    (hc : ∀ t u, vs[t]? = some u → cellM M b (off + t) = some u) (hl : Nat.beq vs.length z.length = true) (k : wpList P ops Q rest (a.put d (.agg vs.toArray)) w) :
    wpList P ops Q ({ dst := d, op := .load T x, type := ty, pos := ps, after := af, guard := g } :: rest) a w := by
  refine wpList_ok (v := .agg vs.toArray) (w' := w) hw ?_ k
  have hl' := Nat.eq_of_beq_eq_true hl
  have h1 := run_loadCells_list (P := P) w ⟨b, off, none⟩ vs (fun j v hj => by
    rw [Addr.add_lit]; exact HS.imm.cell (hc j v hj))
  rw [hl'] at h1
  have h2 : (loadVar T ⟨b, off, Option.none⟩).run P w = .ok (.agg vs.toArray) w := by
    unfold loadVar
    rw [Sem.run_bind, TI.isAgg w]
    simp only [Result.andThen, if_true, Sem.run_bind, TI.sizeOf w, h1, Sem.run_pure]
  simp only [execOp, hx, Instr.loadAt, Instr.sureAddr, Sem.run_bind, Sem.run_pure, Result.andThen, h2]
theorem st_build0F {T ty e : TypeId} {z : Value} {size bytes : Nat} [RI P T e z size bytes] {d : Option Tmp} {ps : String} {af : Array Edge} {gd : Option (Nat × Bool)} {F : List (Nat × Obj) → List (Nat × Obj)} (hF : Pre F)
    (hw : Region.wanted { dst := d, op := .buildSlice T 0 #[], type := ty, pos := ps, after := af, guard := gd } (yielded ops a.tmps) = true) (HS : St B w0 w M (F []))
    (k : ∀ v' Lx w', Row e size v' 0 [] Lx → St B w0 w' M (F Lx) → wpList P ops Q rest (a.put d v') w') :
    wpList P ops Q ({ dst := d, op := .buildSlice T 0 #[], type := ty, pos := ps, after := af, guard := gd } :: rest) a w := by
  refine st_build0 (size := size) hw HS fun v' Lx w' h1 h2 => k v' Lx w' h1 ?_
  obtain ⟨K, hK⟩ := hF.is
  rw [hK, List.append_nil] at h2
  rw [hK]
  exact h2.perm List.perm_append_comm
end

/- Elements of some cells each. -/
theorem flat_get {α : Type} (f : α → List Value) (size : Nat) (hf : ∀ x, (f x).length = size) : ∀ (es : List α) (j t : Nat) (x : α), es[j]? = some x → t < size → (es.flatMap f)[j * size + t]? = (f x)[t]?
  | [], j, t, x, h, _ => by simp at h
  | e :: es, 0, t, x, h, ht => by
    simp only [List.getElem?_cons_zero, Option.some.injEq] at h
    subst h
    rw [Nat.zero_mul, Nat.zero_add, List.flatMap_cons, List.getElem?_append_left (by rw [hf]; exact ht)]
  | e :: es, j + 1, t, x, h, ht => by
    rw [List.getElem?_cons_succ] at h
    rw [List.flatMap_cons, List.getElem?_append_right (by rw [hf, Nat.add_mul]; omega), hf, show (j + 1) * size + t - size = j * size + t from by rw [Nat.add_mul]; omega]
    exact flat_get f size hf es j t x h ht
theorem flat_len {α : Type} (f : α → List Value) (size : Nat) (hf : ∀ x, (f x).length = size) (es : List α) : (es.flatMap f).length = es.length * size := by
  induction es with
  | nil => simp
  | cons e es ih => rw [List.flatMap_cons, List.length_append, hf, ih, List.length_cons, Nat.add_mul]; omega
end Go.Proofs.YtbogoehjoglneaaDoor

/- What the slice types' rows say of their elements. -/
namespace Go.Proofs.YtbogoehjoglneaaDoor
open Go.RowKit
instance riI169 : RI Tryd.prog 169 180 (.pointer none) 1 8 := ⟨by kernel_rfl, by kernel_rfl, rfl, by decide, by decide, by decide⟩
instance riI28 : RI Tryd.prog 28 5 (.int .u8 0) 1 1 := ⟨by kernel_rfl, by kernel_rfl, rfl, by decide, by decide, by decide⟩
instance riI22 : RI Tryd.prog 22 28 (.slice none 0 0) 1 24 := ⟨by kernel_rfl, by kernel_rfl, rfl, by decide, by decide, by decide⟩
instance riI120 : RI Tryd.prog 120 3 (.int .i64 0) 1 8 := ⟨by kernel_rfl, by kernel_rfl, rfl, by decide, by decide, by decide⟩
instance riI57 : RI Tryd.prog 57 83 (.int .u16 0) 1 2 := ⟨by kernel_rfl, by kernel_rfl, rfl, by decide, by decide, by decide⟩
instance riI100 : RI Tryd.prog 100 9 (.string ByteArray.empty) 1 16 := ⟨by kernel_rfl, by kernel_rfl, rfl, by decide, by decide, by decide⟩
instance riI124 : RI Tryd.prog 124 43 (.agg #[.int .i32 0, .int .i64 0, .bool false]) 3 24 := ⟨by kernel_rfl, by kernel_rfl, rfl, by decide, by decide, by decide⟩
instance riI37 : RI Tryd.prog 37 47 (.agg #[.int .i64 0, .int .i32 0, .int .i64 0, .bool false]) 4 32 := ⟨by kernel_rfl, by kernel_rfl, rfl, by decide, by decide, by decide⟩
end Go.Proofs.YtbogoehjoglneaaDoor

/- Plain laws: edges, steps from an edge on, the step ahead of an edge, bytes about a place. No Go, no memory. -/
namespace Go.Proofs.YtbogoehjoglneaaDoor
set_option linter.unusedVariables false
set_option linter.unusedSimpArgs false

theorem wide_enc (l : List UInt8) {k : Nat} (h : 1 ≤ k) : k < (stp l).w ↔ k < enc l := by
  unfold stp
  by_cases h0 : enc l = 0
  · rw [if_pos h0]; simp only; omega
  · rw [if_neg h0]

/- The step that ends at an edge. -/
theorem prev_edge {l : List UInt8} {p : Nat} (h : inside l p = 0) (h0 : 0 < p) (hp : p ≤ l.length) : floorN l (p - 1) + (stp (l.drop (floorN l (p - 1)))).w = p := by
  have h1 := floor_step l (p - 1) (by omega)
  have h2 := floor_edge l (p - 1)
  have h3 := floor_le l (p - 1)
  rcases Nat.lt_or_ge p (floorN l (p - 1) + (stp (l.drop (floorN l (p - 1)))).w) with hlt | hge
  · have := floor_within h2 (q := p) (by omega) hlt
    rw [floor_self h] at this
    omega
  · omega

theorem stp_take_drop {l : List UInt8} {q hi : Nat} (hq : q + 4 ≤ hi ∨ l.length ≤ hi) : stp ((l.take hi).drop q) = stp (l.drop q) := by
  rw [List.drop_take]
  rcases hq with h | h
  · exact stp_pre (by have := (stp_w (l.drop q)).2; omega)
  · rw [List.take_of_length_le (by rw [List.length_drop]; omega)]
theorem enc_take_drop {l : List UInt8} {q hi : Nat} (hq : q + 4 ≤ hi ∨ l.length ≤ hi) : enc ((l.take hi).drop q) = enc (l.drop q) := by
  rw [List.drop_take]
  rcases hq with h | h
  · exact enc_take (by have := enc_le (l.drop q); omega)
  · rw [List.take_of_length_le (by rw [List.length_drop]; omega)]

/- Edges from a place on. -/
def edgesN (l : List UInt8) (p n : Nat) : List Nat := (List.range' p n).filter (fun q => inside l q == 0)
theorem edgesN_none {l : List UInt8} : ∀ (n p : Nat), (∀ q, p ≤ q → q < p + n → inside l q ≠ 0) → edgesN l p n = []
  | 0, p, _ => rfl
  | n + 1, p, h => by
    unfold edgesN
    rw [List.range'_succ, List.filter_cons_of_neg (by simpa using h p (Nat.le_refl _) (by omega))]
    exact edgesN_none n (p + 1) (fun q h1 h2 => h q (by omega) (by omega))
theorem edgesN_add (l : List UInt8) (p n m : Nat) : edgesN l p (n + m) = edgesN l p n ++ edgesN l (p + n) m := by
  unfold edgesN
  rw [← List.range'_append_1, List.filter_append]
theorem edgesN_steps {l : List UInt8} : ∀ (n p : Nat), l.length - p ≤ n → p ≤ l.length → inside l p = 0 → edgesN l p (l.length - p + 1) = (steps (l.drop p) p).map Prod.fst ++ [l.length]
  | 0, p, hn, hp, h => by
    have hpl : p = l.length := by omega
    subst hpl
    rw [Nat.sub_self, List.drop_length, steps_nil]
    unfold edgesN
    simp [List.range'_succ, h]
  | n + 1, p, hn, hp, h => by
    by_cases hlt : p < l.length
    · have hne : l.drop p ≠ [] := by
        intro e
        have := congrArg List.length e
        simp at this; omega
      have hw := stp_len hne
      have hw1 := stp_w (l.drop p)
      rw [List.length_drop] at hw
      obtain ⟨w, hwe⟩ : ∃ w, (stp (l.drop p)).w = w := ⟨_, rfl⟩
      rw [hwe] at hw hw1
      have hin := edge_next h
      rw [hwe] at hin
      rw [steps_cons hne p, hwe, List.drop_drop, List.map_cons, List.cons_append, ← edgesN_steps n (p + w) (by omega) (by omega) hin,
        show l.length - p + 1 = 1 + (w - 1) + (l.length - (p + w) + 1) from by omega, edgesN_add, edgesN_add]
      rw [edgesN_none (w - 1) (p + 1) (fun q h1 h2 e => by
        have := floor_within h (q := q) (by omega) (by rw [hwe]; omega)
        rw [floor_self e] at this; omega), show p + (1 + (w - 1)) = p + w from by omega]
      unfold edgesN
      simp [List.range'_succ, h]
    · have hpl : p = l.length := by omega
      subst hpl
      rw [Nat.sub_self, List.drop_length, steps_nil]
      unfold edgesN
      simp [List.range'_succ, h]
theorem edges_all (l : List UInt8) : edgesN l 0 (l.length + 1) = (steps l 0).map Prod.fst ++ [l.length] := by
  have := edgesN_steps (l := l) l.length 0 (by omega) (by omega) (inside_at_zero l)
  simpa using this

/- The steps of bytes lie one behind the other: what lies ahead of an edge, what behind it. -/
theorem steps_from {l : List UInt8} : ∀ (n p q : Nat), q - p ≤ n → p ≤ q → q ≤ l.length → inside l p = 0 → inside l q = 0 → ∃ pre, steps (l.drop p) p = pre ++ steps (l.drop q) q ∧ (∀ x ∈ pre, p ≤ x.1 ∧ x.1 + x.2.w ≤ q ∧ inside l x.1 = 0 ∧ x.2 = stp (l.drop x.1))
  | 0, p, q, hn, hpq, hq, _, _ => by
    have : p = q := by omega
    subst this
    exact ⟨[], rfl, fun _ h => nomatch h⟩
  | n + 1, p, q, hn, hpq, hq, hp0, hq0 => by
    by_cases hlt : p < q
    · have hne : l.drop p ≠ [] := by
        intro e
        have := congrArg List.length e
        simp at this; omega
      have hw1 := stp_w (l.drop p)
      obtain ⟨w, hwe⟩ : ∃ w, (stp (l.drop p)).w = w := ⟨_, rfl⟩
      have hin := edge_next hp0
      have hle : p + w ≤ q := by
        rcases Nat.lt_or_ge q (p + w) with h | h
        · have := floor_within hp0 (q := q) (by omega) (by rw [hwe]; exact h)
          rw [floor_self hq0] at this; omega
        · exact h
      rw [hwe] at hin hw1
      obtain ⟨pre, h1, h2⟩ := steps_from n (p + w) q (by omega) hle hq hin hq0
      refine ⟨(p, stp (l.drop p)) :: pre, ?_, fun x hx => ?_⟩
      · rw [steps_cons hne p, hwe, List.drop_drop, h1]; rfl
      · rcases List.mem_cons.1 hx with rfl | hx
        · exact ⟨Nat.le_refl _, by simp only [hwe]; exact hle, hp0, rfl⟩
        · have := h2 x hx; exact ⟨by omega, this.2⟩
    · have : p = q := by omega
      subst this
      exact ⟨[], rfl, fun _ h => nomatch h⟩
theorem steps_places {l : List UInt8} : ∀ (n p : Nat), l.length - p ≤ n → inside l p = 0 → ∀ x ∈ steps (l.drop p) p, p ≤ x.1 ∧ x.1 < l.length ∧ x.1 + x.2.w ≤ l.length ∧ inside l x.1 = 0 ∧ x.2 = stp (l.drop x.1)
  | n, p, hn, h0, x, hx => by
    by_cases hlt : p < l.length
    · have hne : l.drop p ≠ [] := by
        intro e
        have := congrArg List.length e
        simp at this; omega
      have hw := stp_len hne
      have hw1 := stp_w (l.drop p)
      rw [List.length_drop] at hw
      rw [steps_cons hne p, List.drop_drop] at hx
      rcases List.mem_cons.1 hx with rfl | hx
      · exact ⟨Nat.le_refl _, hlt, by simp only; omega, h0, rfl⟩
      · cases n with
        | zero => omega
        | succ n =>
          have := steps_places n (p + (stp (l.drop p)).w) (by omega) (edge_next h0) x hx
          exact ⟨by omega, this.2⟩
    · rw [show l.drop p = [] from by simp; omega, steps_nil] at hx
      cases hx

/- A ruler's count. -/
def zN (u : Int) (l : List UInt8) : Nat := if u = 1 then l.length else if u = 2 then runesN l else unitsN l
theorem zN_le (u : Int) (l : List UInt8) : zN u l ≤ l.length := by
  have := measure_ok l
  unfold zN; repeat' split
  all_goals omega
end Go.Proofs.YtbogoehjoglneaaDoor

/- Plain laws: the i-th edge of a text, steps counted from both ends. No Go, no memory. -/
namespace Go.Proofs.YtbogoehjoglneaaDoor
set_option linter.unusedVariables false
set_option linter.unusedSimpArgs false

/- p is the i-th edge. -/
structure AtStep (l : List UInt8) (i p : Nat) : Prop where
  le : p ≤ l.length
  edge : inside l p = 0
  pre : ∃ pre, steps l 0 = pre ++ steps (l.drop p) p ∧ pre.length = i ∧ (∀ f, S f (l.take p) = sumS f pre)

theorem AtStep.sum {l : List UInt8} {p : Nat} {pre : List (Nat × Stp)} (h : inside l p = 0) (hp : p ≤ l.length) (e : steps l 0 = pre ++ steps (l.drop p) p) (f : Stp → Nat) : S f (l.take p) = sumS f pre := by
  have h1 := S_edge f l.length l p (Nat.le_refl _) hp h
  have h2 := sumS_steps f l.length l 0 (Nat.le_refl _)
  have h3 := sumS_steps f l.length (l.drop p) p (by rw [List.length_drop]; omega)
  rw [e, sumS_append, h3] at h2
  omega
theorem AtStep.zero (l : List UInt8) : AtStep l 0 0 := ⟨Nat.zero_le _, inside_at_zero l, [], by simp, rfl, fun f => by simp [S_nil, sumS]⟩
theorem AtStep.of_edge {l : List UInt8} {q : Nat} (hq : q ≤ l.length) (h : inside l q = 0) : ∃ i, AtStep l i q := by
  obtain ⟨pre, e, _⟩ := steps_from (l := l) q 0 q (by omega) (Nat.zero_le _) hq (inside_at_zero l) h
  rw [List.drop_zero] at e
  exact ⟨pre.length, hq, h, pre, e, rfl, AtStep.sum h hq e⟩
theorem AtStep.uniq {l : List UInt8} {i j p : Nat} (h : AtStep l i p) (k : AtStep l j p) : i = j := by
  obtain ⟨a, e1, e2, _⟩ := h.pre
  obtain ⟨b, f1, f2, _⟩ := k.pre
  have h1 := congrArg List.length e1
  have h2 := congrArg List.length f1
  rw [List.length_append] at h1 h2
  omega
theorem AtStep.rest {l : List UInt8} {p : Nat} (hp : p < l.length) : steps (l.drop p) p = (p, stp (l.drop p)) :: steps (l.drop (p + (stp (l.drop p)).w)) (p + (stp (l.drop p)).w) := by
  have hne : l.drop p ≠ [] := fun e => by
    have h1 := congrArg List.length e
    rw [List.length_drop, List.length_nil] at h1
    omega
  rw [steps_cons hne, List.drop_drop]
theorem AtStep.next {l : List UInt8} {i p : Nat} (h : AtStep l i p) (hp : p < l.length) : AtStep l (i + 1) (p + (stp (l.drop p)).w) ∧ (steps l 0)[i]? = some (p, stp (l.drop p)) := by
  obtain ⟨pre, e, hl, hs⟩ := h.pre
  have hne : l.drop p ≠ [] := fun e => by
    have h1 := congrArg List.length e
    rw [List.length_drop, List.length_nil] at h1
    omega
  have hw := stp_len hne
  rw [List.length_drop] at hw
  rw [AtStep.rest hp] at e
  have e' : steps l 0 = (pre ++ [(p, stp (l.drop p))]) ++ steps (l.drop (p + (stp (l.drop p)).w)) (p + (stp (l.drop p)).w) := by rw [e]; simp
  refine ⟨⟨by omega, edge_next h.edge, _, e', by simp [hl], AtStep.sum (edge_next h.edge) (by omega) e'⟩, ?_⟩
  rw [e, List.getElem?_append_right (by omega), hl, Nat.sub_self]
  rfl
theorem AtStep.lt {l : List UInt8} {i p : Nat} (h : AtStep l i p) : i < (steps l 0).length ↔ p < l.length := by
  obtain ⟨pre, e, hl, hs⟩ := h.pre
  have h1 := congrArg List.length e
  rw [List.length_append, hl] at h1
  constructor
  · intro hi
    rcases Nat.lt_or_ge p l.length with h2 | h2
    · exact h2
    · rw [show l.drop p = [] from by simp; omega, steps_nil] at h1
      simp at h1; omega
  · intro hp
    rw [AtStep.rest hp, List.length_cons] at h1
    omega
theorem AtStep.end (l : List UInt8) : AtStep l (steps l 0).length l.length := by
  obtain ⟨i, h⟩ := AtStep.of_edge (l := l) (q := l.length) (Nat.le_refl _) (inside_len l (Nat.le_refl _))
  have h1 := h.lt
  obtain ⟨pre, e, hl, hs⟩ := h.pre
  have h2 := congrArg List.length e
  rw [List.drop_length, steps_nil, List.append_nil] at h2
  rw [hl] at h2
  rw [h2]; exact h
theorem AtStep.place {l : List UInt8} {i p q : Nat} {s : Stp} (h : AtStep l i p) (e : (steps l 0)[i]? = some (q, s)) : q = p ∧ s = stp (l.drop p) ∧ p < l.length := by
  have hlt : i < (steps l 0).length := (List.getElem?_eq_some_iff.1 e).1
  have hp := h.lt.1 hlt
  have := (h.next hp).2
  rw [e] at this
  simp only [Option.some.injEq, Prod.mk.injEq] at this
  exact ⟨this.1, this.2, hp⟩
theorem AtStep.prev {l : List UInt8} {i p : Nat} (h : AtStep l (i + 1) p) : 0 < p ∧ AtStep l i (floorN l (p - 1)) ∧ floorN l (p - 1) + (stp (l.drop (floorN l (p - 1)))).w = p ∧ floorN l (p - 1) < l.length := by
  have h0 : 0 < p := by
    rcases Nat.eq_zero_or_pos p with e | e
    · subst e
      have := h.uniq (AtStep.zero l)
      omega
    · exact e
  have hle := h.le
  have hpe := prev_edge h.edge h0 hle
  have hfl := floor_le l (p - 1)
  obtain ⟨j, hj⟩ := AtStep.of_edge (l := l) (q := floorN l (p - 1)) (by omega) (floor_edge l (p - 1))
  have hn := (hj.next (by omega)).1
  rw [hpe] at hn
  have := hn.uniq h
  obtain rfl : j = i := by omega
  exact ⟨h0, hj, hpe, by omega⟩
theorem AtStep.runes {l : List UInt8} {i p : Nat} (h : AtStep l i p) : runesN (l.take p) = i := by
  obtain ⟨pre, e, hl, hs⟩ := h.pre
  unfold runesN
  rw [hs, sumS_len, hl]
theorem AtStep.units {l : List UInt8} {i p : Nat} (h : AtStep l i p) (hp : p < l.length) : unitsN (l.take (p + (stp (l.drop p)).w)) = unitsN (l.take p) + uOf (stp (l.drop p)).r := by
  obtain ⟨pre, e, hl, hs⟩ := h.pre
  rw [AtStep.rest hp] at e
  have e' : steps l 0 = (pre ++ [(p, stp (l.drop p))]) ++ steps (l.drop (p + (stp (l.drop p)).w)) (p + (stp (l.drop p)).w) := by rw [e]; simp
  unfold unitsN
  rw [AtStep.sum (edge_next h.edge) (h.next hp).1.le e', hs, sumS_append]
  simp [sumS]
end Go.Proofs.YtbogoehjoglneaaDoor

/- Plain laws of places by rulers: edges behind a place; the last edge at which a ruler has counted at most so many. -/
namespace Go.Proofs.YtbogoehjoglneaaDoor
set_option linter.unusedVariables false
set_option linter.unusedSimpArgs false

theorem AtStep.le_len {l : List UInt8} {i p : Nat} (h : AtStep l i p) : i ≤ (steps l 0).length := by
  obtain ⟨pre, e, hl, hs⟩ := h.pre
  have := congrArg List.length e
  rw [List.length_append] at this
  omega
theorem AtStep.at_ {l : List UInt8} : ∀ j, j ≤ (steps l 0).length → ∃ q, AtStep l j q
  | 0, _ => ⟨0, AtStep.zero l⟩
  | j + 1, h => by
    obtain ⟨q, hq⟩ := AtStep.at_ (l := l) j (by omega)
    exact ⟨_, (hq.next (hq.lt.1 (by omega))).1⟩

/- The first edge at or behind a place; the edge behind an edge. -/
def nextE (l : List UInt8) (p : Nat) : Nat := p + (stp (l.drop p)).w
def ceilN (l : List UInt8) (p : Nat) : Nat := if inside l p = 0 then p else nextE l (floorN l p)
theorem drop_ne {l : List UInt8} {p : Nat} (h : p < l.length) : l.drop p ≠ [] := fun e => by
  have := congrArg List.length e
  rw [List.length_drop, List.length_nil] at this
  omega
theorem nextE_le {l : List UInt8} {p : Nat} (h : p < l.length) : nextE l p ≤ l.length := by
  have := stp_len (drop_ne h)
  rw [List.length_drop] at this
  unfold nextE; omega
theorem nextE_lt (l : List UInt8) (p : Nat) : p < nextE l p ∧ nextE l p ≤ p + 4 := by
  have := stp_w (l.drop p)
  unfold nextE; omega
theorem nextE_edge {l : List UInt8} {p : Nat} (h : inside l p = 0) : inside l (nextE l p) = 0 := edge_next h
theorem nextE_min {l : List UInt8} {p q : Nat} (h : inside l p = 0) (hq : inside l q = 0) (hlt : p < q) : nextE l p ≤ q := by
  rcases Nat.lt_or_ge q (nextE l p) with g | g
  · have := floor_within h (by omega) g
    rw [floor_self hq] at this; omega
  · exact g
theorem ceilN_edge (l : List UInt8) (p : Nat) : inside l (ceilN l p) = 0 := by
  unfold ceilN; split
  · assumption
  · exact nextE_edge (floor_edge l p)
theorem inside_lt {l : List UInt8} {p : Nat} (h : inside l p ≠ 0) : p < l.length := by
  rcases Nat.lt_or_ge p l.length with g | g
  · exact g
  · exact absurd (inside_len l g) h
theorem ceilN_ge (l : List UInt8) (p : Nat) : p ≤ ceilN l p := by
  unfold ceilN; split
  · exact Nat.le_refl _
  · rename_i h; exact Nat.le_of_lt (floor_step l p (inside_lt h))
theorem ceilN_le {l : List UInt8} {p : Nat} (hp : p ≤ l.length) : ceilN l p ≤ l.length := by
  unfold ceilN; split
  · exact hp
  · rename_i h
    have := floor_le l p
    exact nextE_le (by have := inside_lt h; omega)
theorem ceilN_min {l : List UInt8} {p q : Nat} (hq : inside l q = 0) (h : p ≤ q) : ceilN l p ≤ q := by
  unfold ceilN; split
  · exact h
  · rename_i hc
    have h1 := floor_le l p
    have h2 : floorN l p ≠ p := fun e => hc (by rw [← e]; exact floor_edge l p)
    exact nextE_min (floor_edge l p) hq (by omega)

/- What a step counts. -/
def cf (u : Int) (s : Stp) : Nat := if u = 1 then s.w else if u = 2 then 1 else uOf s.r
theorem cf_pos (u : Int) (l : List UInt8) : 1 ≤ cf u (stp l) := by
  have := stp_w l
  unfold cf uOf
  repeat' split
  all_goals omega
theorem cf_le (u : Int) (l : List UInt8) : cf u (stp l) ≤ 4 := by
  have := stp_w l
  unfold cf uOf
  repeat' split
  all_goals omega
theorem zN_S (u : Int) (l : List UInt8) : zN u l = S (cf u) l := by
  unfold zN
  split
  · rename_i h
    have : cf u = fun s => s.w := by funext s; unfold cf; rw [if_pos h]
    rw [this, S_width l.length l (Nat.le_refl _)]
  · rename_i h1
    split
    · rename_i h
      have : cf u = fun _ => 1 := by funext s; unfold cf; rw [if_neg h1, if_pos h]
      rw [this]; rfl
    · rename_i h
      have : cf u = fun s => uOf s.r := by funext s; unfold cf; rw [if_neg h1, if_neg h]
      rw [this]; rfl
theorem zN_nil (u : Int) : zN u [] = 0 := by rw [zN_S, S_nil]
theorem zN_pos (u : Int) {l : List UInt8} (h : l ≠ []) : 1 ≤ zN u l := by
  rw [zN_S, S_cons h]
  have := cf_pos u l
  omega
theorem inside_drop' {l : List UInt8} {p q : Nat} (hq : inside l q = 0) (h : p ≤ q) : inside (l.drop p) (q - p) = 0 := inside_drop (w := p) (by rw [show p + (q - p) = q from by omega]; exact hq)
/- What a ruler counts up to an edge, by what it counts up to one ahead of it. -/
theorem zN_split (u : Int) {l : List UInt8} {p q : Nat} (hp : inside l p = 0) (hq : inside l q = 0) (h : p ≤ q) (hl : q ≤ l.length) : zN u (l.take q) = zN u (l.take p) + zN u ((l.take q).drop p) := by
  rw [zN_S, zN_S, zN_S]
  have h1 := S_edge (cf u) l.length l p (Nat.le_refl _) (by omega) hp
  have h2 := S_edge (cf u) l.length l q (Nat.le_refl _) hl hq
  have h3 := S_edge (cf u) (l.drop p).length (l.drop p) (q - p) (Nat.le_refl _) (by rw [List.length_drop]; omega) (inside_drop' hq h)
  rw [List.drop_drop, show p + (q - p) = q from by omega] at h3
  rw [List.drop_take]
  omega
theorem zN_mono (u : Int) {l : List UInt8} {p q : Nat} (hp : inside l p = 0) (hq : inside l q = 0) (h : p ≤ q) (hl : q ≤ l.length) : zN u (l.take p) ≤ zN u (l.take q) := by
  rw [zN_split u hp hq h hl]; omega
theorem zN_lt (u : Int) {l : List UInt8} {p q : Nat} (hp : inside l p = 0) (hq : inside l q = 0) (h : p < q) (hl : q ≤ l.length) : zN u (l.take p) < zN u (l.take q) := by
  rw [zN_split u hp hq (by omega) hl]
  have := zN_pos u (l := (l.take q).drop p) (fun e => by
    have := congrArg List.length e
    rw [List.length_drop, List.length_take, List.length_nil] at this
    omega)
  omega
theorem zN_next (u : Int) {l : List UInt8} {p : Nat} (hp : inside l p = 0) (h : p < l.length) : zN u (l.take (nextE l p)) = zN u (l.take p) + cf u (stp (l.drop p)) := by
  obtain ⟨i, ha⟩ := AtStep.of_edge (l := l) (q := p) (by omega) hp
  obtain ⟨pre, e, _, hs⟩ := ha.pre
  rw [AtStep.rest h] at e
  have e' : steps l 0 = (pre ++ [(p, stp (l.drop p))]) ++ steps (l.drop (nextE l p)) (nextE l p) := by rw [e]; simp [nextE]
  rw [zN_S, zN_S, AtStep.sum (nextE_edge hp) (nextE_le h) e', hs, sumS_append]
  simp [sumS]
theorem zN_all (u : Int) (l : List UInt8) (p : Nat) (hp : inside l p = 0) : zN u (l.take p) ≤ zN u l := by
  rcases Nat.le_total p l.length with h | h
  · have := zN_mono u hp (inside_len l (Nat.le_refl _)) h (Nat.le_refl _)
    rwa [List.take_length] at this
  · rw [List.take_of_length_le h]; exact Nat.le_refl _

structure EdgeAt (l : List UInt8) (u : Int) (n e : Nat) : Prop where
  le : e ≤ l.length
  edge : inside l e = 0
  cnt : zN u (l.take e) ≤ n
  top : e = l.length ∨ n < zN u (l.take (nextE l e))
theorem EdgeAt.uniq {l : List UInt8} {u : Int} {n e f : Nat} (h : EdgeAt l u n e) (k : EdgeAt l u n f) : e = f := by
  have key : ∀ e f, EdgeAt l u n e → EdgeAt l u n f → ¬ e < f := by
    intro e f h k hlt
    rcases h.top with g | g
    · have := k.le; omega
    · have h1 := nextE_min h.edge k.edge hlt
      have h2 := zN_mono u (nextE_edge h.edge) k.edge h1 k.le
      have := k.cnt
      omega
  have := key e f h k
  have := key f e k h
  omega
theorem EdgeAt.from (l : List UInt8) (u : Int) (n : Nat) : ∀ m p, l.length - p ≤ m → inside l p = 0 → p ≤ l.length → zN u (l.take p) ≤ n → ∃ e, EdgeAt l u n e
  | 0, p, hm, hp, hl, hz => ⟨p, hl, hp, hz, .inl (by omega)⟩
  | m + 1, p, hm, hp, hl, hz => by
    by_cases h : p < l.length
    · by_cases hc : n < zN u (l.take (nextE l p))
      · exact ⟨p, hl, hp, hz, .inr hc⟩
      · have := nextE_lt l p
        exact EdgeAt.from l u n m (nextE l p) (by omega) (nextE_edge hp) (nextE_le h) (by omega)
    · exact ⟨p, hl, hp, hz, .inl (by omega)⟩
theorem EdgeAt.ex (l : List UInt8) (u : Int) (n : Nat) : ∃ e, EdgeAt l u n e := EdgeAt.from l u n l.length 0 (by omega) (inside_at_zero l) (Nat.zero_le _) (by rw [List.take_zero, zN_nil]; omega)
def edgeN (l : List UInt8) (u : Int) (n : Nat) : Nat := ((List.range (l.length + 1)).find? (fun e => decide (inside l e = 0 ∧ zN u (l.take e) ≤ n ∧ (e = l.length ∨ n < zN u (l.take (nextE l e)))))).getD 0
theorem edgeN_spec (l : List UInt8) (u : Int) (n : Nat) : EdgeAt l u n (edgeN l u n) := by
  obtain ⟨f, hf⟩ := EdgeAt.ex l u n
  unfold edgeN
  cases e : (List.range (l.length + 1)).find? (fun e => decide (inside l e = 0 ∧ zN u (l.take e) ≤ n ∧ (e = l.length ∨ n < zN u (l.take (nextE l e))))) with
  | none =>
    rw [List.find?_eq_none] at e
    exact absurd (decide_eq_true (show inside l f = 0 ∧ zN u (l.take f) ≤ n ∧ (f = l.length ∨ n < zN u (l.take (nextE l f))) from ⟨hf.edge, hf.cnt, hf.top⟩)) (e f (List.mem_range.2 (by have := hf.le; omega)))
  | some t =>
    have h1 := List.mem_range.1 (List.mem_of_find?_eq_some e)
    have h2 := List.find?_some e
    simp only [decide_eq_true_eq] at h2
    exact ⟨by show t ≤ _; omega, h2.1, h2.2.1, h2.2.2⟩
theorem edgeN_eq {l : List UInt8} {u : Int} {n e : Nat} (h : EdgeAt l u n e) : edgeN l u n = e := (edgeN_spec l u n).uniq h
theorem zN_one {l : List UInt8} {p : Nat} (h : p ≤ l.length) : zN 1 (l.take p) = p := by show (l.take p).length = p; rw [List.length_take]; omega
theorem EdgeAt.bytes {l : List UInt8} {p : Nat} (h : p ≤ l.length) : EdgeAt l 1 p (floorN l p) := by
  have hf := floor_le l p
  refine ⟨by omega, floor_edge l p, by rw [zN_one (by omega)]; exact hf, ?_⟩
  rcases Nat.lt_or_ge p l.length with g | g
  · right
    rw [zN_one (nextE_le (by omega))]
    exact floor_step l p g
  · left
    have : p = l.length := by omega
    subst this
    exact floor_self (inside_len l (Nat.le_refl _))
/- A place by one ruler as a place by another: the answer, and the error. -/
def toV (l : List UInt8) (u : Int) (n : Nat) (v m : Int) : Nat × Nat :=
  if zN u (l.take (edgeN l u n)) = n ∨ m = 1 then (zN v (l.take (edgeN l u n)), 0) else if m = 2 then (zN v (l.take (nextE l (edgeN l u n))), 0) else (0, 4)
def okRM (u v m : Int) : Prop := (1 ≤ u ∧ u ≤ 3) ∧ (1 ≤ v ∧ v ≤ 3) ∧ (1 ≤ m ∧ m ≤ 3)
instance (u v m : Int) : Decidable (okRM u v m) := by unfold okRM; infer_instance
def toN (l : List UInt8) (u place v m : Int) : Nat × Nat :=
  if okRM u v m then if 0 ≤ place ∧ place ≤ zN u l then toV l u place.toNat v m else (0, 2) else (0, 3)
theorem toV_below {l : List UInt8} {u : Int} {n : Nat} (hn : n ≤ zN u l) (h : zN u (l.take (edgeN l u n)) ≠ n) : edgeN l u n < l.length := by
  have hs := edgeN_spec l u n
  rcases Nat.lt_or_ge (edgeN l u n) l.length with g | g
  · exact g
  · have : edgeN l u n = l.length := by have := hs.le; omega
    have hc := hs.cnt
    rw [this, List.take_length] at hc h
    omega
end Go.Proofs.YtbogoehjoglneaaDoor

/- Plain laws of lines: how many ends stand ahead of a place; where lines begin; the rows; the line whose place it is. -/
namespace Go.Proofs.YtbogoehjoglneaaDoor
set_option linter.unusedVariables false
set_option linter.unusedSimpArgs false

def En (l : List UInt8) (n : Nat) : Nat := endsN false (l.take n)
def cnt (l : List UInt8) (n : Nat) : Prop := byt l n = 13 ∨ (byt l n = 10 ∧ (n = 0 ∨ byt l (n - 1) ≠ 13))
instance (l : List UInt8) (n : Nat) : Decidable (cnt l n) := by unfold cnt; infer_instance
theorem byt_ne {l : List UInt8} {n : Nat} (h : l.length ≤ n) (k : Nat) (hk : k < 256) : byt l n ≠ k := by rw [byt_ge h]; omega
theorem cnt_lt {l : List UInt8} {n : Nat} (h : cnt l n) : n < l.length := by
  rcases Nat.lt_or_ge n l.length with h1 | h1
  · exact h1
  · rcases h with h | ⟨h, _⟩ <;> exact absurd h (byt_ne h1 _ (by omega))
theorem En_zero (l : List UInt8) : En l 0 = 0 := rfl
theorem u8_nat {x : UInt8} {k : Nat} (hk : k < 256) : x = UInt8.ofNat k ↔ x.toNat = k := by
  constructor
  · rintro rfl; simp; omega
  · intro h; rw [← h]; simp
theorem En_succ (l : List UInt8) (n : Nat) : En l (n + 1) = En l n + if cnt l n then 1 else 0 := by
  rcases Nat.lt_or_ge n l.length with h | h
  · unfold En
    rw [List.take_succ_eq_append_getElem h, endsN_append]
    congr 1
    have hb := (byt_lt h).1
    have hx13 : l[n] = 13 ↔ byt l n = 13 := by rw [hb]; exact u8_nat (k := 13) (by omega)
    have hx10 : l[n] = 10 ↔ byt l n = 10 := by rw [hb]; exact u8_nat (k := 10) (by omega)
    by_cases h0 : n = 0
    · subst h0
      simp only [List.take_zero, endsN, if_true, Nat.add_zero, cnt, hx13, hx10, and_true, true_or]
    · have hne : l.take n ≠ [] := fun e => by
        have := congrArg List.length e
        rw [List.length_take] at this
        simp at this
        rcases this with h1 | h1
        · exact h0 h1
        · subst h1; simp at h
      rw [if_neg hne]
      have hl : (l.take n).getLast? = some (l[n - 1]'(by omega)) := by
        rw [List.getLast?_eq_getElem?, List.length_take, Nat.min_eq_left (by omega), List.getElem?_take, if_pos (by omega), List.getElem?_eq_getElem (by omega)]
      rw [hl]
      have hp := (byt_lt (show n - 1 < l.length by omega)).1
      have hp13 : l[n - 1]'(by omega) = 13 ↔ byt l (n - 1) = 13 := by rw [hp]; exact u8_nat (k := 13) (by omega)
      have hc : ((some (l[n - 1]'(by omega)) == some (13 : UInt8)) = false) ↔ byt l (n - 1) ≠ 13 := by
        have : (some (l[n - 1]'(by omega)) == some (13 : UInt8)) = decide (l[n - 1]'(by omega) = 13) := by
          rw [Bool.eq_iff_iff]; simp
        rw [this, decide_eq_false_iff_not, hp13]
      simp only [endsN, Nat.add_zero, cnt, hx13, hx10, hc, h0, false_or]
  · rw [if_neg (fun c => absurd (cnt_lt c) (by omega))]
    unfold En
    rw [List.take_of_length_le h, List.take_of_length_le (by omega)]
    rfl
theorem En_mono (l : List UInt8) {a b : Nat} (h : a ≤ b) : En l a ≤ En l b := by
  induction b with
  | zero => have : a = 0 := by omega
            subst this; exact Nat.le_refl _
  | succ b ih =>
    rcases Nat.lt_or_ge a (b + 1) with h1 | h1
    · exact Nat.le_trans (ih (by omega)) (by rw [En_succ]; omega)
    · have : a = b + 1 := by omega
      subst this; exact Nat.le_refl _
theorem En_all (l : List UInt8) : En l l.length = endsN false l := by unfold En; rw [List.take_length]
theorem En_le (l : List UInt8) (n : Nat) : En l n ≤ endsN false l := by
  rcases Nat.le_total n l.length with h | h
  · rw [← En_all]; exact En_mono l h
  · unfold En; rw [List.take_of_length_le h]; exact Nat.le_refl _

/- A line begins here. -/
def LS (l : List UInt8) (s : Nat) : Prop := s = 0 ∨ (0 < s ∧ (byt l (s - 1) = 10 ∨ (byt l (s - 1) = 13 ∧ byt l s ≠ 10)))
instance (l : List UInt8) (s : Nat) : Decidable (LS l s) := by unfold LS; infer_instance
theorem LS_lt {l : List UInt8} {s s' : Nat} (h : LS l s) (h' : LS l s') (hlt : s < s') : En l s < En l s' := by
  have h0 : s' ≠ 0 := by omega
  have e1 : s' = (s' - 1) + 1 := by omega
  rcases h' with h' | ⟨_, h' | ⟨h', _⟩⟩
  · exact absurd h' h0
  · by_cases hc : s' - 1 = 0 ∨ byt l (s' - 1 - 1) ≠ 13
    · have := En_mono l (show s ≤ s' - 1 by omega)
      rw [e1, En_succ, if_pos (.inr ⟨h', hc⟩)]; omega
    · have hc2 : byt l (s' - 1 - 1) = 13 := by
        rcases Classical.em (byt l (s' - 1 - 1) = 13) with g | g
        · exact g
        · exact absurd (.inr g) hc
      have hc3 : s' - 1 ≠ 0 := fun g => hc (.inl g)
      have hne : s ≠ s' - 1 := by
        rintro rfl
        rcases h with g | ⟨_, g | ⟨_, g⟩⟩
        · exact hc3 g
        · omega
        · exact g h'
      have h1 := En_mono l (show s ≤ s' - 1 - 1 by omega)
      have h2 := En_mono l (show s' - 1 ≤ s' by omega)
      have h3 : En l (s' - 1) = En l (s' - 1 - 1) + 1 := by
        rw [show s' - 1 = (s' - 1 - 1) + 1 from by omega, En_succ, if_pos (.inl hc2)]; rfl
      omega
  · have := En_mono l (show s ≤ s' - 1 by omega)
    rw [e1, En_succ, if_pos (.inl h')]; omega
structure startK (l : List UInt8) (k s : Nat) : Prop where
  le : s ≤ l.length
  ls : LS l s
  en : En l s = k
theorem startK.uniq {l : List UInt8} {k s s' : Nat} (h : startK l k s) (h' : startK l k s') : s = s' := by
  rcases Nat.lt_trichotomy s s' with g | g | g
  · have := LS_lt h.ls h'.ls g
    rw [h.en, h'.en] at this; omega
  · exact g
  · have := LS_lt h'.ls h.ls g
    rw [h.en, h'.en] at this; omega
theorem startK.lt {l : List UInt8} {j k s t : Nat} (h : startK l j s) (h' : startK l k t) (hjk : j < k) : s < t := by
  rcases Nat.lt_or_ge s t with g | g
  · exact g
  · have := En_mono l g
    rw [h.en, h'.en] at this; omega
theorem startK.zero (l : List UInt8) : startK l 0 0 := ⟨Nat.zero_le _, .inl rfl, rfl⟩
/- Behind the least place with k ends ahead of it line k begins, or one place later. -/
theorem startK.of_least {l : List UInt8} {k n : Nat} (hn : n ≤ l.length) (hk : 0 < k) (h1 : k ≤ En l n) (h2 : En l (n - 1) < k) : 0 < n ∧ startK l k (if n < l.length ∧ byt l (n - 1) = 13 ∧ byt l n = 10 then n + 1 else n) := by
  have hn0 : 0 < n := by
    rcases Nat.eq_zero_or_pos n with e | e
    · subst e; rw [En_zero] at h1; omega
    · exact e
  refine ⟨hn0, ?_⟩
  have e1 : n = (n - 1) + 1 := by omega
  have hs := En_succ l (n - 1)
  rw [← e1] at hs
  have hc : cnt l (n - 1) := by
    rcases Classical.em (cnt l (n - 1)) with g | g
    · exact g
    · rw [if_neg g] at hs; omega
  rw [if_pos hc] at hs
  split
  · rename_i hcc
    refine ⟨by omega, .inr ⟨by omega, .inl (by rw [Nat.add_sub_cancel]; exact hcc.2.2)⟩, ?_⟩
    rw [En_succ, if_neg]
    · omega
    · rintro (g | ⟨_, g | g⟩)
      · rw [hcc.2.2] at g; omega
      · omega
      · exact g hcc.2.1
  · rename_i hcc
    refine ⟨hn, .inr ⟨hn0, ?_⟩, by omega⟩
    rcases hc with g | ⟨g, _⟩
    · right
      refine ⟨g, fun h10 => hcc ⟨?_, g, h10⟩⟩
      exact lt_of_byt (by omega)
    · exact .inl g
theorem least_En (l : List UInt8) {k : Nat} (hk : 0 < k) (h : k ≤ endsN false l) : ∃ n, n ≤ l.length ∧ k ≤ En l n ∧ En l (n - 1) < k := by
  have key : ∀ m, k ≤ En l m → ∃ n, n ≤ m ∧ k ≤ En l n ∧ En l (n - 1) < k := by
    intro m
    induction m with
    | zero => intro h; rw [En_zero] at h; omega
    | succ m ih =>
      intro h
      by_cases hc : k ≤ En l m
      · obtain ⟨n, a, b⟩ := ih hc
        exact ⟨n, by omega, b⟩
      · exact ⟨m + 1, Nat.le_refl _, h, by rw [Nat.add_sub_cancel]; omega⟩
  exact key l.length (by rw [En_all]; exact h)
theorem startK.ex (l : List UInt8) {k : Nat} (h : k ≤ endsN false l) : ∃ s, startK l k s := by
  rcases Nat.eq_zero_or_pos k with e | e
  · subst e; exact ⟨0, startK.zero l⟩
  · obtain ⟨n, a, b, c⟩ := least_En l e h
    exact ⟨_, (startK.of_least a e b c).2⟩
def startN (l : List UInt8) (k : Nat) : Nat := ((List.range (l.length + 1)).find? (fun s => decide (LS l s ∧ En l s = k))).getD 0
theorem startN_spec (l : List UInt8) {k : Nat} (h : k ≤ endsN false l) : startK l k (startN l k) := by
  obtain ⟨s, hs⟩ := startK.ex l h
  unfold startN
  cases e : (List.range (l.length + 1)).find? (fun s => decide (LS l s ∧ En l s = k)) with
  | none =>
    rw [List.find?_eq_none] at e
    exact absurd hs.en ((by simpa using e s (List.mem_range.2 (by have := hs.le; omega)) : LS l s → ¬ En l s = k) hs.ls)
  | some t =>
    have h1 := List.mem_range.1 (List.mem_of_find?_eq_some e)
    have h2 := List.find?_some e
    simp only [decide_eq_true_eq] at h2
    exact ⟨by show t ≤ _; omega, h2.1, h2.2⟩
theorem startN_eq {l : List UInt8} {k s : Nat} (h : startK l k s) : startN l k = s := (startN_spec l (by rw [← h.en]; exact En_le l s)).uniq h
theorem startN_zero (l : List UInt8) : startN l 0 = 0 := startN_eq (startK.zero l)

/- The line whose place it is. -/
def lineAt (l : List UInt8) (p : Nat) : Nat := if startN l (En l p) ≤ p then En l p else En l p - 1
theorem lineAt_spec (l : List UInt8) {p : Nat} {i : Nat} (hi : i ≤ endsN false l) : startN l i ≤ p ↔ i ≤ lineAt l p := by
  have hk := startN_spec l (En_le l p)
  have hs := startN_spec l hi
  unfold lineAt
  constructor
  · intro h
    have h1 := En_mono l h
    rw [hs.en] at h1
    split
    · exact h1
    · rename_i hc
      rcases Nat.lt_or_ge i (En l p) with g | g
      · omega
      · have : i = En l p := by omega
        subst this; exact absurd h hc
  · intro h
    split at h
    · rename_i hc
      rcases Nat.lt_or_ge i (En l p) with g | g
      · have := hs.lt hk g; omega
      · have : i = En l p := by omega
        subst this; exact hc
    · rename_i hc
      have h0 : 0 < En l p := by
        rcases Nat.eq_zero_or_pos (En l p) with e | e
        · rw [e, startN_zero] at hc; omega
        · exact e
      rcases Nat.lt_or_ge p (startN l i) with g | g
      · have := En_mono l (show p ≤ startN l i by omega)
        rw [hs.en] at this; omega
      · exact g
theorem lineAt_le (l : List UInt8) (p : Nat) : lineAt l p ≤ endsN false l := by
  unfold lineAt
  have := En_le l p
  split <;> omega

/- A line: where it begins, where its content ends, its last place, where the next one begins. -/
structure Ln where
  start : Nat
  content : Nat
  last : Nat
  next : Nat
def lineN (l : List UInt8) (k : Nat) : Ln :=
  if k < endsN false l then
    { start := startN l k, next := startN l (k + 1), last := startN l (k + 1) - 1,
      content := if startN l k < startN l (k + 1) - 1 ∧ byt l (startN l (k + 1) - 1) = 10 ∧ byt l (startN l (k + 1) - 1 - 1) = 13 then startN l (k + 1) - 1 - 1 else startN l (k + 1) - 1 }
  else { start := startN l k, content := l.length, last := l.length, next := l.length }
def linesN (l : List UInt8) : List Ln := (List.range (endsN false l + 1)).map (lineN l)
theorem linesN_len (l : List UInt8) : (linesN l).length = endsN false l + 1 := by simp [linesN]
theorem linesN_get {l : List UInt8} {k : Nat} (h : k ≤ endsN false l) : (linesN l)[k]? = some (lineN l k) := by
  unfold linesN
  rw [List.getElem?_map, List.getElem?_range (by omega)]
  rfl
/- Within a line: no end stands between where it begins and here. -/
structure InLine (l : List UInt8) (k s i : Nat) : Prop where
  st : startK l k s
  le : s ≤ i
  il : i ≤ l.length
  en : En l i = k
  bare : i = s ∨ (byt l (i - 1) ≠ 10 ∧ byt l (i - 1) ≠ 13)
theorem InLine.zero (l : List UInt8) : InLine l 0 0 0 := ⟨startK.zero l, Nat.le_refl _, Nat.zero_le _, rfl, .inl rfl⟩
theorem InLine.on {l : List UInt8} {k s i : Nat} (h : InLine l k s i) (hi : i < l.length) (h1 : byt l i ≠ 10) (h2 : byt l i ≠ 13) : InLine l k s (i + 1) :=
  ⟨h.st, Nat.le_succ_of_le h.le, hi, by rw [En_succ, if_neg (by rintro (g | ⟨g, _⟩) <;> contradiction), h.en]; rfl, .inr ⟨by rwa [Nat.add_sub_cancel], by rwa [Nat.add_sub_cancel]⟩⟩
theorem InLine.cnt {l : List UInt8} {k s i : Nat} (h : InLine l k s i) (hc : byt l i = 10 ∨ byt l i = 13) : cnt l i := by
  rcases hc with hc | hc
  · refine .inr ⟨hc, ?_⟩
    rcases h.bare with e | ⟨_, e⟩
    · subst e
      rcases h.st.ls with g | ⟨g0, g | ⟨g, g2⟩⟩
      · exact .inl g
      · exact .inr (by rw [g]; omega)
      · exact absurd hc g2
    · exact .inr e
  · exact .inl hc
/- An end: the line is told, and the next one begins. -/
theorem InLine.stop {l : List UInt8} {k s i : Nat} (h : InLine l k s i) (hi : i < l.length) (hc : byt l i = 10 ∨ byt l i = 13) {n : Nat} (hn : n = if byt l i = 13 ∧ byt l (i + 1) = 10 then i + 2 else i + 1) :
    k < endsN false l ∧ lineN l k = { start := s, content := i, last := n - 1, next := n } ∧ InLine l (k + 1) n n := by
  have hct := h.cnt hc
  have hE : En l (i + 1) = k + 1 := by rw [En_succ, if_pos hct, h.en]
  have hlt : k < endsN false l := by have := En_le l (i + 1); omega
  have hst : startK l (k + 1) n := by
    by_cases hcc : byt l i = 13 ∧ byt l (i + 1) = 10
    · rw [if_pos hcc] at hn
      subst hn
      refine ⟨?_, .inr ⟨by omega, .inl (by rw [show i + 2 - 1 = i + 1 from by omega]; exact hcc.2)⟩, ?_⟩
      · have := lt_of_byt (l := l) (i := i + 1) (by omega); omega
      · rw [show i + 2 = (i + 1) + 1 from rfl, En_succ, if_neg, hE]
        rintro (g | ⟨_, g | g⟩)
        · rw [hcc.2] at g; omega
        · omega
        · rw [Nat.add_sub_cancel] at g; exact g hcc.1
    · rw [if_neg hcc] at hn
      subst hn
      refine ⟨hi, .inr ⟨by omega, ?_⟩, hE⟩
      rw [Nat.add_sub_cancel]
      rcases hc with hc | hc
      · exact .inl hc
      · exact .inr ⟨hc, fun g => hcc ⟨hc, g⟩⟩
  refine ⟨hlt, ?_, hst, Nat.le_refl _, hst.le, hst.en, .inl rfl⟩
  unfold lineN
  rw [if_pos hlt, startN_eq h.st, startN_eq hst]
  have hsi := h.le
  have : (if s < n - 1 ∧ byt l (n - 1) = 10 ∧ byt l (n - 1 - 1) = 13 then n - 1 - 1 else n - 1) = i := by
    by_cases hcc : byt l i = 13 ∧ byt l (i + 1) = 10
    · rw [if_pos hcc] at hn
      subst hn
      rw [if_pos ⟨by omega, by rw [show i + 2 - 1 = i + 1 from by omega]; exact hcc.2, by rw [show i + 2 - 1 - 1 = i from by omega]; exact hcc.1⟩]
      omega
    · rw [if_neg hcc] at hn
      subst hn
      rw [if_neg]
      · omega
      · rintro ⟨g1, g2, g3⟩
        rw [Nat.add_sub_cancel] at g1 g2 g3
        rcases h.bare with e | ⟨_, e⟩
        · omega
        · exact e g3
  rw [this]
theorem InLine.end {l : List UInt8} {k s : Nat} (h : InLine l k s l.length) : k = endsN false l ∧ lineN l k = { start := s, content := l.length, last := l.length, next := l.length } := by
  have hk : k = endsN false l := by rw [← h.en, En_all]
  refine ⟨hk, ?_⟩
  unfold lineN
  rw [if_neg (by omega), startN_eq h.st]

/- Line starts are edges. -/
theorem LS_edge {l : List UInt8} {s : Nat} (h : LS l s) : inside l s = 0 := by
  rcases h with e | ⟨h0, h⟩
  · subst e; exact inside_at_zero l
  by_cases hz : inside l s = 0
  · exact hz
  · obtain ⟨h1, h2, h3⟩ := inside_pos hz
    have hb : byt l (s - 1) ≤ 127 := by omega
    generalize hk : inside l s = k at *
    have hk4 := enc_le (l.drop (s - k))
    rcases Nat.lt_or_ge 1 k with hk1 | hk1
    · have := enc_tail (l := l.drop (s - k)) (i := k - 1) (by omega) (by omega)
      rw [byt_drop, show s - k + (k - 1) = s - 1 from by omega] at this
      omega
    · have : k = 1 := by omega
      subst this
      have hs := encN_spec (byt (l.drop (s - 1)) 0) (byt (l.drop (s - 1)) 1) (byt (l.drop (s - 1)) 2) (byt (l.drop (s - 1)) 3)
      have he : encN (byt (l.drop (s - 1)) 0) (byt (l.drop (s - 1)) 1) (byt (l.drop (s - 1)) 2) (byt (l.drop (s - 1)) 3) = enc (l.drop (s - 1)) := rfl
      rw [he, byt_drop, Nat.add_zero] at hs
      have := hs.1.2 hb
      omega
theorem startN_edge (l : List UInt8) {k : Nat} (h : k ≤ endsN false l) : inside l (startN l k) = 0 := LS_edge (startN_spec l h).ls
end Go.Proofs.YtbogoehjoglneaaDoor
