/- The plain laws of histories, their beginnings and their connections; no conditions. -/
import Derived.Test.YthjimddhnlmlhaaCopied
namespace Go.Proofs.Ythjimddhnlmlhaa
open Go.Vc
/-! Histories: beginnings, and one connection at a time. -/
theorem sees_cons (D : JudD) (f : FactS) (fs : List FactS) : D.sees (f :: fs) = (D.see f).sees fs := rfl
theorem sees_append (D : JudD) (fs gs : List FactS) : D.sees (fs ++ gs) = (D.sees fs).sees gs := by unfold JudD.sees; rw [List.foldl_append]
theorem sees_stay : ∀ (fs : List FactS) (D : JudD), D.r ≠ 0 → (D.sees fs).r = D.r ∧ (D.sees fs).ra = D.ra
  | [], _, _ => ⟨rfl, rfl⟩
  | f :: fs, D, h => by
    have e : D.see f = { D with at_ := D.at_ + 1 } := by unfold JudD.see; rw [if_neg h]
    rw [sees_cons, e]
    exact sees_stay fs _ h
theorem see_good {D : JudD} {f : FactS} (h : D.r = 0) (h0 : (D.see f).r = 0) : (D.see f).ra = D.ra := by
  unfold JudD.see at h0 ⊢
  rw [if_pos h] at h0 ⊢
  split
  · rfl
  · rename_i hn; rw [if_neg hn] at h0; exact absurd h0 hn
theorem sees_good : ∀ (fs : List FactS) (D : JudD), (D.sees fs).r = 0 → D.r = 0 ∧ (D.sees fs).ra = D.ra
  | [], _, h => ⟨h, rfl⟩
  | f :: fs, D, h => by
    rw [sees_cons] at h ⊢
    obtain ⟨h1, h2⟩ := sees_good fs _ h
    have hD : D.r = 0 := by
      apply Decidable.byContradiction
      intro hn
      have e : D.see f = { D with at_ := D.at_ + 1 } := by unfold JudD.see; rw [if_neg hn]
      rw [e] at h1
      exact hn h1
    exact ⟨hD, h2.trans (see_good hD h1)⟩
theorem sees_bad : ∀ (fs : List FactS) (D : JudD), D.r = 0 → (D.sees fs).r ≠ 0 → ∃ k, k < fs.length ∧ (D.sees fs).ra = ((D.at_ + k : Nat) : Int) ∧ (D.sees (fs.take k)).r = 0 ∧ (D.sees (fs.take (k + 1))).r = (D.sees fs).r ∧ (D.sees (fs.take (k + 1))).ra = (D.sees fs).ra
  | [], D, h, hn => absurd h hn
  | f :: fs, D, h, hn => by
    rw [sees_cons] at hn ⊢
    by_cases h1 : (D.see f).r = 0
    · obtain ⟨k, a, b, c, d, e⟩ := sees_bad fs _ h1 hn
      refine ⟨k + 1, by simpa using a, ?_, ?_, ?_, ?_⟩
      · rw [b, see_at]; congr 1; omega
      · exact c
      · exact d
      · exact e
    · obtain ⟨a, b⟩ := sees_stay fs _ h1
      have hra : (D.see f).ra = (D.at_ : Int) := by
        unfold JudD.see at h1 ⊢
        rw [if_pos h] at h1 ⊢
        split
        · rename_i hq; rw [if_pos hq] at h1; exact absurd h h1
        · rfl
      refine ⟨0, by simp, ?_, h, ?_, ?_⟩
      · rw [b, hra]; rfl
      · exact a.symm
      · exact b.symm
theorem sees_pre {D : JudD} {fs : List FactS} (h : (D.sees fs).r = 0) (k : Nat) : (D.sees (fs.take k)).r = 0 := by
  have e : D.sees fs = (D.sees (fs.take k)).sees (fs.drop k) := by rw [← sees_append, List.take_append_drop]
  rw [e] at h
  exact (sees_good _ _ h).1

/-! One connection at a time. -/
theorem ruleA_len (ls : List LineS) (f : FactS) : (ruleA ls f).2.length = ls.length := by
  unfold ruleA; rw [List.length_map, ruleJ_len]
theorem see_r {D : JudD} (f : FactS) (h : D.r = 0) : (D.see f).r = (ruleA D.ls f).1 := by
  unfold JudD.see
  rw [if_pos h]
  split
  · rename_i hq; rw [hq]; exact h
  · rfl
theorem see_ls {D : JudD} (f : FactS) (h : D.r = 0) : (D.see f).ls = (ruleA D.ls f).2 := by
  unfold JudD.see
  rw [if_pos h]
  split <;> rfl
theorem sees_bad1 : ∀ (fs : List FactS) (D : JudD) (f : FactS), f ∈ fs → bad1 D.ls.length f → (D.sees fs).r ≠ 0
  | [], _, _, h, _ => by cases h
  | g :: fs, D, f, h, hb => by
    rw [sees_cons]
    by_cases h0 : D.r = 0
    · rcases List.mem_cons.1 h with rfl | h
      · have : (D.see f).r = 1 := by rw [see_r f h0]; unfold ruleA ruleJ; rw [if_pos hb]
        rw [(sees_stay fs _ (by rw [this]; decide)).1, this]; decide
      · exact sees_bad1 fs _ f h (by rw [see_ls g h0, ruleA_len]; exact hb)
    · have e : D.see g = { D with at_ := D.at_ + 1 } := by unfold JudD.see; rw [if_neg h0]
      rw [e, (sees_stay fs { D with at_ := D.at_ + 1 } h0).1]; exact h0
theorem ruleA_0 {x y : LineS} {f : FactS} (hc : f.conn = 0) (hb : ¬ bad1 2 f) : ruleA [x, y] f = ((x.rule f none 0).1, [(x.rule f none 0).2.abs, y.abs]) := by
  unfold ruleA
  have h : ruleJ [x, y] f none 0 = _ := ruleJ_eq (l1 := []) (l := x) (l2 := [y]) (r := (x.rule f none 0).1) (l' := (x.rule f none 0).2) hb (by rw [hc]; rfl) rfl
  rw [h]
  rfl
theorem ruleA_1 {x y : LineS} {f : FactS} (hc : f.conn = 1) (hb : ¬ bad1 2 f) : ruleA [x, y] f = ((y.rule f none 0).1, [x.abs, (y.rule f none 0).2.abs]) := by
  unfold ruleA
  have h : ruleJ [x, y] f none 0 = _ := ruleJ_eq (l1 := [x]) (l := y) (l2 := []) (r := (y.rule f none 0).1) (l' := (y.rule f none 0).2) hb (by rw [hc]; rfl) rfl
  rw [h]
  rfl
theorem conns_law : ∀ (fs : List FactS) (D D0 D1 : JudD) (x y x1 y0 : LineS), (∀ f ∈ fs, f.conn = 0 ∨ f.conn = 1) → D.r = 0 → D0.r = 0 → D1.r = 0 → D.ls = [x, y] → D0.ls = [x, y0] → D1.ls = [x1, y] → x.abs = x → y.abs = y →
    ((D.sees fs).r = 0 ↔ (D0.sees (fs.filter fun f => decide (f.conn = 0))).r = 0 ∧ (D1.sees (fs.filter fun f => decide (f.conn = 1))).r = 0)
  | [], D, D0, D1, _, _, _, _, _, h, h0, h1, _, _, _, _, _ => ⟨fun _ => ⟨h0, h1⟩, fun _ => h⟩
  | f :: fs, D, D0, D1, x, y, x1, y0, hf, h, h0, h1, l, l0, l1, hx, hy => by
    have hf' : ∀ g ∈ fs, g.conn = 0 ∨ g.conn = 1 := fun g hg => hf g (List.mem_cons_of_mem _ hg)
    have bad : ∀ (D : JudD) (q : List FactS), D.r = 0 → (ruleA D.ls f).1 ≠ 0 → ((D.see f).sees q).r ≠ 0 := fun D q hD hq => by
      have e := see_r f hD
      rw [(sees_stay q _ (by rw [e]; exact hq)).1, e]; exact hq
    rcases hf f (List.mem_cons_self) with hc | hc
    · have e0 : (f :: fs).filter (fun f => decide (f.conn = 0)) = f :: fs.filter (fun f => decide (f.conn = 0)) := by simp [hc]
      have e1 : (f :: fs).filter (fun f => decide (f.conn = 1)) = fs.filter (fun f => decide (f.conn = 1)) := by simp [hc]
      rw [e0, e1, sees_cons, sees_cons]
      have hr : (ruleA D.ls f).1 = (ruleA D0.ls f).1 := by
        rw [l, l0]
        by_cases hb : bad1 2 f
        · unfold ruleA ruleJ
          rw [if_pos (show bad1 [x, y].length f from hb), if_pos (show bad1 [x, y0].length f from hb)]
        · rw [ruleA_0 hc hb, ruleA_0 hc hb]
      by_cases hq : (ruleA D.ls f).1 = 0
      · have hb : ¬ bad1 2 f := fun hb => by
          have : (ruleA D.ls f).1 = 1 := by rw [l]; unfold ruleA ruleJ; rw [if_pos (show bad1 [x, y].length f from hb)]
          rw [this] at hq; cases hq
        refine conns_law fs (D.see f) (D0.see f) D1 (x.rule f none 0).2.abs y x1 y0.abs hf' (by rw [see_r f h]; exact hq) (by rw [see_r f h0, ← hr]; exact hq) h1 ?_ ?_ l1 (LineS.abs_abs _) hy
        · rw [see_ls f h, l, ruleA_0 hc hb, hy]
        · rw [see_ls f h0, l0, ruleA_0 hc hb]
      · exact ⟨fun k => absurd k (bad D fs h hq), fun k => absurd k.1 (bad D0 _ h0 (hr ▸ hq))⟩
    · have e0 : (f :: fs).filter (fun f => decide (f.conn = 0)) = fs.filter (fun f => decide (f.conn = 0)) := by simp [hc]
      have e1 : (f :: fs).filter (fun f => decide (f.conn = 1)) = f :: fs.filter (fun f => decide (f.conn = 1)) := by simp [hc]
      rw [e0, e1, sees_cons, sees_cons]
      have hr : (ruleA D.ls f).1 = (ruleA D1.ls f).1 := by
        rw [l, l1]
        by_cases hb : bad1 2 f
        · unfold ruleA ruleJ
          rw [if_pos (show bad1 [x, y].length f from hb), if_pos (show bad1 [x1, y].length f from hb)]
        · rw [ruleA_1 hc hb, ruleA_1 hc hb]
      by_cases hq : (ruleA D.ls f).1 = 0
      · have hb : ¬ bad1 2 f := fun hb => by
          have : (ruleA D.ls f).1 = 1 := by rw [l]; unfold ruleA ruleJ; rw [if_pos (show bad1 [x, y].length f from hb)]
          rw [this] at hq; cases hq
        refine conns_law fs (D.see f) D0 (D1.see f) x (y.rule f none 0).2.abs x1.abs y0 hf' (by rw [see_r f h]; exact hq) h0 (by rw [see_r f h1, ← hr]; exact hq) ?_ l0 ?_ hx (LineS.abs_abs _)
        · rw [see_ls f h, l, ruleA_1 hc hb, hx]
        · rw [see_ls f h1, l1, ruleA_1 hc hb]
      · exact ⟨fun k => absurd k (bad D fs h hq), fun k => absurd k.2 (bad D1 _ h1 (hr ▸ hq))⟩
/-- The pair of small sets. -/
abbrev checkP (fs : List FactS) : JudD := checkA [10, 11] [10, 11] fs
theorem conns_pair (fs : List FactS) (h : ∀ f ∈ fs, f.conn = 0 ∨ f.conn = 1) : ((checkP fs).r = 0 ↔ (checkP (fs.filter fun f => decide (f.conn = 0))).r = 0 ∧ (checkP (fs.filter fun f => decide (f.conn = 1))).r = 0) :=
  conns_law fs _ _ _ (LineS.new 10 10) (LineS.new 11 11) (LineS.new 10 10) (LineS.new 11 11) h rfl rfl rfl rfl rfl rfl rfl rfl
theorem conns_odd {fs : List FactS} {f : FactS} (hf : f ∈ fs) (h : f.conn < 0 ∨ 1 < f.conn) : (checkP fs).r ≠ 0 :=
  sees_bad1 fs _ f hf (by show bad1 2 f; unfold bad1; omega)
theorem starts_bad {fs : List FactS} (h : (checkP fs).r ≠ 0) : ∃ k, k < fs.length ∧ (checkP fs).ra = (k : Int) ∧ (checkP (fs.take k)).r = 0 ∧ (checkP (fs.take k)).ra = 0 ∧ (checkP (fs.take (k + 1))).r = (checkP fs).r ∧ (checkP (fs.take (k + 1))).ra = (checkP fs).ra := by
  obtain ⟨k, a, b, c, d, e⟩ := sees_bad fs ⟨newD [10, 11] [10, 11], 0, 0, 0⟩ rfl h
  refine ⟨k, a, ?_, c, (sees_good _ _ c).2, d, e⟩
  have : (checkP fs).ra = ((0 + k : Nat) : Int) := b
  rw [this, Nat.zero_add]
theorem starts_more {fs gs : List FactS} (h : (checkP fs).r ≠ 0) : (checkP (fs ++ gs)).r = (checkP fs).r ∧ (checkP (fs ++ gs)).ra = (checkP fs).ra := by
  have e : checkP (fs ++ gs) = (checkP fs).sees gs := sees_append _ _ _
  rw [e]
  exact sees_stay gs _ h
theorem starts_good {fs : List FactS} (h : (checkP fs).r = 0) (k : Nat) : (checkP (fs.take k)).r = 0 ∧ (checkP (fs.take k)).ra = 0 := by
  have h1 : (checkP (fs.take k)).r = 0 := sees_pre h k
  exact ⟨h1, (sees_good _ _ h1).2⟩
end Go.Proofs.Ythjimddhnlmlhaa
