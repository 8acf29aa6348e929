/- What a judge knows, without where it lies; no conditions. -/
import Derived.Test.YthjimddhnlmlhaaRule
namespace Go.Proofs.Ythjimddhnlmlhaa
open Go.Vc
/-! What the judge knows, without where it lies. -/
def EndS.abs (e : EndS) : EndS := { e with va := none, vc := 0 }
def LineS.abs (l : LineS) : LineS := { e0 := l.e0.abs, e1 := l.e1.abs, session := l.session, bm := 0, sent := l.sent.map fun p => (p.1, 0), clk := 0 }
theorem EndS.abs_abs (e : EndS) : e.abs.abs = e.abs := rfl
theorem addL_keys (l : List (Key × Nat)) (a : Key) (c : Nat) : (addL l a c).1.map (fun p => (p.1, 0)) = if a ∈ l.map (·.1) then l.map (fun p => (p.1, 0)) else l.map (fun p => (p.1, 0)) ++ [(a, 0)] := by
  unfold addL; split <;> simp
theorem keys_abs (l : LineS) : l.abs.keys = l.keys := by simp [LineS.keys, LineS.abs, Function.comp_def]
theorem LineS.abs_abs (l : LineS) : l.abs.abs = l.abs := by simp [LineS.abs, EndS.abs, Function.comp_def]
theorem get_abs (l : LineS) (s : Int) : l.abs.get s = (l.get s).abs := by unfold LineS.get; split <;> rfl
theorem set_abs (l : LineS) (s : Int) (e : EndS) : (l.set s e).abs = (l.abs.set s e.abs).abs := by unfold LineS.set; split <;> simp [LineS.abs, EndS.abs, Function.comp_def]
theorem set_abs2 (l : LineS) (s : Int) {e e' : EndS} (h : e.abs = e'.abs) : (l.abs.set s e).abs = (l.abs.set s e').abs := by rw [set_abs l.abs s e, set_abs l.abs s e', h]
theorem set_abs3 (l : LineS) (s : Int) {e e' : EndS} (h : e.abs = e'.abs) : (l.set s e).abs = (l.abs.set s e').abs := by
  rw [set_abs, h]
  exact set_abs2 l s (EndS.abs_abs e')
theorem taken_abs (e : EndS) (f : FactS) (ses : Nat) (keys : List Key) (va : Option Addr) (vc : Nat) : (e.taken f ses keys va vc).1 = (e.abs.taken f ses keys none 0).1 ∧ (e.taken f ses keys va vc).2.abs = (e.abs.taken f ses keys none 0).2.abs := by
  have hb : e.abs.bad3 f ↔ e.bad3 f := Iff.rfl
  unfold EndS.taken
  split
  · exact ⟨rfl, rfl⟩
  · by_cases h : e.bad3 f
    · rw [if_pos h, if_pos (hb.2 h)]; exact ⟨rfl, rfl⟩
    · rw [if_neg h, if_neg (fun k => h (hb.1 k))]; exact ⟨rfl, rfl⟩
theorem out_abs (e : EndS) (f : FactS) (ses : Nat) : (e.out f ses).1 = (e.abs.out f ses).1 ∧ (e.out f ses).2.abs = (e.abs.out f ses).2.abs := by
  have h4 : e.abs.bad4 f ses ↔ e.bad4 f ses := Iff.rfl
  have h6 : e.abs.bad6 f ↔ e.bad6 f := Iff.rfl
  have h7 : e.abs.bad7 f ↔ e.bad7 f := Iff.rfl
  have h8 : e.abs.bad8 f ↔ e.bad8 f := Iff.rfl
  unfold EndS.out
  simp only [h4, h6, h7, h8]
  split; · exact ⟨rfl, rfl⟩
  split; · exact ⟨rfl, rfl⟩
  split; · exact ⟨rfl, rfl⟩
  split; · exact ⟨rfl, rfl⟩
  split; · exact ⟨rfl, rfl⟩
  exact ⟨rfl, rfl⟩
theorem rule_abs (l : LineS) (f : FactS) (va : Option Addr) (vc : Nat) : (l.rule f va vc).1 = (l.abs.rule f none 0).1 ∧ (l.rule f va vc).2.abs = (l.abs.rule f none 0).2.abs := by
  unfold LineS.rule
  rw [get_abs, keys_abs, show l.abs.session = l.session from rfl]
  split
  · refine ⟨rfl, ?_⟩
    simp only [LineS.abs, EndS.abs, LineS.mk.injEq, true_and, and_true]
    rw [addL_keys, addL_keys]
    simp only [List.map_map, Function.comp_def]
  split
  · obtain ⟨a, b⟩ := taken_abs (l.get f.side) f l.session l.keys va vc
    exact ⟨a, set_abs3 l _ b⟩
  split
  · refine ⟨rfl, ?_⟩
    simp only [LineS.abs, EndS.abs, LineS.mk.injEq, true_and, and_true, List.filter_map, List.map_map]
    rfl
  split; · exact ⟨rfl, set_abs3 l _ rfl⟩
  split; · exact ⟨rfl, set_abs3 l _ rfl⟩
  split; · exact ⟨rfl, set_abs3 l _ rfl⟩
  split; · exact ⟨rfl, set_abs3 l _ (by unfold EndS.anew; split <;> rfl)⟩
  obtain ⟨a, b⟩ := out_abs (l.get f.side) f l.session
  exact ⟨a, set_abs3 l _ b⟩
theorem set_ok {l : LineS} (h : l.ok) (s : Int) (e : EndS) : (l.set s e).ok := by unfold LineS.set; split <;> exact h
theorem rule_ok {l : LineS} (h : l.ok) (f : FactS) (va : Option Addr) (vc : Nat) : (l.rule f va vc).2.ok := by
  unfold LineS.rule
  split
  · unfold addL
    split
    · exact h
    · rename_i hm
      refine ⟨?_, ?_, fun p hp => ?_⟩
      · unfold LineS.keys
        simp only [List.map_append, List.map_cons, List.map_nil]
        exact List.nodup_append.2 ⟨h.1, by simp, fun a ha b hb => by simp at hb; subst hb; rintro rfl; exact hm ha⟩
      · simp only [List.map_append, List.map_cons, List.map_nil]
        refine List.nodup_append.2 ⟨h.2.1, by simp, fun a ha b hb => ?_⟩
        simp at hb; subst hb
        obtain ⟨p, hp, rfl⟩ := List.mem_map.1 ha
        have := h.2.2 p hp
        omega
      · show p.2 < l.clk + 1
        rcases List.mem_append.1 hp with hp | hp
        · have := h.2.2 p hp; omega
        · simp at hp; subst hp; simp
  split; · exact set_ok h _ _
  split
  · refine ⟨h.1.sublist ?_, h.2.1.sublist ?_, fun p hp => h.2.2 p ((List.mem_filter.1 hp).1)⟩
    · exact (List.filter_sublist).map _
    · exact (List.filter_sublist).map _
  split; · exact set_ok h _ _
  split; · exact set_ok h _ _
  split; · exact set_ok h _ _
  split; · exact set_ok h _ _
  exact set_ok h _ _
/-- The rule, on what is known alone. -/
def ruleA (D : List LineS) (f : FactS) : Int × List LineS := ((ruleJ D f none 0).1, (ruleJ D f none 0).2.map LineS.abs)
theorem ruleJ_abs {ls D : List LineS} (h : ls.map LineS.abs = D) (f : FactS) (va : Option Addr) (vc : Nat) : (ruleJ ls f va vc).1 = (ruleA D f).1 ∧ (ruleJ ls f va vc).2.map LineS.abs = (ruleA D f).2 := by
  subst h
  have hi : ∀ l : List LineS, (l.map LineS.abs).map LineS.abs = l.map LineS.abs := fun l => by
    rw [List.map_map]; exact List.map_congr_left fun a _ => LineS.abs_abs a
  unfold ruleA ruleJ
  rw [List.length_map]
  split
  · exact ⟨rfl, (hi _).symm⟩
  · rw [List.getElem?_map]
    cases hg : ls[f.conn.toNat]? with
    | none => exact ⟨rfl, (hi _).symm⟩
    | some l =>
      obtain ⟨a, b⟩ := rule_abs l f va vc
      refine ⟨a, ?_⟩
      simp only [Option.map_some, List.map_set]
      rw [b, hi]
theorem ruleJ_len (ls : List LineS) (f : FactS) (va : Option Addr) (vc : Nat) : (ruleJ ls f va vc).2.length = ls.length := by
  unfold ruleJ
  split
  · rfl
  · split <;> simp
theorem ruleJ_ok {ls : List LineS} (h : ∀ l ∈ ls, l.ok) (f : FactS) (va : Option Addr) (vc : Nat) : ∀ l ∈ (ruleJ ls f va vc).2, l.ok := by
  unfold ruleJ
  split
  · exact h
  · split
    · rename_i l hl
      intro x hx
      rcases List.mem_or_eq_of_mem_set hx with hx | rfl
      · exact h x hx
      · exact rule_ok (h l (List.mem_of_getElem? hl)) f va vc
    · exact h
structure JudD where
  ls : List LineS
  at_ : Nat
  r : Int
  ra : Int
def JudD.see (D : JudD) (f : FactS) : JudD :=
  if D.r = 0 then if (ruleA D.ls f).1 = 0 then { D with ls := (ruleA D.ls f).2, at_ := D.at_ + 1 } else ⟨(ruleA D.ls f).2, D.at_ + 1, (ruleA D.ls f).1, D.at_⟩
  else { D with at_ := D.at_ + 1 }
/-- A judge in memory. -/
def judM (bj : Nat) (D : JudD) (x : List LineS × Option Addr × Nat) : List HProp :=
  [pr (x.1.map LineS.abs = D.ls ∧ ∀ l ∈ x.1, l.ok), judB bj x.2.1 x.1.length x.2.2 D.at_ D.r D.ra, sown 64 22 (.slice x.2.1 x.1.length x.2.2) x.1.length (lcells x.1), ownLs x.1]
def jud (bj : Nat) (D : JudD) : HProp := exL (judM bj D)
theorem jud_fold {bj : Nat} {D : JudD} {ls : List LineS} {la : Option Addr} {lc n : Nat} {at_ : Nat} {r ra : Int} (h : ls.map LineS.abs = D.ls) (hok : ∀ l ∈ ls, l.ok) (hn : ls.length = n) (ha : D.at_ = at_) (hr : D.r = r) (hra : D.ra = ra) :
    ∀ f, sepL [blk bj 58 [.slice la n lc, .int .i64 at_, .int .i64 r, .int .i64 ra], sown 64 22 (.slice la n lc) n (lcells ls), ownLs ls] f → jud bj D f := by
  intro f hf
  subst ha; subst hr; subst hra; subst hn
  exact ⟨(ls, la, lc), fun _ => none, f, ⟨⟨h, hok⟩, fun _ => rfl⟩, hf, fun _ => .inl rfl, fun _ => by simp⟩
theorem gc_jud {P : Program} {B : World} {n : Nat} {K : Kont} {E : Env} {c : Code} {bj : Nat} {D : JudD} {L L' : List HProp} (hd : Del (jud bj D) L L')
    (h : ∀ ls la lc, ls.map LineS.abs = D.ls → (∀ l ∈ ls, l.ok) → GC P B n c K E (blk bj 58 [.slice la ls.length lc, .int .i64 D.at_, .int .i64 D.r, .int .i64 D.ra] :: sown 64 22 (.slice la ls.length lc) ls.length (lcells ls) :: ownLs ls :: L')) : GC P B n c K E L :=
  gc_open (judM bj D) hd (fun _ h => h) fun ⟨ls, la, lc⟩ => gc_pr .here fun ⟨h1, h2⟩ => h ls la lc h1 h2
/-- The watches of a net's list. -/
def RdsW (w : World) (a : Option Addr) (ws : List Int) : Prop := (a = none → ws = []) ∧ ∀ ad, a = some ad → ∀ i x, ws[i]? = some x → w.cell? ((ad.add (i * 5)).add 3) = some (.int .i64 x)
/-- A net's value, whose lists are read in 'A'. -/
def IsNet (A : HProp) (v : Value) (hs ds : List Int) : Prop := ∃ ah ch ad cd mx, v = .agg ⟨[.slice ah hs.length ch, .slice ad ds.length cd, .int .u32 mx]⟩ ∧ ∀ B w, Sat B w [A] → RdsW w ah hs ∧ RdsW w ad ds
def EndS.new (w : Int) : EndS := ⟨w, 0, 0, false, none, 0, 0, 0, 0, false, false, []⟩
def LineS.new (a b : Int) : LineS := ⟨EndS.new a, EndS.new b, 0, 0, [], 0⟩
def newD (hs ds : List Int) : List LineS := (hs.zip ds).map fun p => LineS.new p.1 p.2
/-- A fact in memory. -/
structure FactV where
  f : FactS
  a : Option Addr
  c : Nat
abbrev FactV.cells (x : FactV) : List Value := x.f.cells (.slice x.a x.f.data.length x.c)
def FactV.rds (x : FactV) (w : World) : Prop := Rds w 1 (.slice x.a x.f.data.length x.c) x.f.data.length (bv x.f.data)
def RdFs (w : World) (sa : Option Addr) (fs : List FactV) : Prop := (sa = none → fs = []) ∧ (∀ ad, sa = some ad → ∀ i x, fs[i]? = some x → ∀ j u, x.cells[j]? = some u → w.cell? ((ad.add (i * 8)).add j) = some u) ∧ ∀ x ∈ fs, x.rds w
def FactS.ok (f : FactS) : Prop := f.data.length ≤ 140737488355328 ∧ f.num < 4294967296
def JudD.sees (D : JudD) (fs : List FactS) : JudD := fs.foldl JudD.see D
def checkA (hs ds : List Int) (fs : List FactS) : JudD := (JudD.mk (newD hs ds) 0 0 0).sees fs
theorem see_at (D : JudD) (f : FactS) : (D.see f).at_ = D.at_ + 1 := by
  unfold JudD.see; split
  · split <;> rfl
  · rfl
theorem sees_at (D : JudD) (fs : List FactS) : (D.sees fs).at_ = D.at_ + fs.length := by
  unfold JudD.sees
  induction fs generalizing D with
  | nil => rfl
  | cons f fs ih => rw [List.foldl_cons, ih, see_at, List.length_cons]; omega
theorem sees_snoc (D : JudD) (fs : List FactS) (f : FactS) : D.sees (fs ++ [f]) = (D.sees fs).see f := by unfold JudD.sees; rw [List.foldl_append]; rfl
theorem ownLs_nil (f) (h : sepL [] f) : ownLs [] f := h
end Go.Proofs.Ythjimddhnlmlhaa
