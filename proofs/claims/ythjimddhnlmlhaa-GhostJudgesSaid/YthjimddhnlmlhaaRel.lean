/- The two judges side by side; no conditions. -/
import Derived.Test.YthjimddhnlmlhaaRefSee
namespace Go.Proofs.Ythjimddhnlmlhaa
open Go.Vc
/-! The two judges side by side. -/
structure ERel (B : Nat) (e : EndS) (x : REnd) : Prop where
  watch : e.watch = x.watch
  took : e.some_ = x.took
  sess : e.sess = x.sess
  num : e.num = x.num
  vs : e.vs = x.value
  in_ : e.in_ = x.in_
  since : e.since = x.since
  latched : e.latched = x.latched
  fresh : e.fresh = x.fresh
  acked : e.acked = x.acked
  has : x.has = false → x.value = []
  wlo : -9223372036854775808 ≤ x.watch
  whi : x.watch ≤ 9223372036854775807
  slo : x.since ≥ 0 ∨ x.watch ≤ x.since
  shi : x.since ≤ 0 ∨ x.since ≤ x.watch
  sb : x.since ≤ (B : Int) * 4294967296
theorem ERel.mono {B C : Nat} {e : EndS} {x : REnd} (h : ERel B e x) (hc : B ≤ C) : ERel C e x := { h with sb := by have := h.sb; omega }
theorem ERel.abs {B : Nat} {e : EndS} {x : REnd} (h : ERel B e x) : ERel B e.abs x := ⟨h.watch, h.took, h.sess, h.num, h.vs, h.in_, h.since, h.latched, h.fresh, h.acked, h.has, h.wlo, h.whi, h.slo, h.shi, h.sb⟩
theorem out_rel {B : Nat} {e : EndS} {x : REnd} (h : ERel B e x) (f : FactS) (ses : Nat) : (e.out f ses).1 = (x.out f (decide (f.side = 2)) ses).1 ∧ ERel B (e.out f ses).2 (x.out f (decide (f.side = 2)) ses).2 := by
  have h4 : e.bad4 f ses ↔ x.bad4 f (decide (f.side = 2)) ses := by
    unfold EndS.bad4 REnd.bad4
    rw [h.vs, h.in_]
    have hh := h.has
    constructor
    · rintro ⟨a, b⟩
      refine ⟨a, ?_⟩
      rcases b with b | b | b
      · exact .inr (.inr (.inl b))
      · by_cases hd : f.data.length = 0
        · exact .inr (.inl hd)
        · refine .inr (.inr (.inl fun k => hd ?_)); rw [← k]; exact b
      · exact .inr (.inr (.inr ⟨decide_eq_true b.1, b.2⟩))
    · rintro ⟨a, b⟩
      refine ⟨a, ?_⟩
      rcases b with b | b | b | b
      · rw [hh b]; exact .inr (.inl rfl)
      · by_cases hd : x.value = f.data
        · rw [hd]; exact .inr (.inl b)
        · exact .inl hd
      · exact .inl b
      · exact .inr (.inr ⟨of_decide_eq_true b.1, b.2⟩)
  have h6 : e.bad6 f ↔ x.bad6 f := by unfold EndS.bad6 REnd.bad6; rw [h.watch, h.since]
  have h7 : e.bad7 f ↔ x.bad7 f := by unfold EndS.bad7 REnd.bad7; rw [h.watch, h.since]
  have h8 : e.bad8 f ↔ x.bad8 f := by unfold EndS.bad8 REnd.bad8; rw [h.latched, h.acked]
  unfold EndS.out REnd.out
  simp only [h4, h6, h7, h8]
  split; · exact ⟨rfl, h⟩
  split; · exact ⟨rfl, h⟩
  split; · exact ⟨rfl, h⟩
  split; · exact ⟨rfl, h⟩
  split; · exact ⟨rfl, h⟩
  exact ⟨rfl, h.watch, h.took, h.sess, h.num, h.vs, h.in_, h.since, rfl, by show (if f.code ≠ e.latched then false else e.fresh) = _; rw [h.latched, h.fresh]; rfl, rfl, h.has, h.wlo, h.whi, h.slo, h.shi, h.sb⟩
theorem tick_rel {B : Nat} {e : EndS} {x : REnd} (h : ERel B e x) {n : Nat} (hn : n < 4294967296) (hB : B ≤ 1000000) : ERel (B + 1) (e.tick n) (x.tick n) := by
  have h1 := h.wlo; have h2 := h.whi; have h3 := h.slo; have h4 := h.shi; have h5 := h.sb
  have e1 : IntKind.i64.wrap (x.since + (n : Int)) = x.since + n := wrap_id _ _ (by simp only [IntKind.min, IntKind.bits, IntKind.signed]; simp; omega) (by simp only [IntKind.max, IntKind.bits, IntKind.signed]; simp; omega)
  have e2 : IntKind.i64.wrap (x.watch - x.since) = x.watch - x.since := wrap_id _ _ (by simp only [IntKind.min, IntKind.bits, IntKind.signed]; simp; omega) (by simp only [IntKind.max, IntKind.bits, IntKind.signed]; simp; omega)
  have eS : e.tickS n = if x.since + n < x.watch then x.since + n else x.watch := by unfold EndS.tickS; rw [h.since, h.watch, e1]
  unfold EndS.tick REnd.tick
  rw [e2]
  by_cases hc : x.watch - x.since ≤ (n : Int)
  · have hs : e.tickS n = x.watch := by rw [eS, if_neg (by omega)]
    rw [if_pos hc]
    refine ⟨h.watch, h.took, h.sess, h.num, h.vs, h.in_, hs, h.latched, ?_, h.acked, h.has, h1, h2, ?_, ?_, ?_⟩
    · show (if e.watch ≤ e.tickS n then false else e.fresh) = false
      rw [hs, h.watch, if_pos (Int.le_refl _)]
    · exact .inr (Int.le_refl _)
    · exact .inr (Int.le_refl _)
    · show x.watch ≤ ((B + 1 : Nat) : Int) * 4294967296
      omega
  · have hs : e.tickS n = x.since + n := by rw [eS, if_pos (by omega)]
    rw [if_neg hc, e1]
    refine ⟨h.watch, h.took, h.sess, h.num, h.vs, h.in_, hs, h.latched, ?_, h.acked, h.has, h1, h2, ?_, ?_, ?_⟩
    · show (if e.watch ≤ e.tickS n then false else e.fresh) = x.fresh
      rw [hs, h.watch, if_neg (by omega), h.fresh]
    · show x.since + (n : Int) ≥ 0 ∨ x.watch ≤ x.since + (n : Int)
      omega
    · show x.since + (n : Int) ≤ 0 ∨ x.since + (n : Int) ≤ x.watch
      omega
    · show x.since + (n : Int) ≤ ((B + 1 : Nat) : Int) * 4294967296
      omega
theorem anew_rel {B : Nat} {e : EndS} {x : REnd} (h : ERel B e x) (s : Int) : ERel B (e.anew s) (x.anew s) := by
  have h1 := h.wlo; have h2 := h.whi
  unfold EndS.anew REnd.anew
  split
  · exact ⟨h.watch, h.took, h.sess, h.num, rfl, rfl, rfl, rfl, rfl, rfl, fun _ => rfl, h1, h2, .inl (Int.le_refl _), .inl (Int.le_refl _), by show (0 : Int) ≤ _; omega⟩
  · exact ⟨h.watch, rfl, rfl, rfl, rfl, rfl, rfl, rfl, rfl, rfl, fun _ => rfl, h1, h2, .inl (Int.le_refl _), .inl (Int.le_refl _), by show (0 : Int) ≤ _; omega⟩
def KRel (i : Nat) (keys : List Key) (sent : List FactS) : Prop := ∀ k : Key, k ∈ keys ↔ ∃ s ∈ sent, s.conn = (i : Int) ∧ s.side = k.1 ∧ s.sess = k.2.1 ∧ s.num = k.2.2.1 ∧ s.data = k.2.2.2
structure LRel (B : Nat) (i : Nat) (sent : List FactS) (l : LineS) (m : RLine) : Prop where
  e0 : ERel B l.e0 m.x0
  e1 : ERel B l.e1 m.x1
  ses : l.session = m.ses
  keys : KRel i l.keys sent
structure JRel (D : JudD) (R : RD) : Prop where
  at_ : D.at_ = R.at_
  r : D.r = R.r
  ra : D.ra = R.ra
  len : D.ls.length = R.ls.length
  lines : R.r = 0 → ∀ i l m, D.ls[i]? = some l → R.ls[i]? = some m → LRel R.at_ i R.sent l m
  sides : R.r = 0 → ∀ s ∈ R.sent, s.side = 1 ∨ s.side = 2
theorem get_rel {B i : Nat} {sent : List FactS} {l : LineS} {m : RLine} (h : LRel B i sent l m) (s : Int) : ERel B (l.get s) (m.get s) := by
  unfold LineS.get RLine.get; split; · exact h.e1
  exact h.e0
theorem set_rel {B i : Nat} {sent : List FactS} {l : LineS} {m : RLine} (h : LRel B i sent l m) (s : Int) {C : Nat} (hc : B ≤ C) {e : EndS} {x : REnd} (hx : ERel C e x) : LRel C i sent (l.set s e).abs (m.set s x) := by
  unfold LineS.set RLine.set
  have hk : ∀ q : LineS, q.sent = l.sent → q.abs.keys = l.keys := fun q hq => by rw [keys_abs]; unfold LineS.keys; rw [hq]
  split
  · exact ⟨(h.e0.mono hc).abs, hx.abs, h.ses, by rw [hk { l with e1 := e } rfl]; exact h.keys⟩
  · exact ⟨hx.abs, (h.e1.mono hc).abs, h.ses, by rw [hk { l with e0 := e } rfl]; exact h.keys⟩
theorem LRel.mono {B C i : Nat} {sent : List FactS} {l : LineS} {m : RLine} (h : LRel B i sent l m) (hc : B ≤ C) : LRel C i sent l m := ⟨h.e0.mono hc, h.e1.mono hc, h.ses, h.keys⟩
theorem LRel.abs {B i : Nat} {sent : List FactS} {l : LineS} {m : RLine} (h : LRel B i sent l m) : LRel B i sent l.abs m := ⟨h.e0.abs, h.e1.abs, h.ses, by rw [keys_abs]; exact h.keys⟩
theorem bad_iff (n : Nat) (f : FactS) : bad1 n f ↔ rbad1 n f := by unfold bad1 rbad1; omega
theorem has_iff {i : Nat} {keys : List Key} {sent : List FactS} (hk : KRel i keys sent) (hs : ∀ s ∈ sent, s.side = 1 ∨ s.side = 2) {f : FactS} (hc : f.conn = (i : Int)) (hf : f.side = 1 ∨ f.side = 2) : ((3 - f.side, f.sess, f.num, f.data) : Key) ∈ keys ↔ hasSent sent f = true := by
  rw [hk]
  unfold hasSent
  rw [List.any_eq_true]
  constructor
  · rintro ⟨s, h1, h2, h3, h4, h5, h6⟩
    refine ⟨s, h1, decide_eq_true ⟨h2.trans hc.symm, ?_, h4, h5, h6⟩⟩
    have h3' : s.side = 3 - f.side := h3
    rcases hf with h | h <;> omega
  · rintro ⟨s, h1, h2⟩
    obtain ⟨a, b, c, d, e⟩ := of_decide_eq_true h2
    refine ⟨s, h1, a.trans hc, ?_, c, d, e⟩
    show s.side = 3 - f.side
    have := hs s h1
    rcases hf with h | h <;> omega
/-- One fact, on the line that it speaks of. -/
theorem line_rel {B i : Nat} {sent : List FactS} {l : LineS} {m : RLine} {f : FactS} (h : LRel B i sent l m) (hB : B ≤ 1000000) (hn : f.num < 4294967296) (hk : 1 ≤ f.kind ∧ f.kind ≤ 8) (hc : f.conn = (i : Int)) (hf : f.side = 1 ∨ f.side = 2) (hs : ∀ s ∈ sent, s.side = 1 ∨ s.side = 2) :
    (l.rule f none 0).1 = (m.rule f (hasSent sent f)).1 ∧ LRel (B + 1) i (sentR sent f) (l.rule f none 0).2.abs (m.rule f (hasSent sent f)).2 := by
  have hg := get_rel h f.side
  have h1 : B ≤ B + 1 := Nat.le_succ _
  unfold LineS.rule RLine.rule sentR
  split
  · -- sent
    refine ⟨rfl, (h.mono h1).e0.abs, (h.mono h1).e1.abs, h.ses, ?_⟩
    rw [keys_abs]
    intro k
    have hkk : ({ l with sent := (addL l.sent ((f.side, f.sess, f.num, f.data) : Key) l.clk).1, clk := (addL l.sent ((f.side, f.sess, f.num, f.data) : Key) l.clk).2 } : LineS).keys = if ((f.side, f.sess, f.num, f.data) : Key) ∈ l.keys then l.keys else l.keys ++ [(f.side, f.sess, f.num, f.data)] := by
      unfold LineS.keys addL
      split <;> simp
    rw [hkk]
    have key : k ∈ (if ((f.side, f.sess, f.num, f.data) : Key) ∈ l.keys then l.keys else l.keys ++ [(f.side, f.sess, f.num, f.data)]) ↔ k ∈ l.keys ∨ k = (f.side, f.sess, f.num, f.data) := by
      split
      · rename_i hm
        constructor
        · exact .inl
        · rintro (h | rfl)
          · exact h
          · exact hm
      · simp
    rw [key, h.keys k]
    constructor
    · rintro (⟨s, a, b⟩ | rfl)
      · exact ⟨s, List.mem_append_left _ a, b⟩
      · exact ⟨unitOf f, List.mem_append_right _ (List.mem_singleton.2 rfl), hc, rfl, rfl, rfl, rfl⟩
    · rintro ⟨s, a, b⟩
      rcases List.mem_append.1 a with a | a
      · exact .inl ⟨s, a, b⟩
      · obtain rfl := List.mem_singleton.1 a
        obtain ⟨_, b1, b2, b3, b4⟩ := b
        refine .inr ?_
        obtain ⟨k1, k2, k3, k4⟩ := k
        simp only at b1 b2 b3 b4
        rw [← b1, ← b2, ← b3, ← b4]
        rfl
  rename_i c1
  split
  · -- taken
    rename_i c2
    try rw [if_neg (show ¬ f.kind = 3 by omega)]
    have hh := has_iff h.keys hs hc hf
    have hb2 : EndS.bad2 f l.session l.keys ↔ rbad2 f (hasSent sent f) m.ses := by
      unfold EndS.bad2 rbad2
      rw [h.ses]
      constructor
      · rintro (a | a)
        · exact .inr a
        · exact .inl (by cases hq : hasSent sent f; · rfl
                         · exact absurd (hh.2 hq) a)
      · rintro (a | a)
        · refine .inr fun k => ?_
          rw [hh.1 k] at a; cases a
        · exact .inl a
    have hb3 : (l.get f.side).bad3 f ↔ (m.get f.side).bad3 f := by unfold EndS.bad3 REnd.bad3; rw [hg.took, hg.sess, hg.num]
    unfold EndS.taken
    by_cases q2 : EndS.bad2 f l.session l.keys
    · rw [if_pos q2, if_pos (hb2.1 q2)]
      refine ⟨rfl, ?_⟩
      have := set_rel h f.side h1 (hg.mono h1)
      rwa [show m.set f.side (m.get f.side) = m from by unfold RLine.set RLine.get; split <;> rfl] at this
    · rw [if_neg q2, if_neg (fun k => q2 (hb2.2 k))]
      by_cases q3 : (l.get f.side).bad3 f
      · rw [if_pos q3, if_pos (hb3.1 q3)]
        refine ⟨rfl, ?_⟩
        have := set_rel h f.side h1 (hg.mono h1)
        rwa [show m.set f.side (m.get f.side) = m from by unfold RLine.set RLine.get; split <;> rfl] at this
      · rw [if_neg q3, if_neg (fun k => q3 (hb3.2 k))]
        exact ⟨rfl, set_rel h f.side h1 ⟨hg.watch, rfl, rfl, rfl, rfl, rfl, hg.since, hg.latched, hg.fresh, hg.acked, fun k => (by cases k), hg.wlo, hg.whi, hg.slo, hg.shi, (hg.mono h1).sb⟩⟩
  rename_i c2
  split
  · -- session
    refine ⟨rfl, (h.mono h1).e0.abs, (h.mono h1).e1.abs, rfl, ?_⟩
    rw [keys_abs]
    intro k
    have hkk : k ∈ ({ l with session := f.sess, sent := l.sent.filter fun p => !badK f.sess p } : LineS).keys ↔ k ∈ l.keys ∧ ¬ (k.1 = 1 ∧ k.2.1 = f.sess) := by
      unfold LineS.keys
      simp only [List.mem_map, List.mem_filter]
      constructor
      · rintro ⟨p, ⟨hp, hb⟩, rfl⟩
        refine ⟨⟨p, hp, rfl⟩, fun ⟨a, b⟩ => ?_⟩
        simp [badK, a, b] at hb
      · rintro ⟨⟨p, hp, rfl⟩, hb⟩
        refine ⟨p, ⟨hp, ?_⟩, rfl⟩
        simp only [badK, Bool.not_eq_true', Bool.and_eq_false_iff, decide_eq_false_iff_not]
        by_cases a : p.1.1 = 1
        · exact .inr fun b => hb ⟨a, b⟩
        · exact .inl a
    rw [hkk, h.keys k]
    constructor
    · rintro ⟨⟨s, a, b1, b2, b3, b4⟩, hb⟩
      refine ⟨s, List.mem_filter.2 ⟨a, decide_eq_true ?_⟩, b1, b2, b3, b4⟩
      unfold keeps
      by_cases q1 : s.side = 1
      · refine .inr (.inr fun q2 => hb ⟨b2 ▸ q1, b3 ▸ q2⟩)
      · exact .inr (.inl q1)
    · rintro ⟨s, a, b1, b2, b3, b4⟩
      obtain ⟨a1, a2⟩ := List.mem_filter.1 a
      have hkp := of_decide_eq_true a2
      refine ⟨⟨s, a1, b1, b2, b3, b4⟩, fun ⟨k1, k2⟩ => ?_⟩
      unfold keeps at hkp
      rcases hkp with q | q | q
      · exact q (b1.trans hc.symm)
      · exact q (b2.trans k1)
      · exact q (b3.trans k2)
  rename_i c3
  split
  · refine ⟨rfl, set_rel h f.side h1 ⟨hg.watch, hg.took, hg.sess, hg.num, hg.vs, hg.in_, rfl, hg.latched, ?_, hg.acked, hg.has, hg.wlo, hg.whi, .inl (Int.le_refl _), .inl (Int.le_refl _), ?_⟩⟩
    · show (!decide ((l.get f.side).latched = 0)) = _
      rw [hg.latched]
    · show (0 : Int) ≤ _
      omega
  split
  · exact ⟨rfl, set_rel h f.side h1 (tick_rel hg hn hB)⟩
  split
  · refine ⟨rfl, set_rel h f.side h1 ⟨hg.watch, hg.took, hg.sess, hg.num, hg.vs, hg.in_, hg.since, hg.latched, hg.fresh, ?_, hg.has, hg.wlo, hg.whi, hg.slo, hg.shi, (hg.mono h1).sb⟩⟩
    show ((l.get f.side).acked || (l.get f.side).fresh) = ((m.get f.side).fresh || (m.get f.side).acked)
    rw [hg.acked, hg.fresh, Bool.or_comm]
  split
  · exact ⟨rfl, set_rel h f.side h1 ((anew_rel hg f.side).mono h1)⟩
  · have ho := out_rel hg f l.session
    rw [← h.ses]
    exact ⟨ho.1, set_rel h f.side h1 (ho.2.mono h1)⟩
theorem other_rel {B j : Nat} {sent : List FactS} {l : LineS} {m : RLine} {f : FactS} (h : LRel B j sent l m) (hc : f.conn ≠ (j : Int)) : LRel (B + 1) j (sentR sent f) l.abs m := by
  refine ⟨(h.e0.mono (Nat.le_succ _)).abs, (h.e1.mono (Nat.le_succ _)).abs, h.ses, ?_⟩
  rw [keys_abs]
  intro k
  rw [h.keys k]
  unfold sentR
  split
  · constructor
    · rintro ⟨s, a, b⟩; exact ⟨s, List.mem_append_left _ a, b⟩
    · rintro ⟨s, a, b⟩
      rcases List.mem_append.1 a with a | a
      · exact ⟨s, a, b⟩
      · obtain rfl := List.mem_singleton.1 a
        exact absurd b.1 hc
  split
  · constructor
    · rintro ⟨s, a, b⟩
      exact ⟨s, List.mem_filter.2 ⟨a, decide_eq_true (.inl fun e => hc (e.symm.trans b.1))⟩, b⟩
    · rintro ⟨s, a, b⟩; exact ⟨s, (List.mem_filter.1 a).1, b⟩
  · exact Iff.rfl
theorem ruleJ_at {ls : List LineS} {f : FactS} {l : LineS} {k : Nat} (h : ¬ bad1 ls.length f) (hc : f.conn = (k : Int)) (hl : ls[k]? = some l) : ruleJ ls f none 0 = ((l.rule f none 0).1, ls.set k (l.rule f none 0).2) := by
  unfold ruleJ
  rw [if_neg h, hc, Int.toNat_natCast, hl]
theorem rruleJ_at {ls : List RLine} {sent : List FactS} {f : FactS} {l : RLine} {k : Nat} (h : ¬ rbad1 ls.length f) (hc : f.conn = (k : Int)) (hl : ls[k]? = some l) : rruleJ ls sent f = ((l.rule f (hasSent sent f)).1, ls.set k (l.rule f (hasSent sent f)).2, sentR sent f) := by
  unfold rruleJ
  rw [if_neg h, hc, Int.toNat_natCast, hl]
theorem see_rel {D : JudD} {R : RD} (h : JRel D R) {f : FactS} (hf : f.num < 4294967296) (hB : R.at_ ≤ 1000000) : JRel (D.see f) (R.see f) := by
  unfold JudD.see RD.see
  rw [h.r]
  by_cases h0 : ¬ R.r = 0
  · rw [if_neg h0, if_neg h0]
    exact ⟨by show D.at_ + 1 = R.at_ + 1; rw [h.at_], rfl, h.ra, h.len, fun k => absurd k h0, fun k => absurd k h0⟩
  replace h0 := Decidable.not_not.1 h0
  rw [if_pos h0, if_pos h0]
  by_cases hb : bad1 D.ls.length f
  · have hb2 : rbad1 R.ls.length f := by rw [← h.len]; exact (bad_iff _ _).1 hb
    have e1 : ruleA D.ls f = (1, D.ls.map LineS.abs) := by unfold ruleA ruleJ; rw [if_pos hb]
    have e2 : rruleJ R.ls R.sent f = (1, R.ls, R.sent) := by unfold rruleJ; rw [if_pos hb2]
    rw [e1, e2]
    simp only
    rw [if_neg (show ¬ (1 : Int) = 0 by decide), if_neg (show ¬ (1 : Int) = 0 by decide)]
    exact ⟨by show D.at_ + 1 = R.at_ + 1; rw [h.at_], rfl, by show (D.at_ : Int) = R.at_; rw [h.at_], by show (D.ls.map LineS.abs).length = _; rw [List.length_map, h.len], fun k => (by cases k), fun k => (by cases k)⟩
  · have hb2 : ¬ rbad1 R.ls.length f := by rw [← h.len]; exact fun k => hb ((bad_iff _ _).2 k)
    have hbu := hb
    unfold bad1 at hbu
    obtain ⟨k, hk⟩ : ∃ k : Nat, f.conn = (k : Int) := ⟨f.conn.toNat, by omega⟩
    have hkl : k < D.ls.length := by omega
    have hl := List.getElem?_eq_getElem hkl
    have hm := List.getElem?_eq_getElem (l := R.ls) (i := k) (by rw [← h.len]; exact hkl)
    have hside : f.side = 1 ∨ f.side = 2 := by omega
    obtain ⟨r1, r2⟩ := line_rel (h.lines h0 k _ _ hl hm) hB hf (by omega) hk hside (h.sides h0)
    have e1 : ruleA D.ls f = (((D.ls[k]).rule f none 0).1, (D.ls.set k ((D.ls[k]).rule f none 0).2).map LineS.abs) := by unfold ruleA; rw [ruleJ_at hb hk hl]
    have e2 := rruleJ_at (sent := R.sent) hb2 hk hm
    rw [e1, e2]
    simp only
    rw [r1]
    by_cases hq : ¬ ((R.ls[k]'(by rw [← h.len]; exact hkl)).rule f (hasSent R.sent f)).1 = 0
    · rw [if_neg hq, if_neg hq]
      exact ⟨by show D.at_ + 1 = R.at_ + 1; rw [h.at_], rfl, by show (D.at_ : Int) = R.at_; rw [h.at_], by simp [h.len], fun k => absurd k hq, fun k => absurd k hq⟩
    · replace hq := Decidable.not_not.1 hq
      rw [if_pos hq, if_pos hq]
      refine ⟨by show D.at_ + 1 = R.at_ + 1; rw [h.at_], rfl, h.ra, by simp [h.len], fun _ j l m hj hjm => ?_, fun _ s hs => ?_⟩
      · simp only [List.map_set] at hj
        by_cases e : k = j
        · subst e
          rw [List.getElem?_set_self (by rw [List.length_map]; exact hkl)] at hj
          rw [List.getElem?_set_self (by rw [← h.len]; exact hkl)] at hjm
          cases hj; cases hjm
          exact r2
        · rw [List.getElem?_set_ne e, List.getElem?_map] at hj
          rw [List.getElem?_set_ne e] at hjm
          obtain ⟨l0, hl0, rfl⟩ := Option.map_eq_some_iff.1 hj
          exact other_rel (h.lines h0 j l0 m hl0 hjm) (by rw [hk]; omega)
      · have hs' : s ∈ sentR R.sent f := hs
        unfold sentR at hs'
        split at hs'
        · rcases List.mem_append.1 hs' with a | a
          · exact h.sides h0 s a
          · obtain rfl := List.mem_singleton.1 a; exact hside
        split at hs'
        · exact h.sides h0 s (List.mem_filter.1 hs').1
        · exact h.sides h0 s hs'
theorem see_sent (R : RD) (f : FactS) : (R.see f).sent.length ≤ R.sent.length + 1 := by
  have key : (rruleJ R.ls R.sent f).2.2.length ≤ R.sent.length + 1 := by
    unfold rruleJ
    split; · exact Nat.le_succ _
    split
    · show (sentR R.sent f).length ≤ _
      unfold sentR
      split; · simp
      split
      · exact Nat.le_succ_of_le (List.length_filter_le _ _)
      · exact Nat.le_succ _
    · exact Nat.le_succ _
  unfold RD.see
  split
  · split
    · exact key
    · exact key
  · exact Nat.le_succ _
def RD.sees (R : RD) (fs : List FactS) : RD := fs.foldl RD.see R
theorem rsees_snoc (R : RD) (fs : List FactS) (f : FactS) : R.sees (fs ++ [f]) = (R.sees fs).see f := by unfold RD.sees; rw [List.foldl_append]; rfl
theorem rsee_at (R : RD) (f : FactS) : (R.see f).at_ = R.at_ + 1 := by
  unfold RD.see; split
  · split <;> rfl
  · rfl
theorem rsees_at (R : RD) (fs : List FactS) : (R.sees fs).at_ = R.at_ + fs.length := by
  unfold RD.sees
  induction fs generalizing R with
  | nil => rfl
  | cons f fs ih => rw [List.foldl_cons, ih, rsee_at, List.length_cons]; omega
theorem rsees_sent (R : RD) (fs : List FactS) : (R.sees fs).sent.length ≤ R.sent.length + fs.length := by
  unfold RD.sees
  induction fs generalizing R with
  | nil => exact Nat.le_refl _
  | cons f fs ih => rw [List.foldl_cons, List.length_cons]; have := ih (R.see f); have := see_sent R f; omega
def okW (ws : List Int) : Prop := ∀ w ∈ ws, -9223372036854775808 ≤ w ∧ w ≤ 9223372036854775807
theorem new_rel (w : Int) (h : -9223372036854775808 ≤ w ∧ w ≤ 9223372036854775807) : ERel 0 (EndS.new w) (REnd.new w) :=
  ⟨rfl, rfl, rfl, rfl, rfl, rfl, rfl, rfl, rfl, rfl, fun _ => rfl, h.1, h.2, .inl (Int.le_refl _), .inl (Int.le_refl _), by show (0 : Int) ≤ _; omega⟩
theorem start_rel {hs ds : List Int} (hh : okW hs) (hd : okW ds) : JRel ⟨newD hs ds, 0, 0, 0⟩ ⟨rnewD hs ds, [], 0, 0, 0⟩ := by
  refine ⟨rfl, rfl, rfl, by rw [newD_len, rnewD_len], fun _ i l m hl hm => ?_, fun _ s hs => by cases hs⟩
  have hl' : (newD hs ds)[i]? = some l := hl
  have hm' : (rnewD hs ds)[i]? = some m := hm
  unfold newD at hl'
  unfold rnewD at hm'
  rw [List.getElem?_map] at hl' hm'
  obtain ⟨p, hp, rfl⟩ := Option.map_eq_some_iff.1 hl'
  rw [hp] at hm'
  cases hm'
  have hz := List.getElem?_zip_eq_some.1 hp
  exact ⟨new_rel _ (hh _ (List.mem_of_getElem? hz.1)), new_rel _ (hd _ (List.mem_of_getElem? hz.2)), rfl, fun k => ⟨fun h => (by cases h), fun ⟨s, h, _⟩ => (by cases h)⟩⟩
theorem sees_rel {D : JudD} {R : RD} (h : JRel D R) : ∀ (fs : List FactS), (∀ f ∈ fs, f.num < 4294967296) → R.at_ + fs.length ≤ 1000000 → JRel (D.sees fs) (R.sees fs) := by
  intro fs
  induction fs generalizing D R with
  | nil => exact fun _ _ => h
  | cons f fs ih =>
    intro hf hB
    rw [List.length_cons] at hB
    exact ih (see_rel h (hf f List.mem_cons_self) (by omega)) (fun g hg => hf g (List.mem_cons_of_mem _ hg)) (by rw [rsee_at]; omega)
end Go.Proofs.Ythjimddhnlmlhaa
