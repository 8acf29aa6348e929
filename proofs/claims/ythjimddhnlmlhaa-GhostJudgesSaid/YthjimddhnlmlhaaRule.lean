/- The walk of the rule for one fact; no conditions. -/
import Derived.Test.YthjimddhnlmlhaaEnds
namespace Go.Proofs.Ythjimddhnlmlhaa
open Go.Vc

structure LineS where
  e0 : EndS
  e1 : EndS
  session : Nat
  bm : Nat
  sent : List (Key × Nat)
  clk : Nat
abbrev LineS.cells (l : LineS) : List Value := l.e0.cells ++ (l.e1.cells ++ [.int .u32 (l.session : Int), .map (some l.bm)])
abbrev LineS.setP (l : LineS) : HProp := setB kv (.bool true) l.bm l.sent l.clk
def LineS.keys (l : LineS) : List Key := l.sent.map (·.1)
def LineS.ok (l : LineS) : Prop := l.keys.Nodup ∧ (l.sent.map (·.2)).Nodup ∧ ∀ p ∈ l.sent, p.2 < l.clk
def LineS.set (l : LineS) (s : Int) (e : EndS) : LineS := if s = 2 then { l with e1 := e } else { l with e0 := e }
def LineS.get (l : LineS) (s : Int) : EndS := if s = 2 then l.e1 else l.e0
def badK (s : Nat) (p : Key × Nat) : Bool := decide (p.1.1 = 1) && decide (p.1.2.1 = s)
def LineS.rule (l : LineS) (f : FactS) (va : Option Addr) (vc : Nat) : Int × LineS :=
  if f.kind = 1 then (0, { l with sent := (addL l.sent ((f.side, f.sess, f.num, f.data) : Key) l.clk).1, clk := (addL l.sent ((f.side, f.sess, f.num, f.data) : Key) l.clk).2 })
  else if f.kind = 2 then (((l.get f.side).taken f l.session l.keys va vc).1, l.set f.side ((l.get f.side).taken f l.session l.keys va vc).2)
  else if f.kind = 3 then (0, { l with session := f.sess, sent := l.sent.filter fun p => !badK f.sess p })
  else if f.kind = 4 then (0, l.set f.side { l.get f.side with since := 0, fresh := !decide ((l.get f.side).latched = 0) })
  else if f.kind = 5 then (0, l.set f.side ((l.get f.side).tick f.num))
  else if f.kind = 6 then (0, l.set f.side { l.get f.side with acked := (l.get f.side).acked || (l.get f.side).fresh })
  else if f.kind = 7 then (0, l.set f.side ((l.get f.side).anew f.side))
  else (((l.get f.side).out f l.session).1, l.set f.side ((l.get f.side).out f l.session).2)
def bad1 (n : Nat) (f : FactS) : Prop := f.kind < 1 ∨ 8 < f.kind ∨ f.conn < 0 ∨ (n : Int) ≤ f.conn ∨ (f.side ≠ 1 ∧ f.side ≠ 2)
instance (n : Nat) (f : FactS) : Decidable (bad1 n f) := by unfold bad1; infer_instance
def ruleJ (ls : List LineS) (f : FactS) (va : Option Addr) (vc : Nat) : Int × List LineS :=
  if bad1 ls.length f then (1, ls) else match ls[f.conn.toNat]? with
    | some l => ((l.rule f va vc).1, ls.set f.conn.toNat (l.rule f va vc).2)
    | none => (1, ls)
def lcells (ls : List LineS) : List Value := ls.flatMap LineS.cells
def lineP (l : LineS) : List HProp := [l.e0.own, l.e1.own, l.setP]
def ownLs (ls : List LineS) : HProp := allP (ls.flatMap lineP)

theorem split_at {ls : List LineS} {f : FactS} (h : ¬ bad1 ls.length f) : ∃ l1 l l2, ls = l1 ++ l :: l2 ∧ f.conn = (l1.length : Int) := by
  unfold bad1 at h
  have h1 : f.conn.toNat < ls.length := by omega
  refine ⟨ls.take f.conn.toNat, ls[f.conn.toNat], ls.drop (f.conn.toNat + 1), ?_, ?_⟩
  · rw [List.getElem_cons_drop h1, List.take_append_drop]
  · rw [List.length_take]; omega
theorem ruleJ_eq {l1 l2 : List LineS} {l : LineS} {f : FactS} {va : Option Addr} {vc : Nat} {r : Int} {l' : LineS} (h : ¬ bad1 (l1 ++ l :: l2).length f) (hc : f.conn = (l1.length : Int)) (hx : l.rule f va vc = (r, l')) : ruleJ (l1 ++ l :: l2) f va vc = (r, l1 ++ l' :: l2) := by
  unfold ruleJ
  rw [if_neg h, hc, Int.toNat_natCast]
  simp [hx]
theorem lcells_len (ls : List LineS) : (lcells ls).length = ls.length * 22 := by
  induction ls with
  | nil => rfl
  | cons l ls ih => unfold lcells at ih ⊢; rw [List.flatMap_cons, List.length_append, ih]; simp; omega
theorem lcells_mid (l1 l2 : List LineS) (l : LineS) (rest : List Value) : lcells (l1 ++ l :: l2) ++ rest = lcells l1 ++ (l.cells ++ (lcells l2 ++ rest)) := by
  simp [lcells, List.flatMap_append, List.flatMap_cons, List.append_assoc]
theorem ownLs_split {w : World} {B : World} {l1 l2 : List LineS} {l : LineS} {F : List HProp} (h : Sat B w (ownLs (l1 ++ l :: l2) :: F)) : Sat B w (ownLs l1 :: l.e0.own :: l.e1.own :: l.setP :: ownLs l2 :: F) := by
  have h1 := h.unpack
  rw [List.flatMap_append, List.flatMap_cons, List.append_assoc] at h1
  have h2 := Sat.pack (M := l1.flatMap lineP) h1
  have h3 : Sat B w ([ownLs l1, l.e0.own, l.e1.own, l.setP] ++ (l2.flatMap lineP ++ F)) := h2.imp fun f h => by simpa [lineP, ownLs] using h
  have h4 : Sat B w (l2.flatMap lineP ++ (F ++ [ownLs l1, l.e0.own, l.e1.own, l.setP])) := h3.perm (by rw [← List.append_assoc (l2.flatMap lineP)]; exact List.perm_append_comm)
  have h5 := Sat.pack h4
  refine h5.perm ?_
  show ((ownLs l2) :: (F ++ [ownLs l1, l.e0.own, l.e1.own, l.setP])).Perm (ownLs l1 :: l.e0.own :: l.e1.own :: l.setP :: ownLs l2 :: F)
  refine (List.Perm.cons _ List.perm_append_comm).trans ?_
  show ([ownLs l2] ++ ([ownLs l1, l.e0.own, l.e1.own, l.setP] ++ F)).Perm ([ownLs l1, l.e0.own, l.e1.own, l.setP] ++ ([ownLs l2] ++ F))
  rw [← List.append_assoc, ← List.append_assoc]
  exact List.Perm.append_right _ List.perm_append_comm
theorem ownLs_join {w : World} {B : World} {l1 l2 : List LineS} {l : LineS} {F : List HProp} (h : Sat B w (ownLs l1 :: l.e0.own :: l.e1.own :: l.setP :: ownLs l2 :: F)) : Sat B w (ownLs (l1 ++ l :: l2) :: F) := by
  have h1 : Sat B w (ownLs l2 :: ([ownLs l1, l.e0.own, l.e1.own, l.setP] ++ F)) := h.perm (by
    show ([ownLs l1, l.e0.own, l.e1.own, l.setP] ++ ([ownLs l2] ++ F)).Perm ([ownLs l2] ++ ([ownLs l1, l.e0.own, l.e1.own, l.setP] ++ F))
    rw [← List.append_assoc, ← List.append_assoc]
    exact List.Perm.append_right _ List.perm_append_comm)
  have h2 := h1.unpack
  have h3 : Sat B w (ownLs l1 :: ([l.e0.own, l.e1.own, l.setP] ++ (l2.flatMap lineP ++ F))) := h2.perm (by
    show (l2.flatMap lineP ++ ([ownLs l1] ++ ([l.e0.own, l.e1.own, l.setP] ++ F))).Perm ([ownLs l1] ++ ([l.e0.own, l.e1.own, l.setP] ++ (l2.flatMap lineP ++ F)))
    rw [← List.append_assoc, ← List.append_assoc, ← List.append_assoc, ← List.append_assoc]
    refine List.Perm.append_right _ ?_
    rw [List.append_assoc]
    exact List.perm_append_comm)
  have h4 := h3.unpack
  refine Sat.pack (h4.imp fun f h => ?_)
  rw [List.flatMap_append, List.flatMap_cons, List.append_assoc]
  simpa [lineP] using h


/-- One end of a line, seen as a window of its own. -/
theorem view (l : LineS) (s : Int) (hs : s = 1 ∨ s = 2) (pre post : List Value) : ∃ (pre2 post2 : List Value) (e o : EndS), l.get s = e ∧ pre2.length = pre.length + (s - 1).toNat * 10 ∧ pre ++ (l.cells ++ post) = pre2 ++ (e.cells ++ post2) ∧
    (∀ x, pre ++ ((l.set s x).cells ++ post) = pre2 ++ (x.cells ++ post2)) ∧ (∀ x B w F, Sat B w (x.own :: o.own :: F) → Sat B w ((l.set s x).e0.own :: (l.set s x).e1.own :: F)) ∧ (∀ B w F, Sat B w (l.e0.own :: l.e1.own :: F) → Sat B w (e.own :: o.own :: F)) ∧
    (∀ x, (l.set s x).setP = l.setP) ∧ (∀ B w F, Sat B w (e.own :: o.own :: F) → Sat B w (l.e0.own :: l.e1.own :: F)) := by
  rcases hs with rfl | rfl
  · refine ⟨pre, l.e1.cells ++ ([.int .u32 (l.session : Int), .map (some l.bm)] ++ post), l.e0, l.e1, rfl, rfl, by simp, fun x => by simp [LineS.set], fun x B w F h => h, fun _ _ _ h => h, fun _ => rfl, fun _ _ _ h => h⟩
  · refine ⟨pre ++ l.e0.cells, [.int .u32 (l.session : Int), .map (some l.bm)] ++ post, l.e1, l.e0, rfl, by simp, by simp, fun x => by simp [LineS.set], fun x B w F h => h.perm (.swap _ _ _), fun _ _ _ h => h.perm (.swap _ _ _), fun _ => rfl, fun _ _ _ h => h.perm (.swap _ _ _)⟩
abbrev judB (bj : Nat) (la : Option Addr) (n lc : Nat) (at_ r ra : Int) : HProp := blk bj 58 [.slice la n lc, .int .i64 at_, .int .i64 r, .int .i64 ra]
theorem line_shut {B w : World} {F : List HProp} {R0 A : HProp} {l1 l2 : List LineS} {l : LineS} {bl cap : Nat} {rest : List Value} (l' : LineS) (h2 : (l1 ++ l :: l2).length ≤ cap) (h3 : cap ≤ maxLen) (h4 : (lcells (l1 ++ l :: l2)).length + rest.length = cap * 22)
    (h : Sat B w (R0 :: blk bl 64 (lcells l1 ++ (l'.cells ++ (lcells l2 ++ rest))) :: l'.e0.own :: l'.e1.own :: l'.setP :: ownLs l1 :: ownLs l2 :: A :: F)) :
    Sat B w ([R0, sown 64 22 (.slice (some ⟨bl, 0, none⟩) (l1 ++ l :: l2).length cap) (l1 ++ l :: l2).length (lcells (l1 ++ l' :: l2)), ownLs (l1 ++ l' :: l2), A] ++ F) := by
  rw [← lcells_mid] at h
  have e1 : (lcells (l1 ++ l' :: l2)).length = (l1 ++ l :: l2).length * 22 := by rw [lcells_len]; simp
  have e2 : (lcells (l1 ++ l :: l2)).length = (l1 ++ l :: l2).length * 22 := lcells_len _
  have h5 := h.fin (L1 := [ownLs l1, l'.e0.own, l'.e1.own, l'.setP, ownLs l2, R0, sown 64 22 (.slice (some ⟨bl, 0, none⟩) (l1 ++ l :: l2).length cap) (l1 ++ l :: l2).length (lcells (l1 ++ l' :: l2)), A]) (F := F)
    (.cons (.there (.there (.there (.there (.there .here))))) (.cons (.there (.there .here)) (.cons (.there (.there .here)) (.cons (.there (.there .here)) (.cons (.there (.there .here)) (.cons .here (.fold (M := [blk bl 64 (lcells (l1 ++ l' :: l2) ++ rest)]) (own_fold rfl e1 h2 h3 (by omega)) (.cons .here (.cons .here .done)))))))))
  have h6 := ownLs_join h5
  exact h6.fin (L1 := [R0, _, _, A]) (F := F) (.cons (.there .here) (.cons (.there .here) (.cons .here (.cons .here .done))))
theorem inj_nodup {α β : Type} {f : α → β} {a b : α} : ∀ {l : List α}, (l.map f).Nodup → a ∈ l → b ∈ l → f a = f b → a = b
  | [], _, h, _, _ => by cases h
  | c :: l, hn, ha, hb, e => by
    obtain ⟨h1, h2⟩ := List.nodup_cons.1 hn
    rcases List.mem_cons.1 ha with rfl | ha' <;> rcases List.mem_cons.1 hb with rfl | hb'
    · rfl
    · exact absurd (List.mem_map.2 ⟨b, hb', e.symm⟩) h1
    · exact absurd (List.mem_map.2 ⟨a, ha', e⟩) h1
    · exact inj_nodup h2 ha' hb' e
def fl (l : List (Key × Nat)) (s : Nat) (seen : Array Nat) : List (Key × Nat) := l.filter fun p => !(badK s p && seen.contains p.2)
theorem fl_sub (l : List (Key × Nat)) (s : Nat) (seen : Array Nat) : (fl l s seen).Sublist l := List.filter_sublist
theorem fl_nil (l : List (Key × Nat)) (s : Nat) : fl l s #[] = l := by unfold fl; simp
theorem fl_end {l : List (Key × Nat)} {s : Nat} {seen : Array Nat} (h : ∀ p ∈ fl l s seen, p.2 ∈ seen) : fl l s seen = l.filter fun p => !badK s p := by
  unfold fl at h ⊢
  refine List.filter_congr fun p hp => ?_
  by_cases hc : p.2 ∈ seen
  · simp [hc]
  · cases hb : badK s p with
    | false => simp
    | true => exact absurd (h p (List.mem_filter.2 ⟨hp, by simp [hb, hc]⟩)) hc
theorem fl_del {l : List (Key × Nat)} {s : Nat} {seen : Array Nat} {p : Key × Nat} (hk : (l.map (·.1)).Nodup) (hn : (l.map (·.2)).Nodup) (hp : p ∈ l) (hb : badK s p = true) : delL (fl l s seen) p.1 = fl l s (seen.push p.2) := by
  rw [delL_filter _ (hk.sublist ((fl_sub l s seen).map _))]
  unfold fl
  rw [List.filter_filter]
  refine List.filter_congr fun q hq => ?_
  have hki : q.1 = p.1 → q = p := fun e => inj_nodup hk hq hp e
  have hni : q.2 = p.2 → q = p := fun e => inj_nodup hn hq hp e
  by_cases e : q = p
  · subst e; simp [hb]
  · have e1 : q.1 ≠ p.1 := fun h => e (hki h)
    have e2 : q.2 ≠ p.2 := fun h => e (hni h)
    simp [e1, e2]
theorem fl_skip {l : List (Key × Nat)} {s : Nat} {seen : Array Nat} {p : Key × Nat} (hn : (l.map (·.2)).Nodup) (hp : p ∈ l) (hb : badK s p = false) : fl l s seen = fl l s (seen.push p.2) := by
  unfold fl
  refine List.filter_congr fun q hq => ?_
  by_cases e : q = p
  · subst e; simp [hb]
  · have e2 : q.2 ≠ p.2 := fun h => e (inj_nodup hn hq hp h)
    simp [e2]
theorem fl_mu {l : List (Key × Nat)} {seen : Array Nat} {p : Key × Nat} (hp : p ∈ l) (hs : p.2 ∉ seen) : (l.filter fun q => !(seen.push p.2).contains q.2).length < (l.filter fun q => !seen.contains q.2).length := by
  have e : (l.filter fun q => !(seen.push p.2).contains q.2) = (l.filter fun q => !seen.contains q.2).filter fun q => decide (q.2 ≠ p.2) := by
    rw [List.filter_filter]
    refine List.filter_congr fun q _ => ?_
    by_cases e : q.2 = p.2 <;> simp [e]
  rw [e]
  exact List.length_filter_lt_length_iff_exists.2 ⟨p, List.mem_filter.2 ⟨hp, by simpa using hs⟩, by simp⟩


theorem anew_own (e : EndS) (s : Int) (f) (h : sepL [] f) : (e.anew s).own f := by
  unfold EndS.anew EndS.own
  split <;> exact nil_fold f h

theorem rule_t {bj : Nat} {ls : List LineS} {la : Option Addr} {lc : Nat} {at_ r ra : Int} (f : FactS) {a : Option Addr} {c : Nat} {A : HProp} (hr : ∀ B w, Sat B w [A] → Rds w 1 (.slice a f.data.length c) f.data.length (bv f.data)) (hm : f.data.length ≤ 140737488355328) (hnum : f.num < 4294967296) (hok : ∀ l ∈ ls, l.ok) : Tri Try.prog 18 #[.pointer (some ⟨bj, 0, none⟩), .agg ⟨f.cells (.slice a f.data.length c)⟩] [judB bj la ls.length lc at_ r ra, sown 64 22 (.slice la ls.length lc) ls.length (lcells ls), ownLs ls, A] (fun v L => ∃ va vc, v = .int .i64 (ruleJ ls f va vc).1 ∧ L = [judB bj la ls.length lc at_ r ra, sown 64 22 (.slice la ls.length lc) ls.length (lcells (ruleJ ls f va vc).2), ownLs (ruleJ ls f va vc).2, A]) := by
  refine tri_of Try.call18 Try.func18 rfl fun B F => ?_
  refine gc_seq ?_
  refine gc_region ?_
  refine g_eff (s_bx) ?_
  rintro _ _ ⟨b3, rfl, rfl⟩
  refine g_ev (e_as) ?_
  refine g_nil ?_
  refine gc_seq ?_
  refine gc_seq ?_
  refine gc_cut (fun E L => E 0 = .pointer (some ⟨bj, 0, none⟩) ∧ E 3 = .pointer (some ⟨b3, 0, none⟩) ∧ E 40 = .bool (decide (bad1 ls.length f)) ∧ ∀ w, Sat B w L → Sat B w (blk b3 43 (f.cells (.slice a f.data.length c)) :: judB bj la ls.length lc at_ r ra :: sown 64 22 (.slice la ls.length lc) ls.length (lcells ls) :: ownLs ls :: A :: F)) ?_ ?_
  · skip
    refine gc_draw (D := []) (fin := none) (plan := [(true, 0), (true, 1), (true, 2), (true, 3), (true, 4), (true, 5), (true, 6), (true, 7), (true, 8), (true, 9), (true, 10), (true, 11), (true, 12), (true, 13), (true, 14), (true, 15), (true, 16), (true, 17), (true, 18), (true, 19), (true, 20), (true, 21), (true, 22), (true, 23), (true, 24), (true, 25), (true, 26), (true, 27), (true, 28), (true, 29), (true, 30), (true, 31), (true, 32)]) rfl (by kernel_rfl) (by kernel_rfl) rfl .nil ?_
    refine gp_ev rfl (e_fa Try.underlying43 rfl rfl Try.sizeOf38) ?_
    refine gp_ev rfl (e_ld Try.underlying38 rfl (by repeat ((conv => arg 2; whnf); first | with_reducible exact .here | ((with_reducible refine Del.hereC ?_); rfl) | ((with_reducible refine Del.hereS ?_ ?_ ?_) <;> rfl) | exact .here | apply Del.there)) rfl) ?_
    refine gp_ev rfl (e_lt rfl rfl) ?_
    refine gp_ev rfl (e_mv) ?_
    first | refine gp_dec 11 rfl (fun c11 => ?_) (fun c11 => ?_) | refine gp_ndec 11 rfl (fun c11 => ?_) (fun c11 => ?_) | refine gp_bool 11 rfl (fun c11 => ?_) (fun c11 => ?_)
    · skip
      refine gp_not rfl ?_
      refine gp_not rfl ?_
      refine gp_not rfl ?_
      refine gp_ev rfl (e_pk rfl) ?_
      refine gp_ev rfl (e_mv) ?_
      refine gp_not rfl ?_
      refine gp_not rfl ?_
      refine gp_not rfl ?_
      refine gp_ev rfl (e_pk rfl) ?_
      refine gp_ev rfl (e_mv) ?_
      refine gp_not rfl ?_
      refine gp_not rfl ?_
      refine gp_not rfl ?_
      refine gp_not rfl ?_
      refine gp_not rfl ?_
      refine gp_not rfl ?_
      refine gp_not rfl ?_
      refine gp_not rfl ?_
      refine gp_ev rfl (e_pk rfl) ?_
      refine gp_ev rfl (e_mv) ?_
      refine gp_not rfl ?_
      refine gp_not rfl ?_
      refine gp_not rfl ?_
      refine gp_not rfl ?_
      refine gp_not rfl ?_
      refine gp_not rfl ?_
      refine gp_not rfl ?_
      refine gp_not rfl ?_
      refine gp_ev rfl (e_pk rfl) ?_
      refine gp_nil ?_
      exact ⟨(by (conv => lhs; whnf); try first | rfl | (refine congrArg Value.bool ?_; simp_all) | simp_all), (by (conv => lhs; whnf); try first | rfl | (refine congrArg Value.bool ?_; simp_all) | simp_all), (by (conv => lhs; whnf); refine congrArg Value.bool ?_; rw [Bool.eq_iff_iff, decide_eq_true_iff]; clear hr; unfold bad1; first | (simp_all; done) | (simp_all; omega) | (simp; omega)), (fun _ h => h.fin (L1 := [blk b3 43 (f.cells (.slice a f.data.length c)), judB bj la ls.length lc at_ r ra, sown 64 22 (.slice la ls.length lc) ls.length (lcells ls), ownLs ls, A]) (F := F) (by repeat ((conv => arg 1; whnf); (conv => arg 2; whnf); first | with_reducible exact .done | exact Fin.all _ | refine .cons (by repeat ((conv => arg 2; whnf); first | with_reducible exact .here | ((with_reducible refine Del.hereC ?_); rfl) | ((with_reducible refine Del.hereS ?_ ?_ ?_) <;> rfl) | exact .here | apply Del.there)) ?_ | refine .drop ?_)))⟩
    · skip
      refine gp_ev rfl (e_fa Try.underlying43 rfl rfl Try.sizeOf38) ?_
      refine gp_ev rfl (e_ld Try.underlying38 rfl (by repeat ((conv => arg 2; whnf); first | with_reducible exact .here | ((with_reducible refine Del.hereC ?_); rfl) | ((with_reducible refine Del.hereS ?_ ?_ ?_) <;> rfl) | exact .here | apply Del.there)) rfl) ?_
      refine gp_ev rfl (e_gt rfl rfl) ?_
      refine gp_ev rfl (e_pk rfl) ?_
      refine gp_ev rfl (e_mv) ?_
      first | refine gp_dec 16 rfl (fun c16 => ?_) (fun c16 => ?_) | refine gp_ndec 16 rfl (fun c16 => ?_) (fun c16 => ?_) | refine gp_bool 16 rfl (fun c16 => ?_) (fun c16 => ?_)
      · skip
        refine gp_not rfl ?_
        refine gp_not rfl ?_
        refine gp_not rfl ?_
        refine gp_ev rfl (e_pk rfl) ?_
        refine gp_ev rfl (e_mv) ?_
        refine gp_not rfl ?_
        refine gp_not rfl ?_
        refine gp_not rfl ?_
        refine gp_not rfl ?_
        refine gp_not rfl ?_
        refine gp_not rfl ?_
        refine gp_not rfl ?_
        refine gp_not rfl ?_
        refine gp_ev rfl (e_pk rfl) ?_
        refine gp_ev rfl (e_mv) ?_
        refine gp_not rfl ?_
        refine gp_not rfl ?_
        refine gp_not rfl ?_
        refine gp_not rfl ?_
        refine gp_not rfl ?_
        refine gp_not rfl ?_
        refine gp_not rfl ?_
        refine gp_not rfl ?_
        refine gp_ev rfl (e_pk rfl) ?_
        refine gp_nil ?_
        exact ⟨(by (conv => lhs; whnf); try first | rfl | (refine congrArg Value.bool ?_; simp_all) | simp_all), (by (conv => lhs; whnf); try first | rfl | (refine congrArg Value.bool ?_; simp_all) | simp_all), (by (conv => lhs; whnf); refine congrArg Value.bool ?_; rw [Bool.eq_iff_iff, decide_eq_true_iff]; clear hr; unfold bad1; first | (simp_all; done) | (simp_all; omega) | (simp; omega)), (fun _ h => h.fin (L1 := [blk b3 43 (f.cells (.slice a f.data.length c)), judB bj la ls.length lc at_ r ra, sown 64 22 (.slice la ls.length lc) ls.length (lcells ls), ownLs ls, A]) (F := F) (by repeat ((conv => arg 1; whnf); (conv => arg 2; whnf); first | with_reducible exact .done | exact Fin.all _ | refine .cons (by repeat ((conv => arg 2; whnf); first | with_reducible exact .here | ((with_reducible refine Del.hereC ?_); rfl) | ((with_reducible refine Del.hereS ?_ ?_ ?_) <;> rfl) | exact .here | apply Del.there)) ?_ | refine .drop ?_)))⟩
      · skip
        refine gp_ev rfl (e_fa Try.underlying43 rfl rfl Try.sizeOf3) ?_
        refine gp_ev rfl (e_ld Try.underlying3 rfl (by repeat ((conv => arg 2; whnf); first | with_reducible exact .here | ((with_reducible refine Del.hereC ?_); rfl) | ((with_reducible refine Del.hereS ?_ ?_ ?_) <;> rfl) | exact .here | apply Del.there)) rfl) ?_
        refine gp_ev rfl (e_lt rfl rfl) ?_
        refine gp_ev rfl (e_pk rfl) ?_
        refine gp_ev rfl (e_mv) ?_
        first | refine gp_dec 21 rfl (fun c21 => ?_) (fun c21 => ?_) | refine gp_ndec 21 rfl (fun c21 => ?_) (fun c21 => ?_) | refine gp_bool 21 rfl (fun c21 => ?_) (fun c21 => ?_)
        · skip
          refine gp_not rfl ?_
          refine gp_not rfl ?_
          refine gp_not rfl ?_
          refine gp_not rfl ?_
          refine gp_not rfl ?_
          refine gp_not rfl ?_
          refine gp_not rfl ?_
          refine gp_not rfl ?_
          refine gp_ev rfl (e_pk rfl) ?_
          refine gp_ev rfl (e_mv) ?_
          refine gp_not rfl ?_
          refine gp_not rfl ?_
          refine gp_not rfl ?_
          refine gp_not rfl ?_
          refine gp_not rfl ?_
          refine gp_not rfl ?_
          refine gp_not rfl ?_
          refine gp_not rfl ?_
          refine gp_ev rfl (e_pk rfl) ?_
          refine gp_nil ?_
          exact ⟨(by (conv => lhs; whnf); try first | rfl | (refine congrArg Value.bool ?_; simp_all) | simp_all), (by (conv => lhs; whnf); try first | rfl | (refine congrArg Value.bool ?_; simp_all) | simp_all), (by (conv => lhs; whnf); refine congrArg Value.bool ?_; rw [Bool.eq_iff_iff, decide_eq_true_iff]; clear hr; unfold bad1; first | (simp_all; done) | (simp_all; omega) | (simp; omega)), (fun _ h => h.fin (L1 := [blk b3 43 (f.cells (.slice a f.data.length c)), judB bj la ls.length lc at_ r ra, sown 64 22 (.slice la ls.length lc) ls.length (lcells ls), ownLs ls, A]) (F := F) (by repeat ((conv => arg 1; whnf); (conv => arg 2; whnf); first | with_reducible exact .done | exact Fin.all _ | refine .cons (by repeat ((conv => arg 2; whnf); first | with_reducible exact .here | ((with_reducible refine Del.hereC ?_); rfl) | ((with_reducible refine Del.hereS ?_ ?_ ?_) <;> rfl) | exact .here | apply Del.there)) ?_ | refine .drop ?_)))⟩
        · skip
          refine gp_ev rfl (e_fa Try.underlying43 rfl rfl Try.sizeOf3) ?_
          refine gp_ev rfl (e_ld Try.underlying3 rfl (by repeat ((conv => arg 2; whnf); first | with_reducible exact .here | ((with_reducible refine Del.hereC ?_); rfl) | ((with_reducible refine Del.hereS ?_ ?_ ?_) <;> rfl) | exact .here | apply Del.there)) rfl) ?_
          refine gp_ev rfl (e_mv) ?_
          refine gp_ev rfl (e_nc rfl) ?_
          refine gp_ev rfl (e_fa Try.underlying58 rfl rfl Try.sizeOf56) ?_
          refine gp_ev rfl (e_ld Try.underlying56 rfl (by repeat ((conv => arg 2; whnf); first | with_reducible exact .here | ((with_reducible refine Del.hereC ?_); rfl) | ((with_reducible refine Del.hereS ?_ ?_ ?_) <;> rfl) | exact .here | apply Del.there)) rfl) ?_
          refine gp_ev rfl (e_len Try.underlying56 rfl) ?_
          refine gp_ev rfl (e_ge rfl rfl) ?_
          refine gp_ev rfl (e_pk rfl) ?_
          refine gp_ev rfl (e_mv) ?_
          first | refine gp_dec 31 rfl (fun c31 => ?_) (fun c31 => ?_) | refine gp_ndec 31 rfl (fun c31 => ?_) (fun c31 => ?_) | refine gp_bool 31 rfl (fun c31 => ?_) (fun c31 => ?_)
          · skip
            refine gp_not rfl ?_
            refine gp_not rfl ?_
            refine gp_not rfl ?_
            refine gp_not rfl ?_
            refine gp_not rfl ?_
            refine gp_not rfl ?_
            refine gp_not rfl ?_
            refine gp_not rfl ?_
            refine gp_ev rfl (e_pk rfl) ?_
            refine gp_nil ?_
            exact ⟨(by (conv => lhs; whnf); try first | rfl | (refine congrArg Value.bool ?_; simp_all) | simp_all), (by (conv => lhs; whnf); try first | rfl | (refine congrArg Value.bool ?_; simp_all) | simp_all), (by (conv => lhs; whnf); refine congrArg Value.bool ?_; rw [Bool.eq_iff_iff, decide_eq_true_iff]; clear hr; unfold bad1; first | (simp_all; done) | (simp_all; omega) | (simp; omega)), (fun _ h => h.fin (L1 := [blk b3 43 (f.cells (.slice a f.data.length c)), judB bj la ls.length lc at_ r ra, sown 64 22 (.slice la ls.length lc) ls.length (lcells ls), ownLs ls, A]) (F := F) (by repeat ((conv => arg 1; whnf); (conv => arg 2; whnf); first | with_reducible exact .done | exact Fin.all _ | refine .cons (by repeat ((conv => arg 2; whnf); first | with_reducible exact .here | ((with_reducible refine Del.hereC ?_); rfl) | ((with_reducible refine Del.hereS ?_ ?_ ?_) <;> rfl) | exact .here | apply Del.there)) ?_ | refine .drop ?_)))⟩
          · skip
            refine gp_ev rfl (e_fa Try.underlying43 rfl rfl Try.sizeOf39) ?_
            refine gp_ev rfl (e_ld Try.underlying39 rfl (by repeat ((conv => arg 2; whnf); first | with_reducible exact .here | ((with_reducible refine Del.hereC ?_); rfl) | ((with_reducible refine Del.hereS ?_ ?_ ?_) <;> rfl) | exact .here | apply Del.there)) rfl) ?_
            refine gp_ev rfl (e_ne rfl rfl) ?_
            refine gp_ev rfl (e_mv) ?_
            first | refine gp_dec 35 rfl (fun c35 => ?_) (fun c35 => ?_) | refine gp_ndec 35 rfl (fun c35 => ?_) (fun c35 => ?_) | refine gp_bool 35 rfl (fun c35 => ?_) (fun c35 => ?_)
            · skip
              refine gp_ev rfl (e_fa Try.underlying43 rfl rfl Try.sizeOf39) ?_
              refine gp_ev rfl (e_ld Try.underlying39 rfl (by repeat ((conv => arg 2; whnf); first | with_reducible exact .here | ((with_reducible refine Del.hereC ?_); rfl) | ((with_reducible refine Del.hereS ?_ ?_ ?_) <;> rfl) | exact .here | apply Del.there)) rfl) ?_
              refine gp_ev rfl (e_ne rfl rfl) ?_
              refine gp_ev rfl (e_pk rfl) ?_
              refine gp_ev rfl (e_pk rfl) ?_
              refine gp_nil ?_
              exact ⟨(by (conv => lhs; whnf); try first | rfl | (refine congrArg Value.bool ?_; simp_all) | simp_all), (by (conv => lhs; whnf); try first | rfl | (refine congrArg Value.bool ?_; simp_all) | simp_all), (by (conv => lhs; whnf); refine congrArg Value.bool ?_; rw [Bool.eq_iff_iff, decide_eq_true_iff]; clear hr; unfold bad1; first | (simp_all; done) | (simp_all; omega) | (simp; omega)), (fun _ h => h.fin (L1 := [blk b3 43 (f.cells (.slice a f.data.length c)), judB bj la ls.length lc at_ r ra, sown 64 22 (.slice la ls.length lc) ls.length (lcells ls), ownLs ls, A]) (F := F) (by repeat ((conv => arg 1; whnf); (conv => arg 2; whnf); first | with_reducible exact .done | exact Fin.all _ | refine .cons (by repeat ((conv => arg 2; whnf); first | with_reducible exact .here | ((with_reducible refine Del.hereC ?_); rfl) | ((with_reducible refine Del.hereS ?_ ?_ ?_) <;> rfl) | exact .here | apply Del.there)) ?_ | refine .drop ?_)))⟩
            · skip
              refine gp_not rfl ?_
              refine gp_not rfl ?_
              refine gp_not rfl ?_
              refine gp_ev rfl (e_pk rfl) ?_
              refine gp_ev rfl (e_pk rfl) ?_
              refine gp_nil ?_
              exact ⟨(by (conv => lhs; whnf); try first | rfl | (refine congrArg Value.bool ?_; simp_all) | simp_all), (by (conv => lhs; whnf); try first | rfl | (refine congrArg Value.bool ?_; simp_all) | simp_all), (by (conv => lhs; whnf); refine congrArg Value.bool ?_; rw [Bool.eq_iff_iff, decide_eq_true_iff]; clear hr; unfold bad1; first | (simp_all; done) | (simp_all; omega) | (simp; omega)), (fun _ h => h.fin (L1 := [blk b3 43 (f.cells (.slice a f.data.length c)), judB bj la ls.length lc at_ r ra, sown 64 22 (.slice la ls.length lc) ls.length (lcells ls), ownLs ls, A]) (F := F) (by repeat ((conv => arg 1; whnf); (conv => arg 2; whnf); first | with_reducible exact .done | exact Fin.all _ | refine .cons (by repeat ((conv => arg 2; whnf); first | with_reducible exact .here | ((with_reducible refine Del.hereC ?_); rfl) | ((with_reducible refine Del.hereS ?_ ?_ ?_) <;> rfl) | exact .here | apply Del.there)) ?_ | refine .drop ?_)))⟩
  · rintro E L ⟨s0, s3, s40, hL⟩
    refine gc_imp hL ?_
    refine gc_slot 0 _ ?_ s0
    refine gc_slot 3 _ ?_ s3
    refine gc_slot 40 _ ?_ s40
    clear hL s0 s3 s40
    first | refine gc_dec rfl (fun c40 => ?_) (fun c40 => ?_) | refine gc_ndec rfl (fun c40 => ?_) (fun c40 => ?_) | refine gc_cond rfl (fun c40 => ?_) (fun c40 => ?_)
    · skip
      refine gc_seq ?_
      refine gc_region ?_
      refine g_ev (e_as) ?_
      refine g_nil ?_
      refine gc_ret ?_
      exact ret1 (v := .int .i64 1) (L1 := [judB bj la ls.length lc at_ r ra, sown 64 22 (.slice la ls.length lc) ls.length (lcells ls), ownLs ls, A]) rfl (by (conv => lhs; whnf); try rfl) ⟨none, 0, by unfold ruleJ; rw [if_pos c40], by unfold ruleJ; rw [if_pos c40]⟩ (fun _ h => h.fin (by repeat ((conv => arg 1; whnf); (conv => arg 2; whnf); first | with_reducible exact .done | exact Fin.all _ | refine .cons (by repeat ((conv => arg 2; whnf); first | with_reducible exact .here | ((with_reducible refine Del.hereC ?_); rfl) | ((with_reducible refine Del.hereS ?_ ?_ ?_) <;> rfl) | exact .here | apply Del.there)) ?_ | refine .drop ?_)))
    · skip
      refine gc_skip ?_
      refine gc_seq ?_
      obtain ⟨l1, l, l2, rfl, hconn⟩ := split_at c40
      have hsd : f.side = 1 ∨ f.side = 2 := by unfold bad1 at c40; omega
      have hln : l.ok := hok l (by simp)
      refine gc_own (m := (l1 ++ l :: l2).length) (by simp; omega) (by repeat ((conv => arg 2; whnf); first | with_reducible exact .here | ((with_reducible refine Del.hereC ?_); rfl) | ((with_reducible refine Del.hereS ?_ ?_ ?_) <;> rfl) | exact .here | apply Del.there)) fun bl cap rest hlv hle hmax hlen hrest => ?_
      injection hlv with hlv1 hlv2 hlv3
      subst hlv1; subst hlv3
      obtain ⟨pre2, post2, e, o, hget, hp2, hv1, hv2, hv3, hv4, hv5, hv6⟩ := view l f.side hsd (lcells l1) (lcells l2 ++ rest)
      refine gc_imp (L' := judB bj (some ⟨bl, 0, none⟩) (l1 ++ l :: l2).length lc at_ r ra :: blk bl 64 (pre2 ++ (e.cells ++ post2)) :: e.own :: o.own :: l.setP :: ownLs l1 :: ownLs l2 :: blk b3 43 (f.cells (.slice a f.data.length c)) :: A :: F) (fun w h => ?_) ?_
      · rw [lcells_mid, hv1] at h
        have h1 := ownLs_split (h.fin (L1 := [ownLs (l1 ++ l :: l2), judB bj (some ⟨bl, 0, none⟩) (l1 ++ l :: l2).length lc at_ r ra, blk bl 64 (pre2 ++ (e.cells ++ post2)), blk b3 43 (f.cells (.slice a f.data.length c)), A]) (F := F) (by repeat ((conv => arg 1; whnf); (conv => arg 2; whnf); first | with_reducible exact .done | exact Fin.all _ | refine .cons (by repeat ((conv => arg 2; whnf); first | with_reducible exact .here | ((with_reducible refine Del.hereC ?_); rfl) | ((with_reducible refine Del.hereS ?_ ?_ ?_) <;> rfl) | exact .here | apply Del.there)) ?_ | refine .drop ?_)))
        have h2 := hv4 _ _ _ (h1.perm ((List.Perm.swap _ _ _).trans (List.Perm.cons _ (List.Perm.swap _ _ _))))
        exact h2.fin (L1 := [_, _, _, _, _, _, _, _, _]) (F := F) (.cons (.there (.there (.there (.there (.there .here))))) (.cons (.there (.there (.there (.there (.there .here))))) (.cons .here (.cons .here (.cons (.there .here) (.cons .here (.cons .here (.cons .here (.cons .here .done)))))))))
      have hshut : ∀ (X : EndS) B w F, Sat B w (judB bj (some ⟨bl, 0, none⟩) (l1 ++ l :: l2).length lc at_ r ra :: blk bl 64 (pre2 ++ (X.cells ++ post2)) :: X.own :: o.own :: l.setP :: ownLs l1 :: ownLs l2 :: A :: F) → Sat B w ([judB bj (some ⟨bl, 0, none⟩) (l1 ++ l :: l2).length lc at_ r ra, sown 64 22 (.slice (some ⟨bl, 0, none⟩) (l1 ++ l :: l2).length lc) (l1 ++ l :: l2).length (lcells (l1 ++ l.set f.side X :: l2)), ownLs (l1 ++ l.set f.side X :: l2), A] ++ F) := by
        intro X B w F h
        refine line_shut (l.set f.side X) hle hmax hrest ?_
        rw [hv2, hv5]
        have h1 := hv3 X _ _ _ (h.fin (L1 := [X.own, o.own, judB bj (some ⟨bl, 0, none⟩) (l1 ++ l :: l2).length lc at_ r ra, blk bl 64 (pre2 ++ (X.cells ++ post2)), l.setP, ownLs l1, ownLs l2, A]) (F := F) (by repeat ((conv => arg 1; whnf); (conv => arg 2; whnf); first | with_reducible exact .done | exact Fin.all _ | refine .cons (by repeat ((conv => arg 2; whnf); first | with_reducible exact .here | ((with_reducible refine Del.hereC ?_); rfl) | ((with_reducible refine Del.hereS ?_ ?_ ?_) <;> rfl) | exact .here | apply Del.there)) ?_ | refine .drop ?_)))
        exact h1.fin (L1 := [judB bj (some ⟨bl, 0, none⟩) (l1 ++ l :: l2).length lc at_ r ra, blk bl 64 (pre2 ++ (X.cells ++ post2)), (l.set f.side X).e0.own, (l.set f.side X).e1.own, l.setP, ownLs l1, ownLs l2, A]) (F := F) (by repeat ((conv => arg 1; whnf); (conv => arg 2; whnf); first | with_reducible exact .done | exact Fin.all _ | refine .cons (by repeat ((conv => arg 2; whnf); first | with_reducible exact .here | ((with_reducible refine Del.hereC ?_); rfl) | ((with_reducible refine Del.hereS ?_ ?_ ?_) <;> rfl) | exact .here | apply Del.there)) ?_ | refine .drop ?_))
      refine gc_draw (D := []) (fin := none) (plan := [(true, 0), (true, 1), (true, 2), (true, 3), (true, 4), (true, 5), (true, 6), (true, 7)]) rfl (by kernel_rfl) (by kernel_rfl) rfl .nil ?_
      refine gp_ev rfl (e_mv) ?_
      refine gp_ev rfl (e_nc rfl) ?_
      refine gp_ev rfl (e_fa Try.underlying58 rfl rfl Try.sizeOf56) ?_
      refine gp_ev rfl (e_ld Try.underlying56 rfl (by repeat ((conv => arg 2; whnf); first | with_reducible exact .here | ((with_reducible refine Del.hereC ?_); rfl) | ((with_reducible refine Del.hereS ?_ ?_ ?_) <;> rfl) | exact .here | apply Del.there)) rfl) ?_
      refine gp_ev rfl (e_fa Try.underlying43 rfl rfl Try.sizeOf3) ?_
      refine gp_ev rfl (e_ld Try.underlying3 rfl (by repeat ((conv => arg 2; whnf); first | with_reducible exact .here | ((with_reducible refine Del.hereC ?_); rfl) | ((with_reducible refine Del.hereS ?_ ?_ ?_) <;> rfl) | exact .here | apply Del.there)) rfl) ?_
      refine gp_ev rfl (e_ia (o := (lcells l1).length) Try.underlying56 Try.sizeOf64 rfl rfl hconn (by simp) (by rw [lcells_len]; omega)) ?_
      refine gp_ev rfl (e_as) ?_
      refine gp_nil ?_
      refine gc_seq ?_
      refine gc_draw (D := []) (fin := none) (plan := [(true, 0), (true, 1), (true, 2), (true, 3), (true, 4), (true, 5), (true, 6), (true, 7)]) rfl (by kernel_rfl) (by kernel_rfl) rfl .nil ?_
      refine gp_ev rfl (e_mv) ?_
      refine gp_ev rfl (e_fa Try.underlying43 rfl rfl Try.sizeOf39) ?_
      refine gp_ev rfl (e_ld Try.underlying39 rfl (by repeat ((conv => arg 2; whnf); first | with_reducible exact .here | ((with_reducible refine Del.hereC ?_); rfl) | ((with_reducible refine Del.hereS ?_ ?_ ?_) <;> rfl) | exact .here | apply Del.there)) rfl) ?_
      refine gp_ev rfl (e_subw rfl rfl) ?_
      refine gp_ev rfl (e_nc rfl) ?_
      refine gp_ev rfl (e_fa Try.underlying64 rfl rfl Try.sizeOf62) ?_
      refine gp_ev rfl (e_iap (o := pre2.length) (q := (f.side - 1).toNat) Try.underlying62 Try.sizeOf61 rfl rfl (by rcases hsd with h | h <;> rw [h] <;> rfl) (by omega) (by rw [hp2])) ?_
      refine gp_ev rfl (e_as) ?_
      refine gp_nil ?_
      refine gc_seq ?_
      refine gc_seq ?_
      refine gc_region ?_
      refine g_ev (e_fa Try.underlying43 rfl rfl Try.sizeOf38) ?_
      refine g_ev (e_ld Try.underlying38 rfl (by repeat ((conv => arg 2; whnf); first | with_reducible exact .here | ((with_reducible refine Del.hereC ?_); rfl) | ((with_reducible refine Del.hereS ?_ ?_ ?_) <;> rfl) | exact .here | apply Del.there)) rfl) ?_
      refine g_nil ?_
      refine gc_block ?_
      refine gc_seq ?_
      refine gc_region ?_
      refine g_ev (e_eq rfl rfl) ?_
      refine g_ev (e_as) ?_
      refine g_nil ?_
      first | refine gc_dec rfl (fun c57 => ?_) (fun c57 => ?_) | refine gc_ndec rfl (fun c57 => ?_) (fun c57 => ?_) | refine gc_cond rfl (fun c57 => ?_) (fun c57 => ?_)
      · skip
        refine gc_imp (L' := judB bj (some ⟨bl, 0, none⟩) (l1 ++ l :: l2).length lc at_ r ra :: blk bl 64 (lcells l1 ++ (({ l with session := l.session } : LineS).cells ++ (lcells l2 ++ rest))) :: l.setP :: l.e0.own :: l.e1.own :: ownLs l1 :: ownLs l2 :: blk b3 43 (f.cells (.slice a f.data.length c)) :: A :: F) (fun w h => ?_) ?_
        · have h1 := hv6 _ _ _ (h.fin (L1 := [e.own, o.own, judB bj (some ⟨bl, 0, none⟩) (l1 ++ l :: l2).length lc at_ r ra, blk bl 64 (pre2 ++ (e.cells ++ post2)), l.setP, ownLs l1, ownLs l2, blk b3 43 (f.cells (.slice a f.data.length c)), A]) (F := F) (by repeat ((conv => arg 1; whnf); (conv => arg 2; whnf); first | with_reducible exact .done | exact Fin.all _ | refine .cons (by repeat ((conv => arg 2; whnf); first | with_reducible exact .here | ((with_reducible refine Del.hereC ?_); rfl) | ((with_reducible refine Del.hereS ?_ ?_ ?_) <;> rfl) | exact .here | apply Del.there)) ?_ | refine .drop ?_)))
          rw [← hv1] at h1
          exact h1.fin (L1 := [judB bj (some ⟨bl, 0, none⟩) (l1 ++ l :: l2).length lc at_ r ra, blk bl 64 (lcells l1 ++ (({ l with session := l.session } : LineS).cells ++ (lcells l2 ++ rest))), l.setP, l.e0.own, l.e1.own, ownLs l1, ownLs l2, blk b3 43 (f.cells (.slice a f.data.length c)), A]) (F := F) (by repeat ((conv => arg 1; whnf); (conv => arg 2; whnf); first | with_reducible exact .done | exact Fin.all _ | refine .cons (by repeat ((conv => arg 2; whnf); first | with_reducible exact .here | ((with_reducible refine Del.hereC ?_); rfl) | ((with_reducible refine Del.hereS ?_ ?_ ?_) <;> rfl) | exact .here | apply Del.there)) ?_ | refine .drop ?_))
        refine gc_draw (D := [l.setP]) (fin := none) (plan := [(true, 0), (true, 1), (true, 2), (true, 3), (true, 4), (true, 5), (true, 6), (true, 7), (true, 8), (true, 9), (true, 10), (true, 11), (true, 12), (true, 13), (false, 14)]) rfl (by kernel_rfl) (by kernel_rfl) rfl (.cons (by repeat ((conv => arg 2; whnf); first | with_reducible exact .here | ((with_reducible refine Del.hereC ?_); rfl) | ((with_reducible refine Del.hereS ?_ ?_ ?_) <;> rfl) | exact .here | apply Del.there)) .nil) ?_
        refine gp_ev rfl (e_mv) ?_
        refine gp_ev rfl (e_nc rfl) ?_
        refine gp_ev rfl (e_fa Try.underlying64 rfl rfl Try.sizeOf59) ?_
        refine gp_ev rfl (e_ldm 21 Try.underlying59 rfl (by repeat ((conv => arg 2; whnf); first | with_reducible exact .here | ((with_reducible refine Del.hereC ?_); rfl) | ((with_reducible refine Del.hereS ?_ ?_ ?_) <;> rfl) | exact .here | apply Del.there)) rfl) ?_
        refine gp_ev rfl (e_fa Try.underlying43 rfl rfl Try.sizeOf39) ?_
        refine gp_ev rfl (e_ld Try.underlying39 rfl (by repeat ((conv => arg 2; whnf); first | with_reducible exact .here | ((with_reducible refine Del.hereC ?_); rfl) | ((with_reducible refine Del.hereS ?_ ?_ ?_) <;> rfl) | exact .here | apply Del.there)) rfl) ?_
        refine gp_ev rfl (e_fa Try.underlying43 rfl rfl Try.sizeOf23) ?_
        refine gp_ev rfl (e_ld Try.underlying23 rfl (by repeat ((conv => arg 2; whnf); first | with_reducible exact .here | ((with_reducible refine Del.hereC ?_); rfl) | ((with_reducible refine Del.hereS ?_ ?_ ?_) <;> rfl) | exact .here | apply Del.there)) rfl) ?_
        refine gp_ev rfl (e_fa Try.underlying43 rfl rfl Try.sizeOf23) ?_
        refine gp_ev rfl (e_ld Try.underlying23 rfl (by repeat ((conv => arg 2; whnf); first | with_reducible exact .here | ((with_reducible refine Del.hereC ?_); rfl) | ((with_reducible refine Del.hereS ?_ ?_ ?_) <;> rfl) | exact .here | apply Del.there)) rfl) ?_
        refine gp_ev rfl (e_fa Try.underlying43 rfl rfl Try.sizeOf41) ?_
        refine gp_ev rfl (e_ld Try.underlying41 rfl (by repeat ((conv => arg 2; whnf); first | with_reducible exact .here | ((with_reducible refine Del.hereC ?_); rfl) | ((with_reducible refine Del.hereS ?_ ?_ ?_) <;> rfl) | exact .here | apply Del.there)) rfl) ?_
        refine gp_ev rfl (e_b2s (bs := f.data) Try.underlying41 Try.underlying5 Try.underlying9 rfl (fun B w h => (hr _ w ((h.fin (L1 := [A]) (F := F) (by repeat ((conv => arg 1; whnf); (conv => arg 2; whnf); first | with_reducible exact .done | exact Fin.all _ | refine .cons (by repeat ((conv => arg 2; whnf); first | with_reducible exact .here | ((with_reducible refine Del.hereC ?_); rfl) | ((with_reducible refine Del.hereS ?_ ?_ ?_) <;> rfl) | exact .here | apply Del.there)) ?_ | refine .drop ?_))).left (L1 := [A]))))) ?_
        refine gp_ev rfl ((e_bd Try.underlying75 Try.zeroValue75 pl75 rfl).to (v' := .agg ⟨[.int .i64 f.side, .int .u32 (f.sess : Int), .int .u32 (f.num : Int), .string ⟨f.data.toArray⟩]⟩) rfl) ?_
        refine gp_eff rfl (s_mu (v0 := .bool true) (a := ((f.side, f.sess, f.num, f.data) : Key)) keyTy Try.underlying59 rfl rfl rfl (by repeat ((conv => arg 3; whnf); first | with_reducible exact .here | apply Turn.there))) ?_
        rintro _ _ ⟨rfl, rfl⟩
        refine gp_nil ?_
        refine gc_seq ?_
        refine gc_region ?_
        refine g_ev (e_as) ?_
        refine g_nil ?_
        refine gc_ret ?_
        have hx : l.rule f none 0 = (0, ({ l with sent := (addL l.sent ((f.side, f.sess, f.num, f.data) : Key) l.clk).1, clk := (addL l.sent ((f.side, f.sess, f.num, f.data) : Key) l.clk).2 } : LineS)) := by unfold LineS.rule; rw [if_pos c57]
        exact ret1 (v := .int .i64 0) (L1 := [judB bj (some ⟨bl, 0, none⟩) (l1 ++ l :: l2).length lc at_ r ra, sown 64 22 (.slice (some ⟨bl, 0, none⟩) (l1 ++ l :: l2).length lc) (l1 ++ l :: l2).length (lcells (l1 ++ ({ l with sent := (addL l.sent ((f.side, f.sess, f.num, f.data) : Key) l.clk).1, clk := (addL l.sent ((f.side, f.sess, f.num, f.data) : Key) l.clk).2 } : LineS) :: l2)), ownLs (l1 ++ ({ l with sent := (addL l.sent ((f.side, f.sess, f.num, f.data) : Key) l.clk).1, clk := (addL l.sent ((f.side, f.sess, f.num, f.data) : Key) l.clk).2 } : LineS) :: l2), A]) rfl (by (conv => lhs; whnf); try rfl) ⟨none, 0, by rw [ruleJ_eq c40 hconn hx], by rw [ruleJ_eq c40 hconn hx]⟩ (fun w h => line_shut ({ l with sent := (addL l.sent ((f.side, f.sess, f.num, f.data) : Key) l.clk).1, clk := (addL l.sent ((f.side, f.sess, f.num, f.data) : Key) l.clk).2 } : LineS) hle hmax hrest (h.fin (L1 := [judB bj (some ⟨bl, 0, none⟩) (l1 ++ l :: l2).length lc at_ r ra, blk bl 64 (lcells l1 ++ (({ l with sent := (addL l.sent ((f.side, f.sess, f.num, f.data) : Key) l.clk).1, clk := (addL l.sent ((f.side, f.sess, f.num, f.data) : Key) l.clk).2 } : LineS).cells ++ (lcells l2 ++ rest))), ({ l with sent := (addL l.sent ((f.side, f.sess, f.num, f.data) : Key) l.clk).1, clk := (addL l.sent ((f.side, f.sess, f.num, f.data) : Key) l.clk).2 } : LineS).e0.own, ({ l with sent := (addL l.sent ((f.side, f.sess, f.num, f.data) : Key) l.clk).1, clk := (addL l.sent ((f.side, f.sess, f.num, f.data) : Key) l.clk).2 } : LineS).e1.own, ({ l with sent := (addL l.sent ((f.side, f.sess, f.num, f.data) : Key) l.clk).1, clk := (addL l.sent ((f.side, f.sess, f.num, f.data) : Key) l.clk).2 } : LineS).setP, ownLs l1, ownLs l2, A]) (F := F) (by repeat ((conv => arg 1; whnf); (conv => arg 2; whnf); first | with_reducible exact .done | exact Fin.all _ | refine .cons (by repeat ((conv => arg 2; whnf); first | with_reducible exact .here | ((with_reducible refine Del.hereC ?_); rfl) | ((with_reducible refine Del.hereS ?_ ?_ ?_) <;> rfl) | exact .here | apply Del.there)) ?_ | refine .drop ?_))))
      · skip
        refine gc_seq ?_
        refine gc_region ?_
        refine g_ev (e_eq rfl rfl) ?_
        refine g_ev (e_as) ?_
        refine g_nil ?_
        first | refine gc_dec rfl (fun c73 => ?_) (fun c73 => ?_) | refine gc_ndec rfl (fun c73 => ?_) (fun c73 => ?_) | refine gc_cond rfl (fun c73 => ?_) (fun c73 => ?_)
        · skip
          refine gc_seq ?_
          refine gc_region ?_
          have h20 : (pre2 ++ (e.cells ++ post2))[(lcells l1).length + 20]? = some (.int .u32 (l.session : Int)) := by rw [← hv1, mid_get]; rfl
          have h21 : (pre2 ++ (e.cells ++ post2))[(lcells l1).length + 21]? = some (.map (some l.bm)) := by rw [← hv1, mid_get]; rfl
          refine g_ev (e_mv) ?_
          refine g_ev (e_mv) ?_
          refine g_ev (e_ldA Try.underlying43 rfl (by repeat ((conv => arg 2; whnf); first | with_reducible exact .here | ((with_reducible refine Del.hereC ?_); rfl) | ((with_reducible refine Del.hereS ?_ ?_ ?_) <;> rfl) | exact .here | apply Del.there)) Try.sizeOf43 (by simp)) ?_
          refine g_eff (s_call (taken_t e f l.session (lcells l1).length l.bm l.clk l.sent hr hm hsd h20 h21) (.cons (by repeat ((conv => arg 2; whnf); first | with_reducible exact .here | ((with_reducible refine Del.hereC ?_); rfl) | ((with_reducible refine Del.hereS ?_ ?_ ?_) <;> rfl) | exact .here | apply Del.there)) (.cons (by repeat ((conv => arg 2; whnf); first | with_reducible exact .here | ((with_reducible refine Del.hereC ?_); rfl) | ((with_reducible refine Del.hereS ?_ ?_ ?_) <;> rfl) | exact .here | apply Del.there)) (.cons (by repeat ((conv => arg 2; whnf); first | with_reducible exact .here | ((with_reducible refine Del.hereC ?_); rfl) | ((with_reducible refine Del.hereS ?_ ?_ ?_) <;> rfl) | exact .here | apply Del.there)) (.cons (by repeat ((conv => arg 2; whnf); first | with_reducible exact .here | ((with_reducible refine Del.hereC ?_); rfl) | ((with_reducible refine Del.hereS ?_ ?_ ?_) <;> rfl) | exact .here | apply Del.there)) (.nil)))))) ?_
          rintro _ _ ⟨_, ⟨va, vc, rfl, rfl⟩, rfl⟩
          refine g_ev (e_as) ?_
          refine g_nil ?_
          refine gc_ret ?_
          have hx : l.rule f va vc = ((e.taken f l.session l.keys va vc).1, l.set f.side (e.taken f l.session l.keys va vc).2) := by unfold LineS.rule; rw [if_neg c57, if_pos c73, hget]
          exact ret1 (v := .int .i64 (e.taken f l.session l.keys va vc).1) (L1 := [judB bj (some ⟨bl, 0, none⟩) (l1 ++ l :: l2).length lc at_ r ra, sown 64 22 (.slice (some ⟨bl, 0, none⟩) (l1 ++ l :: l2).length lc) (l1 ++ l :: l2).length (lcells (l1 ++ l.set f.side (e.taken f l.session l.keys va vc).2 :: l2)), ownLs (l1 ++ l.set f.side (e.taken f l.session l.keys va vc).2 :: l2), A]) rfl (by (conv => lhs; whnf); try rfl) ⟨va, vc, by rw [ruleJ_eq c40 hconn hx], by rw [ruleJ_eq c40 hconn hx]⟩ (fun w h => hshut (e.taken f l.session l.keys va vc).2 _ _ _ (h.fin (L1 := [judB bj (some ⟨bl, 0, none⟩) (l1 ++ l :: l2).length lc at_ r ra, blk bl 64 (pre2 ++ ((e.taken f l.session l.keys va vc).2.cells ++ post2)), (e.taken f l.session l.keys va vc).2.own, o.own, l.setP, ownLs l1, ownLs l2, A]) (F := F) (by repeat ((conv => arg 1; whnf); (conv => arg 2; whnf); first | with_reducible exact .done | exact Fin.all _ | refine .cons (by repeat ((conv => arg 2; whnf); first | with_reducible exact .here | ((with_reducible refine Del.hereC ?_); rfl) | ((with_reducible refine Del.hereS ?_ ?_ ?_) <;> rfl) | exact .here | apply Del.there)) ?_ | refine .drop ?_))))
        · skip
          refine gc_seq ?_
          refine gc_region ?_
          refine g_ev (e_eq rfl rfl) ?_
          refine g_ev (e_as) ?_
          refine g_nil ?_
          first | refine gc_dec rfl (fun c79 => ?_) (fun c79 => ?_) | refine gc_ndec rfl (fun c79 => ?_) (fun c79 => ?_) | refine gc_cond rfl (fun c79 => ?_) (fun c79 => ?_)
          · skip
            refine gc_seq ?_
            refine gc_region ?_
            refine g_imp (L' := judB bj (some ⟨bl, 0, none⟩) (l1 ++ l :: l2).length lc at_ r ra :: blk bl 64 (lcells l1 ++ (({ l with session := l.session } : LineS).cells ++ (lcells l2 ++ rest))) :: l.setP :: l.e0.own :: l.e1.own :: ownLs l1 :: ownLs l2 :: blk b3 43 (f.cells (.slice a f.data.length c)) :: A :: F) (fun w h => ?_) ?_
            · have h1 := hv6 _ _ _ (h.fin (L1 := [e.own, o.own, judB bj (some ⟨bl, 0, none⟩) (l1 ++ l :: l2).length lc at_ r ra, blk bl 64 (pre2 ++ (e.cells ++ post2)), l.setP, ownLs l1, ownLs l2, blk b3 43 (f.cells (.slice a f.data.length c)), A]) (F := F) (by repeat ((conv => arg 1; whnf); (conv => arg 2; whnf); first | with_reducible exact .done | exact Fin.all _ | refine .cons (by repeat ((conv => arg 2; whnf); first | with_reducible exact .here | ((with_reducible refine Del.hereC ?_); rfl) | ((with_reducible refine Del.hereS ?_ ?_ ?_) <;> rfl) | exact .here | apply Del.there)) ?_ | refine .drop ?_)))
              rw [← hv1] at h1
              exact h1.fin (L1 := [judB bj (some ⟨bl, 0, none⟩) (l1 ++ l :: l2).length lc at_ r ra, blk bl 64 (lcells l1 ++ (({ l with session := l.session } : LineS).cells ++ (lcells l2 ++ rest))), l.setP, l.e0.own, l.e1.own, ownLs l1, ownLs l2, blk b3 43 (f.cells (.slice a f.data.length c)), A]) (F := F) (by repeat ((conv => arg 1; whnf); (conv => arg 2; whnf); first | with_reducible exact .done | exact Fin.all _ | refine .cons (by repeat ((conv => arg 2; whnf); first | with_reducible exact .here | ((with_reducible refine Del.hereC ?_); rfl) | ((with_reducible refine Del.hereS ?_ ?_ ?_) <;> rfl) | exact .here | apply Del.there)) ?_ | refine .drop ?_))
            refine g_ev (e_mv) ?_
            refine g_ev (e_fa Try.underlying43 rfl rfl Try.sizeOf23) ?_
            refine g_ev (e_ld Try.underlying23 rfl (by repeat ((conv => arg 2; whnf); first | with_reducible exact .here | ((with_reducible refine Del.hereC ?_); rfl) | ((with_reducible refine Del.hereS ?_ ?_ ?_) <;> rfl) | exact .here | apply Del.there)) rfl) ?_
            refine g_ev (e_nc rfl) ?_
            refine g_ev (e_fa Try.underlying64 rfl rfl Try.sizeOf23) ?_
            refine g_eff (s_stm 20 Try.sizeOf23 rfl (by repeat ((conv => arg 3; whnf); first | with_reducible exact .here | apply Turn.there))) ?_
            rintro _ _ ⟨rfl, rfl⟩
            refine g_nil ?_
            refine gc_seq ?_
            refine gc_region ?_
            refine g_ev (e_mv) ?_
            refine g_ev (e_nc rfl) ?_
            refine g_ev (e_fa Try.underlying64 rfl rfl Try.sizeOf59) ?_
            refine g_ev (e_ldm 21 Try.underlying59 rfl (by repeat ((conv => arg 2; whnf); first | with_reducible exact .here | ((with_reducible refine Del.hereC ?_); rfl) | ((with_reducible refine Del.hereS ?_ ?_ ?_) <;> rfl) | exact .here | apply Del.there)) rfl) ?_
            refine g_eff (s_rg (k := 75) Try.underlying59 rfl (by repeat ((conv => arg 2; whnf); first | with_reducible exact .here | ((with_reducible refine Del.hereC ?_); rfl) | ((with_reducible refine Del.hereS ?_ ?_ ?_) <;> rfl) | exact .here | apply Del.there))) ?_
            rintro _ _ ⟨bi, rfl, rfl⟩
            refine g_nil ?_
            refine gc_block ?_
            refine gc_loop (α := Array Nat) (fun seen E L => E 0 = .pointer (some ⟨bj, 0, none⟩) ∧ E 3 = .pointer (some ⟨b3, 0, none⟩) ∧ E 5 = .pointer (some ⟨bl, (lcells l1).length, none⟩) ∧ E 90 = .pointer (some ⟨bi, 0, none⟩) ∧ ∀ w, Sat B w L → Sat B w (judB bj (some ⟨bl, 0, none⟩) (l1 ++ l :: l2).length lc at_ r ra :: blk bl 64 (lcells l1 ++ (({ l with session := f.sess } : LineS).cells ++ (lcells l2 ++ rest))) :: setB kv (.bool true) l.bm (fl l.sent f.sess seen) l.clk :: iterB bi l.bm l.clk seen l.clk :: l.e0.own :: l.e1.own :: ownLs l1 :: ownLs l2 :: blk b3 43 (f.cells (.slice a f.data.length c)) :: A :: F)) (fun seen => (l.sent.filter fun q => !seen.contains q.2).length) (#[]) ?_ ?_
            · exact ⟨(by (conv => lhs; whnf); try rfl), (by (conv => lhs; whnf); try rfl), (by (conv => lhs; whnf); try rfl), (by (conv => lhs; whnf); try rfl), (fun _ h => by rw [fl_nil]; exact h.fin (L1 := [judB bj (some ⟨bl, 0, none⟩) (l1 ++ l :: l2).length lc at_ r ra, blk bl 64 (lcells l1 ++ (({ l with session := f.sess } : LineS).cells ++ (lcells l2 ++ rest))), setB kv (.bool true) l.bm l.sent l.clk, iterB bi l.bm l.clk #[] l.clk, l.e0.own, l.e1.own, ownLs l1, ownLs l2, blk b3 43 (f.cells (.slice a f.data.length c)), A]) (F := F) (by repeat ((conv => arg 1; whnf); (conv => arg 2; whnf); first | with_reducible exact .done | exact Fin.all _ | refine .cons (by repeat ((conv => arg 2; whnf); first | with_reducible exact .here | ((with_reducible refine Del.hereC ?_); rfl) | ((with_reducible refine Del.hereS ?_ ?_ ?_) <;> rfl) | exact .here | apply Del.there)) ?_ | refine .drop ?_)))⟩
            · rintro seen E L ⟨s0, s3, s5, s90, hL⟩
              refine gc_imp hL ?_
              refine gc_slot 0 _ ?_ s0
              refine gc_slot 3 _ ?_ s3
              refine gc_slot 5 _ ?_ s5
              refine gc_slot 90 _ ?_ s90
              clear hL s0 s3 s5 s90
              refine gc_seq ?_
              refine gc_region ?_
              refine g_eff (s_nx (Lf := fun it => judB bj (some ⟨bl, 0, none⟩) (l1 ++ l :: l2).length lc at_ r ra :: blk bl 64 (lcells l1 ++ (({ l with session := f.sess } : LineS).cells ++ (lcells l2 ++ rest))) :: setB kv (.bool true) l.bm (fl l.sent f.sess seen) l.clk :: it :: l.e0.own :: l.e1.own :: ownLs l1 :: ownLs l2 :: blk b3 43 (f.cells (.slice a f.data.length c)) :: A :: F) rfl (by repeat ((conv => arg 2; whnf); first | with_reducible exact .here | ((with_reducible refine Del.hereC ?_); rfl) | ((with_reducible refine Del.hereS ?_ ?_ ?_) <;> rfl) | exact .here | apply Del.there)) (fun it => (by repeat ((conv => arg 3; whnf); first | with_reducible exact .here | apply Turn.there))) (fun p hp => hln.2.2 p ((fl_sub _ _ _).subset hp)) (Nat.le_refl _)) ?_
              rintro _ _ ⟨oo, rfl, hc, rfl⟩
              refine g_ev (e_nx rfl) ?_
              refine g_nil ?_
              refine gc_seq ?_
              first | refine gc_dec rfl (fun c92 => ?_) (fun c92 => ?_) | refine gc_ndec rfl (fun c92 => ?_) (fun c92 => ?_) | refine gc_cond rfl (fun c92 => ?_) (fun c92 => ?_)
              · skip
                refine gc_skip ?_
                refine gc_block ?_
                refine gc_seq ?_
                refine gc_region ?_
                obtain ⟨p, rfl⟩ := Option.isSome_iff_exists.1 c92
                have hpl : p ∈ l.sent := (fl_sub _ _ _).subset hc.1
                refine g_ev (e_en (p := p) rfl (by repeat ((conv => arg 2; whnf); first | with_reducible exact .here | ((with_reducible refine Del.hereC ?_); rfl) | ((with_reducible refine Del.hereS ?_ ?_ ?_) <;> rfl) | exact .here | apply Del.there)) (by repeat ((conv => arg 2; whnf); first | with_reducible exact .here | ((with_reducible refine Del.hereC ?_); rfl) | ((with_reducible refine Del.hereS ?_ ?_ ?_) <;> rfl) | exact .here | apply Del.there)) hc.1 (hln.2.1.sublist ((fl_sub _ _ _).map _))) ?_
                refine g_ev (e_ex rfl) ?_
                refine g_eff (s_al Try.zeroValue75) ?_
                rintro _ _ ⟨b7, rfl, rfl⟩
                refine g_eff (s_stA Try.sizeOf75 rfl rfl (by repeat ((conv => arg 3; whnf); first | with_reducible exact .here | apply Turn.there))) ?_
                rintro _ _ ⟨rfl, rfl⟩
                refine g_nil ?_
                refine gc_seq ?_
                refine gc_region ?_
                refine g_ev (e_fa Try.underlying75 rfl rfl Try.sizeOf39) ?_
                refine g_ev (e_ld Try.underlying39 rfl (by repeat ((conv => arg 2; whnf); first | with_reducible exact .here | ((with_reducible refine Del.hereC ?_); rfl) | ((with_reducible refine Del.hereS ?_ ?_ ?_) <;> rfl) | exact .here | apply Del.there)) rfl) ?_
                refine g_ev (e_eq rfl rfl) ?_
                refine g_ev (e_mv) ?_
                first | refine g_dec 98 rfl (fun c98 => ?_) (fun c98 => ?_) | refine g_ndec 98 rfl (fun c98 => ?_) (fun c98 => ?_) | refine g_bool 98 rfl (fun c98 => ?_) (fun c98 => ?_)
                · skip
                  refine g_ev (e_fa Try.underlying75 rfl rfl Try.sizeOf23) ?_
                  refine g_ev (e_ld Try.underlying23 rfl (by repeat ((conv => arg 2; whnf); first | with_reducible exact .here | ((with_reducible refine Del.hereC ?_); rfl) | ((with_reducible refine Del.hereS ?_ ?_ ?_) <;> rfl) | exact .here | apply Del.there)) rfl) ?_
                  refine g_ev (e_fa Try.underlying43 rfl rfl Try.sizeOf23) ?_
                  refine g_ev (e_ld Try.underlying23 rfl (by repeat ((conv => arg 2; whnf); first | with_reducible exact .here | ((with_reducible refine Del.hereC ?_); rfl) | ((with_reducible refine Del.hereS ?_ ?_ ?_) <;> rfl) | exact .here | apply Del.there)) rfl) ?_
                  refine g_ev (e_eq rfl rfl) ?_
                  refine g_ev (e_pk rfl) ?_
                  refine g_nil ?_
                  first | refine gc_dec rfl (fun c104 => ?_) (fun c104 => ?_) | refine gc_ndec rfl (fun c104 => ?_) (fun c104 => ?_) | refine gc_cond rfl (fun c104 => ?_) (fun c104 => ?_)
                  · skip
                    refine gc_draw (D := [setB kv (.bool true) l.bm (fl l.sent f.sess seen) l.clk]) (fin := none) (plan := [(true, 0), (true, 1), (true, 2), (true, 3), (true, 4), (false, 5)]) rfl (by kernel_rfl) (by kernel_rfl) rfl (.cons (by repeat ((conv => arg 2; whnf); first | with_reducible exact .here | ((with_reducible refine Del.hereC ?_); rfl) | ((with_reducible refine Del.hereS ?_ ?_ ?_) <;> rfl) | exact .here | apply Del.there)) .nil) ?_
                    refine gp_ev rfl (e_mv) ?_
                    refine gp_ev rfl (e_nc rfl) ?_
                    refine gp_ev rfl (e_fa Try.underlying64 rfl rfl Try.sizeOf59) ?_
                    refine gp_ev rfl (e_ldm 21 Try.underlying59 rfl (by repeat ((conv => arg 2; whnf); first | with_reducible exact .here | ((with_reducible refine Del.hereC ?_); rfl) | ((with_reducible refine Del.hereS ?_ ?_ ?_) <;> rfl) | exact .here | apply Del.there)) rfl) ?_
                    refine gp_ev rfl (e_ldA Try.underlying75 rfl (by repeat ((conv => arg 2; whnf); first | with_reducible exact .here | ((with_reducible refine Del.hereC ?_); rfl) | ((with_reducible refine Del.hereS ?_ ?_ ?_) <;> rfl) | exact .here | apply Del.there)) Try.sizeOf75 (by simp)) ?_
                    refine gp_eff rfl (s_del (v0 := .bool true) (a := p.1) keyTy Try.underlying59 rfl rfl (by repeat ((conv => arg 3; whnf); first | with_reducible exact .here | apply Turn.there))) ?_
                    rintro _ _ ⟨rfl, rfl⟩
                    refine gp_nil ?_
                    have hbad : badK f.sess p = true := by clear hr; unfold badK; first | (simp_all; done) | (simp_all; omega) | (simp_all; intros; omega)
                    rw [fl_del hln.1 hln.2.1 hpl hbad]
                    refine Exists.intro (seen.push p.2) (And.intro ⟨(by (conv => lhs; whnf); try rfl), (by (conv => lhs; whnf); try rfl), (by (conv => lhs; whnf); try rfl), (by (conv => lhs; whnf); try rfl), (fun _ h => h.fin (L1 := [judB bj (some ⟨bl, 0, none⟩) (l1 ++ l :: l2).length lc at_ r ra, blk bl 64 (lcells l1 ++ (({ l with session := f.sess } : LineS).cells ++ (lcells l2 ++ rest))), setB kv (.bool true) l.bm (fl l.sent f.sess (seen.push p.2)) l.clk, iterB bi l.bm l.clk (seen.push p.2) l.clk, l.e0.own, l.e1.own, ownLs l1, ownLs l2, blk b3 43 (f.cells (.slice a f.data.length c)), A]) (F := F) (by repeat ((conv => arg 1; whnf); (conv => arg 2; whnf); first | with_reducible exact .done | exact Fin.all _ | refine .cons (by repeat ((conv => arg 2; whnf); first | with_reducible exact .here | ((with_reducible refine Del.hereC ?_); rfl) | ((with_reducible refine Del.hereS ?_ ?_ ?_) <;> rfl) | exact .here | apply Del.there)) ?_ | refine .drop ?_)))⟩ (fl_mu hpl hc.2))
                  · skip
                    refine gc_skip ?_
                    have hbad : badK f.sess p = false := by clear hr; unfold badK; first | (simp_all; done) | (simp_all; omega) | (simp_all; intros; omega)
                    rw [fl_skip hln.2.1 hpl hbad]
                    refine Exists.intro (seen.push p.2) (And.intro ⟨(by (conv => lhs; whnf); try rfl), (by (conv => lhs; whnf); try rfl), (by (conv => lhs; whnf); try rfl), (by (conv => lhs; whnf); try rfl), (fun _ h => h.fin (L1 := [judB bj (some ⟨bl, 0, none⟩) (l1 ++ l :: l2).length lc at_ r ra, blk bl 64 (lcells l1 ++ (({ l with session := f.sess } : LineS).cells ++ (lcells l2 ++ rest))), setB kv (.bool true) l.bm (fl l.sent f.sess (seen.push p.2)) l.clk, iterB bi l.bm l.clk (seen.push p.2) l.clk, l.e0.own, l.e1.own, ownLs l1, ownLs l2, blk b3 43 (f.cells (.slice a f.data.length c)), A]) (F := F) (by repeat ((conv => arg 1; whnf); (conv => arg 2; whnf); first | with_reducible exact .done | exact Fin.all _ | refine .cons (by repeat ((conv => arg 2; whnf); first | with_reducible exact .here | ((with_reducible refine Del.hereC ?_); rfl) | ((with_reducible refine Del.hereS ?_ ?_ ?_) <;> rfl) | exact .here | apply Del.there)) ?_ | refine .drop ?_)))⟩ (fl_mu hpl hc.2))
                · skip
                  refine g_not ?_
                  refine g_not ?_
                  refine g_not ?_
                  refine g_not ?_
                  refine g_not ?_
                  refine g_ev (e_pk rfl) ?_
                  refine g_nil ?_
                  refine gc_false ?_
                  refine gc_skip ?_
                  have hbad : badK f.sess p = false := by clear hr; unfold badK; first | (simp_all; done) | (simp_all; omega) | (simp_all; intros; omega)
                  rw [fl_skip hln.2.1 hpl hbad]
                  refine Exists.intro (seen.push p.2) (And.intro ⟨(by (conv => lhs; whnf); try rfl), (by (conv => lhs; whnf); try rfl), (by (conv => lhs; whnf); try rfl), (by (conv => lhs; whnf); try rfl), (fun _ h => h.fin (L1 := [judB bj (some ⟨bl, 0, none⟩) (l1 ++ l :: l2).length lc at_ r ra, blk bl 64 (lcells l1 ++ (({ l with session := f.sess } : LineS).cells ++ (lcells l2 ++ rest))), setB kv (.bool true) l.bm (fl l.sent f.sess (seen.push p.2)) l.clk, iterB bi l.bm l.clk (seen.push p.2) l.clk, l.e0.own, l.e1.own, ownLs l1, ownLs l2, blk b3 43 (f.cells (.slice a f.data.length c)), A]) (F := F) (by repeat ((conv => arg 1; whnf); (conv => arg 2; whnf); first | with_reducible exact .done | exact Fin.all _ | refine .cons (by repeat ((conv => arg 2; whnf); first | with_reducible exact .here | ((with_reducible refine Del.hereC ?_); rfl) | ((with_reducible refine Del.hereS ?_ ?_ ?_) <;> rfl) | exact .here | apply Del.there)) ?_ | refine .drop ?_)))⟩ (fl_mu hpl hc.2))
              · skip
                refine gc_exit ?_
                refine gc_seq ?_
                refine gc_region ?_
                refine g_ev (e_as) ?_
                refine g_nil ?_
                refine gc_ret ?_
                obtain rfl : oo = none := by simpa using c92
                have hfl := fl_end (show ∀ p ∈ fl l.sent f.sess seen, p.2 ∈ seen from hc)
                rw [hfl]
                have hx : l.rule f none 0 = (0, ({ l with session := f.sess, sent := l.sent.filter fun p => !badK f.sess p } : LineS)) := by unfold LineS.rule; rw [if_neg c57, if_neg c73, if_pos c79]
                exact ret1 (v := .int .i64 0) (L1 := [judB bj (some ⟨bl, 0, none⟩) (l1 ++ l :: l2).length lc at_ r ra, sown 64 22 (.slice (some ⟨bl, 0, none⟩) (l1 ++ l :: l2).length lc) (l1 ++ l :: l2).length (lcells (l1 ++ ({ l with session := f.sess, sent := l.sent.filter fun p => !badK f.sess p } : LineS) :: l2)), ownLs (l1 ++ ({ l with session := f.sess, sent := l.sent.filter fun p => !badK f.sess p } : LineS) :: l2), A]) rfl (by (conv => lhs; whnf); try rfl) ⟨none, 0, by rw [ruleJ_eq c40 hconn hx], by rw [ruleJ_eq c40 hconn hx]⟩ (fun w h => line_shut ({ l with session := f.sess, sent := l.sent.filter fun p => !badK f.sess p } : LineS) hle hmax hrest (h.fin (L1 := [judB bj (some ⟨bl, 0, none⟩) (l1 ++ l :: l2).length lc at_ r ra, blk bl 64 (lcells l1 ++ (({ l with session := f.sess, sent := l.sent.filter fun p => !badK f.sess p } : LineS).cells ++ (lcells l2 ++ rest))), ({ l with session := f.sess, sent := l.sent.filter fun p => !badK f.sess p } : LineS).e0.own, ({ l with session := f.sess, sent := l.sent.filter fun p => !badK f.sess p } : LineS).e1.own, ({ l with session := f.sess, sent := l.sent.filter fun p => !badK f.sess p } : LineS).setP, ownLs l1, ownLs l2, A]) (F := F) (by repeat ((conv => arg 1; whnf); (conv => arg 2; whnf); first | with_reducible exact .done | exact Fin.all _ | refine .cons (by repeat ((conv => arg 2; whnf); first | with_reducible exact .here | ((with_reducible refine Del.hereC ?_); rfl) | ((with_reducible refine Del.hereS ?_ ?_ ?_) <;> rfl) | exact .here | apply Del.there)) ?_ | refine .drop ?_))))
          · skip
            refine gc_seq ?_
            refine gc_region ?_
            refine g_ev (e_eq rfl rfl) ?_
            refine g_ev (e_as) ?_
            refine g_nil ?_
            first | refine gc_dec rfl (fun c110 => ?_) (fun c110 => ?_) | refine gc_ndec rfl (fun c110 => ?_) (fun c110 => ?_) | refine gc_cond rfl (fun c110 => ?_) (fun c110 => ?_)
            · skip
              refine gc_region ?_
              refine g_ev (e_mv) ?_
              refine g_ev (e_mv) ?_
              refine g_ev (e_mv) ?_
              refine g_ev (e_nc rfl) ?_
              refine g_ev (e_fa Try.underlying61 rfl rfl Try.sizeOf40) ?_
              refine g_ev (e_ldm 7 Try.underlying40 rfl (by repeat ((conv => arg 2; whnf); first | with_reducible exact .here | ((with_reducible refine Del.hereC ?_); rfl) | ((with_reducible refine Del.hereS ?_ ?_ ?_) <;> rfl) | exact .here | apply Del.there)) rfl) ?_
              refine g_ev (e_ne rfl rfl) ?_
              refine g_ev (e_nc rfl) ?_
              refine g_ev (e_fa Try.underlying61 rfl rfl Try.sizeOf3) ?_
              refine g_eff (s_stm 6 Try.sizeOf3 rfl (by repeat ((conv => arg 3; whnf); first | with_reducible exact .here | apply Turn.there))) ?_
              rintro _ _ ⟨rfl, rfl⟩
              refine g_ev (e_nc rfl) ?_
              refine g_ev (e_fa Try.underlying61 rfl rfl Try.sizeOf4) ?_
              refine g_eff (s_stm 8 Try.sizeOf4 rfl (by repeat ((conv => arg 3; whnf); first | with_reducible exact .here | apply Turn.there))) ?_
              rintro _ _ ⟨rfl, rfl⟩
              refine g_nil ?_
              refine gc_seq ?_
              refine gc_region ?_
              refine g_ev (e_as) ?_
              refine g_nil ?_
              refine gc_ret ?_
              have hx : l.rule f none 0 = (0, l.set f.side ({ e with since := 0, fresh := !decide (e.latched = 0) } : EndS)) := by unfold LineS.rule; rw [if_neg c57, if_neg c73, if_neg c79, if_pos c110, hget]
              exact ret1 (v := .int .i64 0) (L1 := [judB bj (some ⟨bl, 0, none⟩) (l1 ++ l :: l2).length lc at_ r ra, sown 64 22 (.slice (some ⟨bl, 0, none⟩) (l1 ++ l :: l2).length lc) (l1 ++ l :: l2).length (lcells (l1 ++ l.set f.side ({ e with since := 0, fresh := !decide (e.latched = 0) } : EndS) :: l2)), ownLs (l1 ++ l.set f.side ({ e with since := 0, fresh := !decide (e.latched = 0) } : EndS) :: l2), A]) rfl (by (conv => lhs; whnf); try rfl) ⟨none, 0, by rw [ruleJ_eq c40 hconn hx], by rw [ruleJ_eq c40 hconn hx]⟩ (fun w h => hshut ({ e with since := 0, fresh := !decide (e.latched = 0) } : EndS) _ _ _ (h.fin (L1 := [judB bj (some ⟨bl, 0, none⟩) (l1 ++ l :: l2).length lc at_ r ra, blk bl 64 (pre2 ++ (({ e with since := 0, fresh := !decide (e.latched = 0) } : EndS).cells ++ post2)), ({ e with since := 0, fresh := !decide (e.latched = 0) } : EndS).own, o.own, l.setP, ownLs l1, ownLs l2, A]) (F := F) (by repeat ((conv => arg 1; whnf); (conv => arg 2; whnf); first | with_reducible exact .done | exact Fin.all _ | refine .cons (by repeat ((conv => arg 2; whnf); first | with_reducible exact .here | ((with_reducible refine Del.hereC ?_); rfl) | ((with_reducible refine Del.hereS ?_ ?_ ?_) <;> rfl) | exact .here | apply Del.there)) ?_ | refine .drop ?_))))
            · skip
              refine gc_seq ?_
              refine gc_region ?_
              refine g_ev (e_eq rfl rfl) ?_
              refine g_ev (e_as) ?_
              refine g_nil ?_
              first | refine gc_dec rfl (fun c123 => ?_) (fun c123 => ?_) | refine gc_ndec rfl (fun c123 => ?_) (fun c123 => ?_) | refine gc_cond rfl (fun c123 => ?_) (fun c123 => ?_)
              · skip
                refine gc_region ?_
                refine g_ev (e_mv) ?_
                refine g_ev (e_fa Try.underlying43 rfl rfl Try.sizeOf23) ?_
                refine g_ev (e_ld Try.underlying23 rfl (by repeat ((conv => arg 2; whnf); first | with_reducible exact .here | ((with_reducible refine Del.hereC ?_); rfl) | ((with_reducible refine Del.hereS ?_ ?_ ?_) <;> rfl) | exact .here | apply Del.there)) rfl) ?_
                refine g_ev ((e_cv Try.underlying23 Try.underlying3 rfl).to (v' := .int .i64 (f.num : Int)) (congrArg _ (wrapN rfl (by omega)))) ?_
                refine g_eff (s_call (tick_t e (f.num : Int)) (.cons (by repeat ((conv => arg 2; whnf); first | with_reducible exact .here | ((with_reducible refine Del.hereC ?_); rfl) | ((with_reducible refine Del.hereS ?_ ?_ ?_) <;> rfl) | exact .here | apply Del.there)) (.nil))) ?_
                rintro _ _ ⟨_, ⟨rfl, rfl⟩, rfl⟩
                refine g_nil ?_
                refine gc_seq ?_
                refine gc_region ?_
                refine g_ev (e_as) ?_
                refine g_nil ?_
                refine gc_ret ?_
                have hx : l.rule f none 0 = (0, l.set f.side (e.tick (f.num : Int))) := by unfold LineS.rule; rw [if_neg c57, if_neg c73, if_neg c79, if_neg c110, if_pos c123, hget]
                exact ret1 (v := .int .i64 0) (L1 := [judB bj (some ⟨bl, 0, none⟩) (l1 ++ l :: l2).length lc at_ r ra, sown 64 22 (.slice (some ⟨bl, 0, none⟩) (l1 ++ l :: l2).length lc) (l1 ++ l :: l2).length (lcells (l1 ++ l.set f.side (e.tick (f.num : Int)) :: l2)), ownLs (l1 ++ l.set f.side (e.tick (f.num : Int)) :: l2), A]) rfl (by (conv => lhs; whnf); try rfl) ⟨none, 0, by rw [ruleJ_eq c40 hconn hx], by rw [ruleJ_eq c40 hconn hx]⟩ (fun w h => hshut (e.tick (f.num : Int)) _ _ _ (h.fin (L1 := [judB bj (some ⟨bl, 0, none⟩) (l1 ++ l :: l2).length lc at_ r ra, blk bl 64 (pre2 ++ ((e.tick (f.num : Int)).cells ++ post2)), (e.tick (f.num : Int)).own, o.own, l.setP, ownLs l1, ownLs l2, A]) (F := F) (by repeat ((conv => arg 1; whnf); (conv => arg 2; whnf); first | with_reducible exact .done | exact Fin.all _ | refine .cons (by repeat ((conv => arg 2; whnf); first | with_reducible exact .here | ((with_reducible refine Del.hereC ?_); rfl) | ((with_reducible refine Del.hereS ?_ ?_ ?_) <;> rfl) | exact .here | apply Del.there)) ?_ | refine .drop ?_))))
              · skip
                refine gc_seq ?_
                refine gc_region ?_
                refine g_ev (e_eq rfl rfl) ?_
                refine g_ev (e_as) ?_
                refine g_nil ?_
                first | refine gc_dec rfl (fun c130 => ?_) (fun c130 => ?_) | refine gc_ndec rfl (fun c130 => ?_) (fun c130 => ?_) | refine gc_cond rfl (fun c130 => ?_) (fun c130 => ?_)
                · skip
                  refine gc_region ?_
                  refine g_ev (e_mv) ?_
                  refine g_ev (e_mv) ?_
                  refine g_ev (e_nc rfl) ?_
                  refine g_ev (e_fa Try.underlying61 rfl rfl Try.sizeOf4) ?_
                  refine g_ev (e_ldm 9 Try.underlying4 rfl (by repeat ((conv => arg 2; whnf); first | with_reducible exact .here | ((with_reducible refine Del.hereC ?_); rfl) | ((with_reducible refine Del.hereS ?_ ?_ ?_) <;> rfl) | exact .here | apply Del.there)) rfl) ?_
                  refine g_ev (e_mv) ?_
                  first | refine g_dec 137 rfl (fun c137 => ?_) (fun c137 => ?_) | refine g_ndec 137 rfl (fun c137 => ?_) (fun c137 => ?_) | refine g_bool 137 rfl (fun c137 => ?_) (fun c137 => ?_)
                  · skip
                    refine g_not ?_
                    refine g_not ?_
                    refine g_not ?_
                    refine g_not ?_
                    refine g_ev (e_pk rfl) ?_
                    refine g_ev (e_nc rfl) ?_
                    refine g_ev (e_fa Try.underlying61 rfl rfl Try.sizeOf4) ?_
                    refine g_eff (s_stm 9 Try.sizeOf4 rfl (by repeat ((conv => arg 3; whnf); first | with_reducible exact .here | apply Turn.there))) ?_
                    rintro _ _ ⟨rfl, rfl⟩
                    refine g_nil ?_
                    refine gc_seq ?_
                    refine gc_region ?_
                    refine g_ev (e_as) ?_
                    refine g_nil ?_
                    refine gc_ret ?_
                    have hx : l.rule f none 0 = (0, l.set f.side ({ e with acked := true } : EndS)) := by unfold LineS.rule; rw [if_neg c57, if_neg c73, if_neg c79, if_neg c110, if_neg c123, if_pos c130, hget]; rw [show (e.acked || e.fresh) = true by simp [c137]]
                    exact ret1 (v := .int .i64 0) (L1 := [judB bj (some ⟨bl, 0, none⟩) (l1 ++ l :: l2).length lc at_ r ra, sown 64 22 (.slice (some ⟨bl, 0, none⟩) (l1 ++ l :: l2).length lc) (l1 ++ l :: l2).length (lcells (l1 ++ l.set f.side ({ e with acked := true } : EndS) :: l2)), ownLs (l1 ++ l.set f.side ({ e with acked := true } : EndS) :: l2), A]) rfl (by (conv => lhs; whnf); try rfl) ⟨none, 0, by rw [ruleJ_eq c40 hconn hx], by rw [ruleJ_eq c40 hconn hx]⟩ (fun w h => hshut ({ e with acked := true } : EndS) _ _ _ (h.fin (L1 := [judB bj (some ⟨bl, 0, none⟩) (l1 ++ l :: l2).length lc at_ r ra, blk bl 64 (pre2 ++ (({ e with acked := true } : EndS).cells ++ post2)), ({ e with acked := true } : EndS).own, o.own, l.setP, ownLs l1, ownLs l2, A]) (F := F) (by repeat ((conv => arg 1; whnf); (conv => arg 2; whnf); first | with_reducible exact .done | exact Fin.all _ | refine .cons (by repeat ((conv => arg 2; whnf); first | with_reducible exact .here | ((with_reducible refine Del.hereC ?_); rfl) | ((with_reducible refine Del.hereS ?_ ?_ ?_) <;> rfl) | exact .here | apply Del.there)) ?_ | refine .drop ?_))))
                  · skip
                    refine g_ev (e_mv) ?_
                    refine g_ev (e_nc rfl) ?_
                    refine g_ev (e_fa Try.underlying61 rfl rfl Try.sizeOf4) ?_
                    refine g_ev (e_ldm 8 Try.underlying4 rfl (by repeat ((conv => arg 2; whnf); first | with_reducible exact .here | ((with_reducible refine Del.hereC ?_); rfl) | ((with_reducible refine Del.hereS ?_ ?_ ?_) <;> rfl) | exact .here | apply Del.there)) rfl) ?_
                    refine g_ev (e_pk rfl) ?_
                    refine g_ev (e_nc rfl) ?_
                    refine g_ev (e_fa Try.underlying61 rfl rfl Try.sizeOf4) ?_
                    refine g_eff (s_stm 9 Try.sizeOf4 rfl (by repeat ((conv => arg 3; whnf); first | with_reducible exact .here | apply Turn.there))) ?_
                    rintro _ _ ⟨rfl, rfl⟩
                    refine g_nil ?_
                    refine gc_seq ?_
                    refine gc_region ?_
                    refine g_ev (e_as) ?_
                    refine g_nil ?_
                    refine gc_ret ?_
                    have hx : l.rule f none 0 = (0, l.set f.side ({ e with acked := e.fresh } : EndS)) := by unfold LineS.rule; rw [if_neg c57, if_neg c73, if_neg c79, if_neg c110, if_neg c123, if_pos c130, hget]; rw [show (e.acked || e.fresh) = e.fresh by simp [c137]]
                    exact ret1 (v := .int .i64 0) (L1 := [judB bj (some ⟨bl, 0, none⟩) (l1 ++ l :: l2).length lc at_ r ra, sown 64 22 (.slice (some ⟨bl, 0, none⟩) (l1 ++ l :: l2).length lc) (l1 ++ l :: l2).length (lcells (l1 ++ l.set f.side ({ e with acked := e.fresh } : EndS) :: l2)), ownLs (l1 ++ l.set f.side ({ e with acked := e.fresh } : EndS) :: l2), A]) rfl (by (conv => lhs; whnf); try rfl) ⟨none, 0, by rw [ruleJ_eq c40 hconn hx], by rw [ruleJ_eq c40 hconn hx]⟩ (fun w h => hshut ({ e with acked := e.fresh } : EndS) _ _ _ (h.fin (L1 := [judB bj (some ⟨bl, 0, none⟩) (l1 ++ l :: l2).length lc at_ r ra, blk bl 64 (pre2 ++ (({ e with acked := e.fresh } : EndS).cells ++ post2)), ({ e with acked := e.fresh } : EndS).own, o.own, l.setP, ownLs l1, ownLs l2, A]) (F := F) (by repeat ((conv => arg 1; whnf); (conv => arg 2; whnf); first | with_reducible exact .done | exact Fin.all _ | refine .cons (by repeat ((conv => arg 2; whnf); first | with_reducible exact .here | ((with_reducible refine Del.hereC ?_); rfl) | ((with_reducible refine Del.hereS ?_ ?_ ?_) <;> rfl) | exact .here | apply Del.there)) ?_ | refine .drop ?_))))
                · skip
                  refine gc_seq ?_
                  refine gc_region ?_
                  refine g_ev (e_eq rfl rfl) ?_
                  refine g_ev (e_as) ?_
                  refine g_nil ?_
                  first | refine gc_dec rfl (fun c145 => ?_) (fun c145 => ?_) | refine gc_ndec rfl (fun c145 => ?_) (fun c145 => ?_) | refine gc_cond rfl (fun c145 => ?_) (fun c145 => ?_)
                  · skip
                    refine gc_region ?_
                    refine g_ev (e_mv) ?_
                    refine g_ev (e_mv) ?_
                    refine g_ev (e_fa Try.underlying43 rfl rfl Try.sizeOf39) ?_
                    refine g_ev (e_ld Try.underlying39 rfl (by repeat ((conv => arg 2; whnf); first | with_reducible exact .here | ((with_reducible refine Del.hereC ?_); rfl) | ((with_reducible refine Del.hereS ?_ ?_ ?_) <;> rfl) | exact .here | apply Del.there)) rfl) ?_
                    refine g_eff (s_call (anew_t e f.side) (.cons (by repeat ((conv => arg 2; whnf); first | with_reducible exact .here | ((with_reducible refine Del.hereC ?_); rfl) | ((with_reducible refine Del.hereS ?_ ?_ ?_) <;> rfl) | exact .here | apply Del.there)) (.nil))) ?_
                    rintro _ _ ⟨_, ⟨rfl, rfl⟩, rfl⟩
                    refine g_ev (e_nc rfl) ?_
                    refine g_eff (s_stAm Try.sizeOf61 rfl rfl (by repeat ((conv => arg 3; whnf); first | with_reducible exact .here | apply Turn.there))) ?_
                    rintro _ _ ⟨rfl, rfl⟩
                    refine g_nil ?_
                    refine gc_seq ?_
                    refine gc_region ?_
                    refine g_ev (e_as) ?_
                    refine g_nil ?_
                    refine gc_ret ?_
                    have hx : l.rule f none 0 = (0, l.set f.side (e.anew f.side)) := by unfold LineS.rule; rw [if_neg c57, if_neg c73, if_neg c79, if_neg c110, if_neg c123, if_neg c130, if_pos c145, hget]
                    exact ret1 (v := .int .i64 0) (L1 := [judB bj (some ⟨bl, 0, none⟩) (l1 ++ l :: l2).length lc at_ r ra, sown 64 22 (.slice (some ⟨bl, 0, none⟩) (l1 ++ l :: l2).length lc) (l1 ++ l :: l2).length (lcells (l1 ++ l.set f.side (e.anew f.side) :: l2)), ownLs (l1 ++ l.set f.side (e.anew f.side) :: l2), A]) rfl (by (conv => lhs; whnf); try rfl) ⟨none, 0, by rw [ruleJ_eq c40 hconn hx], by rw [ruleJ_eq c40 hconn hx]⟩ (fun w h => hshut (e.anew f.side) _ _ _ (h.fin (L1 := [judB bj (some ⟨bl, 0, none⟩) (l1 ++ l :: l2).length lc at_ r ra, blk bl 64 (pre2 ++ ((e.anew f.side).cells ++ post2)), (e.anew f.side).own, o.own, l.setP, ownLs l1, ownLs l2, A]) (F := F) (.cons (by repeat ((conv => arg 2; whnf); first | with_reducible exact .here | ((with_reducible refine Del.hereC ?_); rfl) | ((with_reducible refine Del.hereS ?_ ?_ ?_) <;> rfl) | exact .here | apply Del.there)) (.cons (by repeat ((conv => arg 2; whnf); first | with_reducible exact .here | ((with_reducible refine Del.hereC ?_); rfl) | ((with_reducible refine Del.hereS ?_ ?_ ?_) <;> rfl) | exact .here | apply Del.there)) (.fold (M := []) (anew_own e f.side) (by repeat ((conv => arg 1; whnf); (conv => arg 2; whnf); first | with_reducible exact .done | exact Fin.all _ | refine .cons (by repeat ((conv => arg 2; whnf); first | with_reducible exact .here | ((with_reducible refine Del.hereC ?_); rfl) | ((with_reducible refine Del.hereS ?_ ?_ ?_) <;> rfl) | exact .here | apply Del.there)) ?_ | refine .drop ?_)))))))
                  · skip
                    refine gc_seq ?_
                    refine gc_region ?_
                    refine g_ev (e_eq rfl rfl) ?_
                    refine g_ev (e_as) ?_
                    refine g_nil ?_
                    first | refine gc_dec rfl (fun c153 => ?_) (fun c153 => ?_) | refine gc_ndec rfl (fun c153 => ?_) (fun c153 => ?_) | refine gc_cond rfl (fun c153 => ?_) (fun c153 => ?_)
                    · skip
                      refine gc_seq ?_
                      refine gc_draw (D := [blk bl 64 (pre2 ++ (e.cells ++ post2)), e.own, A]) (fin := none) (plan := [(true, 0), (true, 1), (true, 2), (true, 3), (true, 4), (false, 5), (false, 6), (true, 7)]) rfl (by kernel_rfl) (by kernel_rfl) rfl (.cons (by repeat ((conv => arg 2; whnf); first | with_reducible exact .here | ((with_reducible refine Del.hereC ?_); rfl) | ((with_reducible refine Del.hereS ?_ ?_ ?_) <;> rfl) | exact .here | apply Del.there)) (.cons (by repeat ((conv => arg 2; whnf); first | with_reducible exact .here | ((with_reducible refine Del.hereC ?_); rfl) | ((with_reducible refine Del.hereS ?_ ?_ ?_) <;> rfl) | exact .here | apply Del.there)) (.cons (by repeat ((conv => arg 2; whnf); first | with_reducible exact .here | ((with_reducible refine Del.hereC ?_); rfl) | ((with_reducible refine Del.hereS ?_ ?_ ?_) <;> rfl) | exact .here | apply Del.there)) (.nil)))) ?_
                      have h20 : (pre2 ++ (e.cells ++ post2))[(lcells l1).length + 20]? = some (.int .u32 (l.session : Int)) := by rw [← hv1, mid_get]; rfl
                      have h21 : (pre2 ++ (e.cells ++ post2))[(lcells l1).length + 21]? = some (.map (some l.bm)) := by rw [← hv1, mid_get]; rfl
                      refine gp_ev rfl (e_mv) ?_
                      refine gp_ev rfl (e_ldA Try.underlying43 rfl (by repeat ((conv => arg 2; whnf); first | with_reducible exact .here | ((with_reducible refine Del.hereC ?_); rfl) | ((with_reducible refine Del.hereS ?_ ?_ ?_) <;> rfl) | exact .here | apply Del.there)) Try.sizeOf43 (by simp)) ?_
                      refine gp_ev rfl (e_mv) ?_
                      refine gp_ev rfl (e_nc rfl) ?_
                      refine gp_ev rfl (e_fa Try.underlying64 rfl rfl Try.sizeOf23) ?_
                      refine gp_evf rfl (e_ld Try.underlying23 rfl (by repeat ((conv => arg 2; whnf); first | with_reducible exact .here | ((with_reducible refine Del.hereC ?_); rfl) | ((with_reducible refine Del.hereS ?_ ?_ ?_) <;> rfl) | exact .here | apply Del.there)) h20) ?_
                      refine gp_eff rfl (s_call (out_t e f l.session hr hm) (.cons (by repeat ((conv => arg 2; whnf); first | with_reducible exact .here | ((with_reducible refine Del.hereC ?_); rfl) | ((with_reducible refine Del.hereS ?_ ?_ ?_) <;> rfl) | exact .here | apply Del.there)) (.cons (by repeat ((conv => arg 2; whnf); first | with_reducible exact .here | ((with_reducible refine Del.hereC ?_); rfl) | ((with_reducible refine Del.hereS ?_ ?_ ?_) <;> rfl) | exact .here | apply Del.there)) (.cons (by repeat ((conv => arg 2; whnf); first | with_reducible exact .here | ((with_reducible refine Del.hereC ?_); rfl) | ((with_reducible refine Del.hereS ?_ ?_ ?_) <;> rfl) | exact .here | apply Del.there)) (.nil))))) ?_
                      rintro _ _ ⟨_, ⟨rfl, rfl⟩, rfl⟩
                      refine gp_ev rfl (e_as) ?_
                      refine gp_nil ?_
                      refine gc_ret ?_
                      have hx : l.rule f none 0 = ((e.out f l.session).1, l.set f.side (e.out f l.session).2) := by unfold LineS.rule; rw [if_neg c57, if_neg c73, if_neg c79, if_neg c110, if_neg c123, if_neg c130, if_neg c145, hget]
                      exact ret1 (v := .int .i64 (e.out f l.session).1) (L1 := [judB bj (some ⟨bl, 0, none⟩) (l1 ++ l :: l2).length lc at_ r ra, sown 64 22 (.slice (some ⟨bl, 0, none⟩) (l1 ++ l :: l2).length lc) (l1 ++ l :: l2).length (lcells (l1 ++ l.set f.side (e.out f l.session).2 :: l2)), ownLs (l1 ++ l.set f.side (e.out f l.session).2 :: l2), A]) rfl (by (conv => lhs; whnf); try rfl) ⟨none, 0, by rw [ruleJ_eq c40 hconn hx], by rw [ruleJ_eq c40 hconn hx]⟩ (fun w h => hshut (e.out f l.session).2 _ _ _ (h.fin (L1 := [judB bj (some ⟨bl, 0, none⟩) (l1 ++ l :: l2).length lc at_ r ra, blk bl 64 (pre2 ++ ((e.out f l.session).2.cells ++ post2)), (e.out f l.session).2.own, o.own, l.setP, ownLs l1, ownLs l2, A]) (F := F) (by repeat ((conv => arg 1; whnf); (conv => arg 2; whnf); first | with_reducible exact .done | exact Fin.all _ | refine .cons (by repeat ((conv => arg 2; whnf); first | with_reducible exact .here | ((with_reducible refine Del.hereC ?_); rfl) | ((with_reducible refine Del.hereS ?_ ?_ ?_) <;> rfl) | exact .here | apply Del.there)) ?_ | refine .drop ?_))))
                    · exact absurd c40 (by unfold bad1; omega)

end Go.Proofs.Ythjimddhnlmlhaa
