/- The walk of the document's rule for one fact; no conditions. -/
import Derived.Test.YthjimddhnlmlhaaRefSent
import Derived.Test.YthjimddhnlmlhaaVcMore
namespace Go.Proofs.Ythjimddhnlmlhaa
open Go.Vc
theorem pl743 : plOK Try.prog 43 #[(0, 1), (1, 1), (2, 1), (3, 1), (4, 1), (5, 1), (6, 1), (7, 1)] := by intro fs h w; rw [Try.underlying43] at h; cases h; simp
theorem pl768 : plOK Try.prog 68 #[(0, 1), (1, 1), (2, 1), (3, 1), (4, 1), (5, 1), (6, 1), (7, 1), (8, 1), (9, 1), (10, 1)] := by intro fs h w; rw [Try.underlying68] at h; cases h; simp

structure RLine where
  be : Nat
  x0 : REnd
  x1 : REnd
  ses : Nat
abbrev RLine.cells (l : RLine) : List Value := l.x0.cells ++ l.x1.cells
def RLine.get (l : RLine) (s : Int) : REnd := if s = 2 then l.x1 else l.x0
def RLine.set (l : RLine) (s : Int) (x : REnd) : RLine := if s = 2 then { l with x1 := x } else { l with x0 := x }
abbrev RLine.part (l : RLine) : HProp := blk l.be 68 l.cells
def ownR (ls : List RLine) : HProp := allP (ls.map RLine.part)
def hdrs (ls : List RLine) : List Value := ls.map fun l => .slice (some ⟨l.be, 0, none⟩) 2 2
def sess (ls : List RLine) : List Nat := ls.map (·.ses)
abbrev sesV (ls : List RLine) : List Value := (sess ls).map fun s : Nat => Value.int .u32 (s : Int)
def REnd.bad3 (x : REnd) (f : FactS) : Prop := x.took = true ∧ (f.sess < x.sess ∨ f.sess = x.sess ∧ f.num ≤ x.num)
instance (x : REnd) (f : FactS) : Decidable (x.bad3 f) := by unfold REnd.bad3; infer_instance
def rbad2 (f : FactS) (has : Bool) (ses : Nat) : Prop := has = false ∨ (f.side = 2 ∧ f.sess ≠ ses)
instance (f : FactS) (has : Bool) (ses : Nat) : Decidable (rbad2 f has ses) := by unfold rbad2; infer_instance
def REnd.takenE (x : REnd) (f : FactS) : REnd := { x with took := true, sess := f.sess, num := f.num, has := true, value := f.data, in_ := f.sess }
def REnd.tick (x : REnd) (n : Int) : REnd := if IntKind.i64.wrap (x.watch - x.since) ≤ n then { x with since := x.watch, fresh := false } else { x with since := IntKind.i64.wrap (x.since + n) }
def REnd.anew (x : REnd) (s : Int) : REnd := if s = 2 then ⟨x.watch, x.took, x.sess, x.num, false, [], 0, 0, 0, false, false⟩ else ⟨x.watch, false, 0, 0, false, [], 0, 0, 0, false, false⟩
def RLine.rule (l : RLine) (f : FactS) (has : Bool) : Int × RLine :=
  if f.kind = 1 then (0, l)
  else if f.kind = 2 then (if rbad2 f has l.ses then (2, l) else if (l.get f.side).bad3 f then (3, l) else (0, l.set f.side ((l.get f.side).takenE f)))
  else if f.kind = 3 then (0, { l with ses := f.sess })
  else if f.kind = 4 then (0, l.set f.side { l.get f.side with since := 0, fresh := !decide ((l.get f.side).latched = 0) })
  else if f.kind = 5 then (0, l.set f.side ((l.get f.side).tick f.num))
  else if f.kind = 6 then (0, l.set f.side { l.get f.side with acked := (l.get f.side).fresh || (l.get f.side).acked })
  else if f.kind = 7 then (0, l.set f.side ((l.get f.side).anew f.side))
  else (((l.get f.side).out f (decide (f.side = 2)) l.ses).1, l.set f.side ((l.get f.side).out f (decide (f.side = 2)) l.ses).2)
def unitOf (f : FactS) : FactS := ⟨0, f.conn, f.side, f.sess, f.num, false, 0, f.data⟩
def sentR (sent : List FactS) (f : FactS) : List FactS := if f.kind = 1 then sent ++ [unitOf f] else if f.kind = 3 then sent.filter fun s => decide (keeps f s) else sent
def rbad1 (n : Nat) (f : FactS) : Prop := f.kind < 1 ∨ 8 < f.kind ∨ f.conn < 0 ∨ (n : Int) ≤ f.conn ∨ f.side < 1 ∨ 2 < f.side
instance (n : Nat) (f : FactS) : Decidable (rbad1 n f) := by unfold rbad1; infer_instance
def rruleJ (ls : List RLine) (sent : List FactS) (f : FactS) : Int × List RLine × List FactS :=
  if rbad1 ls.length f then (1, ls, sent) else match ls[f.conn.toNat]? with
    | some l => ((l.rule f (hasSent sent f)).1, ls.set f.conn.toNat (l.rule f (hasSent sent f)).2, sentR sent f)
    | none => (1, ls, sent)
theorem rsplit {ls : List RLine} {f : FactS} (h : ¬ rbad1 ls.length f) : ∃ l1 l l2, ls = l1 ++ l :: l2 ∧ f.conn = (l1.length : Int) := by
  unfold rbad1 at h
  have h1 : f.conn.toNat < ls.length := by omega
  refine ⟨ls.take f.conn.toNat, ls[f.conn.toNat], ls.drop (f.conn.toNat + 1), ?_, ?_⟩
  · rw [List.getElem_cons_drop h1, List.take_append_drop]
  · rw [List.length_take]; omega
theorem rruleJ_eq {l1 l2 : List RLine} {l : RLine} {sent : List FactS} {f : FactS} {r : Int} {l' : RLine} {s' : List FactS} (h : ¬ rbad1 (l1 ++ l :: l2).length f) (hc : f.conn = (l1.length : Int)) (hx : l.rule f (hasSent sent f) = (r, l')) (hs : sentR sent f = s') : rruleJ (l1 ++ l :: l2) sent f = (r, l1 ++ l' :: l2, s') := by
  unfold rruleJ
  rw [if_neg h, hc, Int.toNat_natCast]
  simp [hx, hs]
theorem rview (l : RLine) (s : Int) (hs : s = 1 ∨ s = 2) : ∃ (pre2 post2 : List Value) (x : REnd), l.get s = x ∧ pre2.length = (s - 1).toNat * 11 ∧ l.cells = pre2 ++ (x.cells ++ post2) ∧ (∀ y, (l.set s y).cells = pre2 ++ (y.cells ++ post2)) ∧ (∀ y, (l.set s y).be = l.be ∧ (l.set s y).ses = l.ses) := by
  rcases hs with rfl | rfl
  · exact ⟨[], l.x1.cells, l.x0, rfl, rfl, rfl, fun y => rfl, fun y => ⟨rfl, rfl⟩⟩
  · exact ⟨l.x0.cells, [], l.x1, rfl, rfl, rfl, fun y => rfl, fun y => ⟨rfl, rfl⟩⟩
theorem hdrs_mid {l1 l2 : List RLine} {l l' : RLine} (h : l'.be = l.be) : hdrs (l1 ++ l' :: l2) = hdrs (l1 ++ l :: l2) := by simp [hdrs, h]
theorem sess_mid {l1 l2 : List RLine} {l l' : RLine} (h : l'.ses = l.ses) : sesV (l1 ++ l' :: l2) = sesV (l1 ++ l :: l2) := by simp [sesV, sess, h]
theorem sess_set {l1 l2 : List RLine} {l : RLine} (s : Nat) : ((sess (l1 ++ l :: l2)).set l1.length s).map (fun s : Nat => Value.int .u32 (s : Int)) = sesV (l1 ++ { l with ses := s } :: l2) := by simp [sesV, sess]
theorem rr_shut {B w : World} {l1 l2 : List RLine} {l l' : RLine} {R0 P2 FM A : HProp} {v : Value} {n : Nat} {F : List HProp} (hb : l'.be = l.be) (h : Sat B w (R0 :: sown 69 1 v n (hdrs (l1 ++ l :: l2)) :: P2 :: FM :: blk l.be 68 l'.cells :: allP (l1.map RLine.part ++ l2.map RLine.part) :: A :: F)) :
    Sat B w ([R0, sown 69 1 v n (hdrs (l1 ++ l' :: l2)), P2, FM, ownR (l1 ++ l' :: l2), A] ++ F) := by
  rw [hdrs_mid hb]
  have h1 : Sat B w (l'.part :: allP (l1.map RLine.part ++ l2.map RLine.part) :: R0 :: sown 69 1 v n (hdrs (l1 ++ l :: l2)) :: P2 :: FM :: A :: F) := by
    unfold RLine.part
    rw [hb]
    exact h.fin (L1 := [blk l.be 68 l'.cells, allP (l1.map RLine.part ++ l2.map RLine.part), R0, sown 69 1 v n (hdrs (l1 ++ l :: l2)), P2, FM, A]) (F := F) (.cons (.there (.there (.there (.there .here)))) (.cons (.there (.there (.there (.there .here)))) (.cons .here (.cons .here (.cons .here (.cons .here (.cons .here .done)))))))
  have h2 : Sat B w (ownR (l1 ++ l' :: l2) :: R0 :: sown 69 1 v n (hdrs (l1 ++ l :: l2)) :: P2 :: FM :: A :: F) := by
    have := Sat.allP_give h1
    unfold ownR
    rw [List.map_append, List.map_cons]
    exact this
  exact h2.fin (L1 := [R0, _, P2, FM, _, A]) (F := F) (.cons (.there .here) (.cons (.there .here) (.cons (.there .here) (.cons (.there .here) (.cons .here (.cons .here .done))))))
theorem facts_snoc {B w : World} {ta : Option Addr} {tc m : Nat} {fs : List FactV} {y : FactV} {F : List HProp} (hm : m = (fs ++ [y]).length) (h : Sat B w (sown 43 8 (.slice ta m tc) m (fcells fs ++ y.cells) :: ownD fs :: y.part :: F)) : Sat B w (factsM ta tc (fs ++ [y]) :: F) := by
  subst hm
  rw [← fcells_snoc] at h
  exact Sat.pack (M := [sown 43 8 (.slice ta (fs ++ [y]).length tc) (fs ++ [y]).length (fcells (fs ++ [y])), ownD (fs ++ [y])]) ((ownD_snoc (h.fin (L1 := [ownD fs, y.part, sown 43 8 (.slice ta (fs ++ [y]).length tc) (fs ++ [y]).length (fcells (fs ++ [y]))]) (F := F) (.cons (.there .here) (.cons (.there .here) (.cons .here .done))))).perm (.swap _ _ _))
theorem ownR_take {B w : World} {l1 l2 : List RLine} {l : RLine} {F : List HProp} (h : Sat B w (ownR (l1 ++ l :: l2) :: F)) : Sat B w (l.part :: allP (l1.map RLine.part ++ l2.map RLine.part) :: F) := by
  refine Sat.allP_take ?_
  have := h
  unfold ownR at this
  rw [List.map_append, List.map_cons] at this
  exact this
theorem ownR_give {B w : World} {l1 l2 : List RLine} {l : RLine} {F : List HProp} (h : Sat B w (l.part :: allP (l1.map RLine.part ++ l2.map RLine.part) :: F)) : Sat B w (ownR (l1 ++ l :: l2) :: F) := by
  have := Sat.allP_give h
  unfold ownR
  rw [List.map_append, List.map_cons]
  exact this

set_option maxHeartbeats 1000000 in
theorem rrule_t {rj n ec sc tc : Nat} {ea sa ta : Option Addr} {ls : List RLine} {sent : List FactV} {at_ r ra : Int} (f : FactS) {a : Option Addr} {c : Nat} {A : HProp} (hr : ∀ B w, Sat B w [A] → Rds w 1 (.slice a f.data.length c) f.data.length (bv f.data)) (hm : f.data.length ≤ 140737488355328) (hnum : f.num < 4294967296) (hn : sent.length ≤ 1000000) (hnl : ls.length = n) : Tri Try.prog 19 #[.pointer (some ⟨rj, 0, none⟩), .agg ⟨f.cells (.slice a f.data.length c)⟩] [blk rj 48 [.slice ea n ec, .slice sa n sc, .slice ta sent.length tc, .int .i64 at_, .int .i64 r, .int .i64 ra], sown 69 1 (.slice ea n ec) n (hdrs ls), sown 23 1 (.slice sa n sc) n (sesV ls), factsM ta tc sent, ownR ls, A] (fun v L => ∃ (ta2 : Option Addr) (tc2 : Nat) (ls2 : List RLine) (sent2 : List FactV) (q : Int), v = .int .i64 q ∧ L = [blk rj 48 [.slice ea n ec, .slice sa n sc, .slice ta2 sent2.length tc2, .int .i64 at_, .int .i64 r, .int .i64 ra], sown 69 1 (.slice ea n ec) n (hdrs ls2), sown 23 1 (.slice sa n sc) n (sesV ls2), factsM ta2 tc2 sent2, ownR ls2, A] ∧ rruleJ ls (sent.map fun x : FactV => x.f) f = (q, ls2, sent2.map fun x : FactV => x.f)) := by
  refine tri_of Try.call19 Try.func19 rfl fun B F => ?_
  refine gc_seq ?_
  refine gc_region ?_
  refine g_eff (s_bx) ?_
  rintro _ _ ⟨b3, rfl, rfl⟩
  refine g_ev (e_as) ?_
  refine g_nil ?_
  refine gc_seq ?_
  refine gc_seq ?_
  refine gc_cut (fun E L => E 0 = .pointer (some ⟨rj, 0, none⟩) ∧ E 3 = .pointer (some ⟨b3, 0, none⟩) ∧ E 41 = .bool (decide (rbad1 ls.length f)) ∧ ∀ w, Sat B w L → Sat B w (blk rj 48 [.slice ea n ec, .slice sa n sc, .slice ta sent.length tc, .int .i64 at_, .int .i64 r, .int .i64 ra] :: sown 69 1 (.slice ea n ec) n (hdrs ls) :: sown 23 1 (.slice sa n sc) n (sesV ls) :: factsM ta tc sent :: ownR ls :: blk b3 43 (f.cells (.slice a f.data.length c)) :: A :: F)) ?_ ?_
  · skip
    refine gc_draw (D := []) (fin := none) (plan := [(true, 0), (true, 1), (true, 2), (true, 3), (true, 4), (true, 5), (true, 6), (true, 7), (true, 8), (true, 9), (true, 10), (true, 11), (true, 12), (true, 13), (true, 14), (true, 15), (true, 16), (true, 17), (true, 18), (true, 19), (true, 20), (true, 21), (true, 22), (true, 23), (true, 24), (true, 25), (true, 26), (true, 27), (true, 28), (true, 29), (true, 30), (true, 31), (true, 32)]) rfl (by kernel_rfl) (by kernel_rfl) rfl .nil ?_
    refine gp_ev rfl (e_fa Try.underlying43 rfl rfl Try.sizeOf38) ?_
    refine gp_ev rfl (e_ld Try.underlying38 rfl (by repeat ((conv => arg 2; whnf); first | with_reducible exact .here | ((with_reducible refine Del.hereC ?_); rfl) | ((with_reducible refine Del.hereS ?_ ?_ ?_) <;> rfl) | exact .here | apply Del.there)) rfl) ?_
    refine gp_ev rfl (e_lt rfl rfl) ?_
    refine gp_ev rfl (e_mv) ?_
    first | refine gp_dec 12 rfl (fun c12 => ?_) (fun c12 => ?_) | refine gp_ndec 12 rfl (fun c12 => ?_) (fun c12 => ?_) | refine gp_bool 12 rfl (fun c12 => ?_) (fun c12 => ?_)
    · skip
      refine gp_not rfl ?_
      refine gp_not rfl ?_
      refine gp_not rfl ?_
      refine gp_ev rfl (e_pk rfl) ?_
      refine gp_ev rfl (e_mv) ?_
      refine gp_not rfl ?_
      refine gp_not rfl ?_
      refine gp_not rfl ?_
      refine gp_ev rfl (e_pk rfl) ?_
      refine gp_ev rfl (e_mv) ?_
      refine gp_not rfl ?_
      refine gp_not rfl ?_
      refine gp_not rfl ?_
      refine gp_not rfl ?_
      refine gp_not rfl ?_
      refine gp_not rfl ?_
      refine gp_not rfl ?_
      refine gp_not rfl ?_
      refine gp_ev rfl (e_pk rfl) ?_
      refine gp_ev rfl (e_mv) ?_
      refine gp_not rfl ?_
      refine gp_not rfl ?_
      refine gp_not rfl ?_
      refine gp_ev rfl (e_pk rfl) ?_
      refine gp_ev rfl (e_mv) ?_
      refine gp_not rfl ?_
      refine gp_not rfl ?_
      refine gp_not rfl ?_
      refine gp_ev rfl (e_pk rfl) ?_
      refine gp_nil ?_
      exact ⟨(by (conv => lhs; whnf); try first | rfl | (refine congrArg Value.bool ?_; simp_all) | simp_all), (by (conv => lhs; whnf); try first | rfl | (refine congrArg Value.bool ?_; simp_all) | simp_all), (by (conv => lhs; whnf); refine congrArg Value.bool ?_; rw [Bool.eq_iff_iff, decide_eq_true_iff]; clear hr; unfold rbad1; first | (simp_all; done) | (subst hnl; simp_all; omega) | (subst hnl; simp; omega) | (simp_all; omega) | (simp; omega)), (fun _ h => h.fin (L1 := [blk rj 48 [.slice ea n ec, .slice sa n sc, .slice ta sent.length tc, .int .i64 at_, .int .i64 r, .int .i64 ra], sown 69 1 (.slice ea n ec) n (hdrs ls), sown 23 1 (.slice sa n sc) n (sesV ls), factsM ta tc sent, ownR ls, blk b3 43 (f.cells (.slice a f.data.length c)), A]) (F := F) (by repeat ((conv => arg 1; whnf); (conv => arg 2; whnf); first | with_reducible exact .done | exact Fin.all _ | refine .cons (by repeat ((conv => arg 2; whnf); first | with_reducible exact .here | ((with_reducible refine Del.hereC ?_); rfl) | ((with_reducible refine Del.hereS ?_ ?_ ?_) <;> rfl) | exact .here | apply Del.there)) ?_ | refine .drop ?_)))⟩
    · skip
      refine gp_ev rfl (e_fa Try.underlying43 rfl rfl Try.sizeOf38) ?_
      refine gp_ev rfl (e_ld Try.underlying38 rfl (by repeat ((conv => arg 2; whnf); first | with_reducible exact .here | ((with_reducible refine Del.hereC ?_); rfl) | ((with_reducible refine Del.hereS ?_ ?_ ?_) <;> rfl) | exact .here | apply Del.there)) rfl) ?_
      refine gp_ev rfl (e_gt rfl rfl) ?_
      refine gp_ev rfl (e_pk rfl) ?_
      refine gp_ev rfl (e_mv) ?_
      first | refine gp_dec 17 rfl (fun c17 => ?_) (fun c17 => ?_) | refine gp_ndec 17 rfl (fun c17 => ?_) (fun c17 => ?_) | refine gp_bool 17 rfl (fun c17 => ?_) (fun c17 => ?_)
      · skip
        refine gp_not rfl ?_
        refine gp_not rfl ?_
        refine gp_not rfl ?_
        refine gp_ev rfl (e_pk rfl) ?_
        refine gp_ev rfl (e_mv) ?_
        refine gp_not rfl ?_
        refine gp_not rfl ?_
        refine gp_not rfl ?_
        refine gp_not rfl ?_
        refine gp_not rfl ?_
        refine gp_not rfl ?_
        refine gp_not rfl ?_
        refine gp_not rfl ?_
        refine gp_ev rfl (e_pk rfl) ?_
        refine gp_ev rfl (e_mv) ?_
        refine gp_not rfl ?_
        refine gp_not rfl ?_
        refine gp_not rfl ?_
        refine gp_ev rfl (e_pk rfl) ?_
        refine gp_ev rfl (e_mv) ?_
        refine gp_not rfl ?_
        refine gp_not rfl ?_
        refine gp_not rfl ?_
        refine gp_ev rfl (e_pk rfl) ?_
        refine gp_nil ?_
        exact ⟨(by (conv => lhs; whnf); try first | rfl | (refine congrArg Value.bool ?_; simp_all) | simp_all), (by (conv => lhs; whnf); try first | rfl | (refine congrArg Value.bool ?_; simp_all) | simp_all), (by (conv => lhs; whnf); refine congrArg Value.bool ?_; rw [Bool.eq_iff_iff, decide_eq_true_iff]; clear hr; unfold rbad1; first | (simp_all; done) | (subst hnl; simp_all; omega) | (subst hnl; simp; omega) | (simp_all; omega) | (simp; omega)), (fun _ h => h.fin (L1 := [blk rj 48 [.slice ea n ec, .slice sa n sc, .slice ta sent.length tc, .int .i64 at_, .int .i64 r, .int .i64 ra], sown 69 1 (.slice ea n ec) n (hdrs ls), sown 23 1 (.slice sa n sc) n (sesV ls), factsM ta tc sent, ownR ls, blk b3 43 (f.cells (.slice a f.data.length c)), A]) (F := F) (by repeat ((conv => arg 1; whnf); (conv => arg 2; whnf); first | with_reducible exact .done | exact Fin.all _ | refine .cons (by repeat ((conv => arg 2; whnf); first | with_reducible exact .here | ((with_reducible refine Del.hereC ?_); rfl) | ((with_reducible refine Del.hereS ?_ ?_ ?_) <;> rfl) | exact .here | apply Del.there)) ?_ | refine .drop ?_)))⟩
      · skip
        refine gp_ev rfl (e_fa Try.underlying43 rfl rfl Try.sizeOf3) ?_
        refine gp_ev rfl (e_ld Try.underlying3 rfl (by repeat ((conv => arg 2; whnf); first | with_reducible exact .here | ((with_reducible refine Del.hereC ?_); rfl) | ((with_reducible refine Del.hereS ?_ ?_ ?_) <;> rfl) | exact .here | apply Del.there)) rfl) ?_
        refine gp_ev rfl (e_lt rfl rfl) ?_
        refine gp_ev rfl (e_pk rfl) ?_
        refine gp_ev rfl (e_mv) ?_
        first | refine gp_dec 22 rfl (fun c22 => ?_) (fun c22 => ?_) | refine gp_ndec 22 rfl (fun c22 => ?_) (fun c22 => ?_) | refine gp_bool 22 rfl (fun c22 => ?_) (fun c22 => ?_)
        · skip
          refine gp_not rfl ?_
          refine gp_not rfl ?_
          refine gp_not rfl ?_
          refine gp_not rfl ?_
          refine gp_not rfl ?_
          refine gp_not rfl ?_
          refine gp_not rfl ?_
          refine gp_not rfl ?_
          refine gp_ev rfl (e_pk rfl) ?_
          refine gp_ev rfl (e_mv) ?_
          refine gp_not rfl ?_
          refine gp_not rfl ?_
          refine gp_not rfl ?_
          refine gp_ev rfl (e_pk rfl) ?_
          refine gp_ev rfl (e_mv) ?_
          refine gp_not rfl ?_
          refine gp_not rfl ?_
          refine gp_not rfl ?_
          refine gp_ev rfl (e_pk rfl) ?_
          refine gp_nil ?_
          exact ⟨(by (conv => lhs; whnf); try first | rfl | (refine congrArg Value.bool ?_; simp_all) | simp_all), (by (conv => lhs; whnf); try first | rfl | (refine congrArg Value.bool ?_; simp_all) | simp_all), (by (conv => lhs; whnf); refine congrArg Value.bool ?_; rw [Bool.eq_iff_iff, decide_eq_true_iff]; clear hr; unfold rbad1; first | (simp_all; done) | (subst hnl; simp_all; omega) | (subst hnl; simp; omega) | (simp_all; omega) | (simp; omega)), (fun _ h => h.fin (L1 := [blk rj 48 [.slice ea n ec, .slice sa n sc, .slice ta sent.length tc, .int .i64 at_, .int .i64 r, .int .i64 ra], sown 69 1 (.slice ea n ec) n (hdrs ls), sown 23 1 (.slice sa n sc) n (sesV ls), factsM ta tc sent, ownR ls, blk b3 43 (f.cells (.slice a f.data.length c)), A]) (F := F) (by repeat ((conv => arg 1; whnf); (conv => arg 2; whnf); first | with_reducible exact .done | exact Fin.all _ | refine .cons (by repeat ((conv => arg 2; whnf); first | with_reducible exact .here | ((with_reducible refine Del.hereC ?_); rfl) | ((with_reducible refine Del.hereS ?_ ?_ ?_) <;> rfl) | exact .here | apply Del.there)) ?_ | refine .drop ?_)))⟩
        · skip
          refine gp_ev rfl (e_fa Try.underlying43 rfl rfl Try.sizeOf3) ?_
          refine gp_ev rfl (e_ld Try.underlying3 rfl (by repeat ((conv => arg 2; whnf); first | with_reducible exact .here | ((with_reducible refine Del.hereC ?_); rfl) | ((with_reducible refine Del.hereS ?_ ?_ ?_) <;> rfl) | exact .here | apply Del.there)) rfl) ?_
          refine gp_ev rfl (e_mv) ?_
          refine gp_ev rfl (e_nc rfl) ?_
          refine gp_ev rfl (e_fa Try.underlying48 rfl rfl Try.sizeOf45) ?_
          refine gp_ev rfl (e_ld Try.underlying45 rfl (by repeat ((conv => arg 2; whnf); first | with_reducible exact .here | ((with_reducible refine Del.hereC ?_); rfl) | ((with_reducible refine Del.hereS ?_ ?_ ?_) <;> rfl) | exact .here | apply Del.there)) rfl) ?_
          refine gp_ev rfl (e_len Try.underlying45 rfl) ?_
          refine gp_ev rfl (e_ge rfl rfl) ?_
          refine gp_ev rfl (e_pk rfl) ?_
          refine gp_ev rfl (e_mv) ?_
          first | refine gp_dec 32 rfl (fun c32 => ?_) (fun c32 => ?_) | refine gp_ndec 32 rfl (fun c32 => ?_) (fun c32 => ?_) | refine gp_bool 32 rfl (fun c32 => ?_) (fun c32 => ?_)
          · skip
            refine gp_not rfl ?_
            refine gp_not rfl ?_
            refine gp_not rfl ?_
            refine gp_ev rfl (e_pk rfl) ?_
            refine gp_ev rfl (e_mv) ?_
            refine gp_not rfl ?_
            refine gp_not rfl ?_
            refine gp_not rfl ?_
            refine gp_ev rfl (e_pk rfl) ?_
            refine gp_nil ?_
            exact ⟨(by (conv => lhs; whnf); try first | rfl | (refine congrArg Value.bool ?_; simp_all) | simp_all), (by (conv => lhs; whnf); try first | rfl | (refine congrArg Value.bool ?_; simp_all) | simp_all), (by (conv => lhs; whnf); refine congrArg Value.bool ?_; rw [Bool.eq_iff_iff, decide_eq_true_iff]; clear hr; unfold rbad1; first | (simp_all; done) | (subst hnl; simp_all; omega) | (subst hnl; simp; omega) | (simp_all; omega) | (simp; omega)), (fun _ h => h.fin (L1 := [blk rj 48 [.slice ea n ec, .slice sa n sc, .slice ta sent.length tc, .int .i64 at_, .int .i64 r, .int .i64 ra], sown 69 1 (.slice ea n ec) n (hdrs ls), sown 23 1 (.slice sa n sc) n (sesV ls), factsM ta tc sent, ownR ls, blk b3 43 (f.cells (.slice a f.data.length c)), A]) (F := F) (by repeat ((conv => arg 1; whnf); (conv => arg 2; whnf); first | with_reducible exact .done | exact Fin.all _ | refine .cons (by repeat ((conv => arg 2; whnf); first | with_reducible exact .here | ((with_reducible refine Del.hereC ?_); rfl) | ((with_reducible refine Del.hereS ?_ ?_ ?_) <;> rfl) | exact .here | apply Del.there)) ?_ | refine .drop ?_)))⟩
          · skip
            refine gp_ev rfl (e_fa Try.underlying43 rfl rfl Try.sizeOf39) ?_
            refine gp_ev rfl (e_ld Try.underlying39 rfl (by repeat ((conv => arg 2; whnf); first | with_reducible exact .here | ((with_reducible refine Del.hereC ?_); rfl) | ((with_reducible refine Del.hereS ?_ ?_ ?_) <;> rfl) | exact .here | apply Del.there)) rfl) ?_
            refine gp_ev rfl (e_lt rfl rfl) ?_
            refine gp_ev rfl (e_pk rfl) ?_
            refine gp_ev rfl (e_mv) ?_
            first | refine gp_dec 37 rfl (fun c37 => ?_) (fun c37 => ?_) | refine gp_ndec 37 rfl (fun c37 => ?_) (fun c37 => ?_) | refine gp_bool 37 rfl (fun c37 => ?_) (fun c37 => ?_)
            · skip
              refine gp_not rfl ?_
              refine gp_not rfl ?_
              refine gp_not rfl ?_
              refine gp_ev rfl (e_pk rfl) ?_
              refine gp_nil ?_
              exact ⟨(by (conv => lhs; whnf); try first | rfl | (refine congrArg Value.bool ?_; simp_all) | simp_all), (by (conv => lhs; whnf); try first | rfl | (refine congrArg Value.bool ?_; simp_all) | simp_all), (by (conv => lhs; whnf); refine congrArg Value.bool ?_; rw [Bool.eq_iff_iff, decide_eq_true_iff]; clear hr; unfold rbad1; first | (simp_all; done) | (subst hnl; simp_all; omega) | (subst hnl; simp; omega) | (simp_all; omega) | (simp; omega)), (fun _ h => h.fin (L1 := [blk rj 48 [.slice ea n ec, .slice sa n sc, .slice ta sent.length tc, .int .i64 at_, .int .i64 r, .int .i64 ra], sown 69 1 (.slice ea n ec) n (hdrs ls), sown 23 1 (.slice sa n sc) n (sesV ls), factsM ta tc sent, ownR ls, blk b3 43 (f.cells (.slice a f.data.length c)), A]) (F := F) (by repeat ((conv => arg 1; whnf); (conv => arg 2; whnf); first | with_reducible exact .done | exact Fin.all _ | refine .cons (by repeat ((conv => arg 2; whnf); first | with_reducible exact .here | ((with_reducible refine Del.hereC ?_); rfl) | ((with_reducible refine Del.hereS ?_ ?_ ?_) <;> rfl) | exact .here | apply Del.there)) ?_ | refine .drop ?_)))⟩
            · skip
              refine gp_ev rfl (e_fa Try.underlying43 rfl rfl Try.sizeOf39) ?_
              refine gp_ev rfl (e_ld Try.underlying39 rfl (by repeat ((conv => arg 2; whnf); first | with_reducible exact .here | ((with_reducible refine Del.hereC ?_); rfl) | ((with_reducible refine Del.hereS ?_ ?_ ?_) <;> rfl) | exact .here | apply Del.there)) rfl) ?_
              refine gp_ev rfl (e_gt rfl rfl) ?_
              refine gp_ev rfl (e_pk rfl) ?_
              refine gp_nil ?_
              exact ⟨(by (conv => lhs; whnf); try first | rfl | (refine congrArg Value.bool ?_; simp_all) | simp_all), (by (conv => lhs; whnf); try first | rfl | (refine congrArg Value.bool ?_; simp_all) | simp_all), (by (conv => lhs; whnf); refine congrArg Value.bool ?_; rw [Bool.eq_iff_iff, decide_eq_true_iff]; clear hr; unfold rbad1; first | (simp_all; done) | (subst hnl; simp_all; omega) | (subst hnl; simp; omega) | (simp_all; omega) | (simp; omega)), (fun _ h => h.fin (L1 := [blk rj 48 [.slice ea n ec, .slice sa n sc, .slice ta sent.length tc, .int .i64 at_, .int .i64 r, .int .i64 ra], sown 69 1 (.slice ea n ec) n (hdrs ls), sown 23 1 (.slice sa n sc) n (sesV ls), factsM ta tc sent, ownR ls, blk b3 43 (f.cells (.slice a f.data.length c)), A]) (F := F) (by repeat ((conv => arg 1; whnf); (conv => arg 2; whnf); first | with_reducible exact .done | exact Fin.all _ | refine .cons (by repeat ((conv => arg 2; whnf); first | with_reducible exact .here | ((with_reducible refine Del.hereC ?_); rfl) | ((with_reducible refine Del.hereS ?_ ?_ ?_) <;> rfl) | exact .here | apply Del.there)) ?_ | refine .drop ?_)))⟩
  · rintro E L ⟨s0, s3, s41, hL⟩
    refine gc_imp hL ?_
    refine gc_slot 0 _ ?_ s0
    refine gc_slot 3 _ ?_ s3
    refine gc_slot 41 _ ?_ s41
    clear hL s0 s3 s41
    first | refine gc_dec rfl (fun c41 => ?_) (fun c41 => ?_) | refine gc_ndec rfl (fun c41 => ?_) (fun c41 => ?_) | refine gc_cond rfl (fun c41 => ?_) (fun c41 => ?_)
    · skip
      refine gc_seq ?_
      refine gc_region ?_
      refine g_ev (e_as) ?_
      refine g_nil ?_
      refine gc_ret ?_
      exact ret1 (v := .int .i64 1) (L1 := [blk rj 48 [.slice ea n ec, .slice sa n sc, .slice ta sent.length tc, .int .i64 at_, .int .i64 r, .int .i64 ra], sown 69 1 (.slice ea n ec) n (hdrs ls), sown 23 1 (.slice sa n sc) n (sesV ls), factsM ta tc sent, ownR ls, A]) rfl (by (conv => lhs; whnf); try rfl) ⟨ta, tc, ls, sent, 1, rfl, rfl, by unfold rruleJ; rw [if_pos c41]⟩ (fun _ h => h.fin (by repeat ((conv => arg 1; whnf); (conv => arg 2; whnf); first | with_reducible exact .done | exact Fin.all _ | refine .cons (by repeat ((conv => arg 2; whnf); first | with_reducible exact .here | ((with_reducible refine Del.hereC ?_); rfl) | ((with_reducible refine Del.hereS ?_ ?_ ?_) <;> rfl) | exact .here | apply Del.there)) ?_ | refine .drop ?_)))
    · skip
      refine gc_skip ?_
      refine gc_seq ?_
      obtain ⟨l1, l, l2, rfl, hconn⟩ := rsplit c41
      have hsd : f.side = 1 ∨ f.side = 2 := by unfold rbad1 at c41; omega
      obtain ⟨pre2, post2, x, hget, hp2, hv1, hv2, hv3⟩ := rview l f.side hsd
      have hn0 : 0 < n := by rw [← hnl, List.length_append, List.length_cons]; omega
      have hl1 : l1.length < n := by rw [← hnl, List.length_append, List.length_cons]; omega
      refine gc_imp (L' := blk rj 48 [.slice ea n ec, .slice sa n sc, .slice ta sent.length tc, .int .i64 at_, .int .i64 r, .int .i64 ra] :: sown 69 1 (.slice ea n ec) n (hdrs (l1 ++ l :: l2)) :: sown 23 1 (.slice sa n sc) n (sesV (l1 ++ l :: l2)) :: factsM ta tc sent :: blk l.be 68 (pre2 ++ (x.cells ++ post2)) :: allP (l1.map RLine.part ++ l2.map RLine.part) :: blk b3 43 (f.cells (.slice a f.data.length c)) :: A :: F) (fun w h => ?_) ?_
      · have h1 := ownR_take (h.fin (L1 := [ownR (l1 ++ l :: l2), blk rj 48 [.slice ea n ec, .slice sa n sc, .slice ta sent.length tc, .int .i64 at_, .int .i64 r, .int .i64 ra], sown 69 1 (.slice ea n ec) n (hdrs (l1 ++ l :: l2)), sown 23 1 (.slice sa n sc) n (sesV (l1 ++ l :: l2)), factsM ta tc sent, blk b3 43 (f.cells (.slice a f.data.length c)), A]) (F := F) (by repeat ((conv => arg 1; whnf); (conv => arg 2; whnf); first | with_reducible exact .done | exact Fin.all _ | refine .cons (by repeat ((conv => arg 2; whnf); first | with_reducible exact .here | ((with_reducible refine Del.hereC ?_); rfl) | ((with_reducible refine Del.hereS ?_ ?_ ?_) <;> rfl) | exact .here | apply Del.there)) ?_ | refine .drop ?_)))
        have h2 : Sat B w (blk l.be 68 (pre2 ++ (x.cells ++ post2)) :: allP (l1.map RLine.part ++ l2.map RLine.part) :: blk rj 48 [.slice ea n ec, .slice sa n sc, .slice ta sent.length tc, .int .i64 at_, .int .i64 r, .int .i64 ra] :: sown 69 1 (.slice ea n ec) n (hdrs (l1 ++ l :: l2)) :: sown 23 1 (.slice sa n sc) n (sesV (l1 ++ l :: l2)) :: factsM ta tc sent :: blk b3 43 (f.cells (.slice a f.data.length c)) :: A :: F) := by rw [← hv1]; exact h1
        exact h2.fin (L1 := [blk rj 48 [.slice ea n ec, .slice sa n sc, .slice ta sent.length tc, .int .i64 at_, .int .i64 r, .int .i64 ra], sown 69 1 (.slice ea n ec) n (hdrs (l1 ++ l :: l2)), sown 23 1 (.slice sa n sc) n (sesV (l1 ++ l :: l2)), factsM ta tc sent, blk l.be 68 (pre2 ++ (x.cells ++ post2)), allP (l1.map RLine.part ++ l2.map RLine.part), blk b3 43 (f.cells (.slice a f.data.length c)), A]) (F := F) (by repeat ((conv => arg 1; whnf); (conv => arg 2; whnf); first | with_reducible exact .done | exact Fin.all _ | refine .cons (by repeat ((conv => arg 2; whnf); first | with_reducible exact .here | ((with_reducible refine Del.hereC ?_); rfl) | ((with_reducible refine Del.hereS ?_ ?_ ?_) <;> rfl) | exact .here | apply Del.there)) ?_ | refine .drop ?_))
      refine gc_fact (φ := (∃ p, ea = some p) ∧ (∃ p, sa = some p)) (fun w h => ⟨(h.rds (e := 69) (k := 1) (by repeat ((conv => arg 2; whnf); first | with_reducible exact .here | ((with_reducible refine Del.hereC ?_); rfl) | ((with_reducible refine Del.hereS ?_ ?_ ?_) <;> rfl) | exact .here | apply Del.there))).ex hn0, (h.rds (e := 23) (k := 1) (by repeat ((conv => arg 2; whnf); first | with_reducible exact .here | ((with_reducible refine Del.hereC ?_); rfl) | ((with_reducible refine Del.hereS ?_ ?_ ?_) <;> rfl) | exact .here | apply Del.there))).ex hn0⟩) fun ⟨⟨pe, e1⟩, ⟨pq, e2⟩⟩ => ?_
      subst e1; subst e2
      have hg1 : (hdrs (l1 ++ l :: l2))[l1.length * 1]? = some (.slice (some ⟨l.be, 0, none⟩) 2 2) := by simp [hdrs]
      have hg2 : (sesV (l1 ++ l :: l2))[l1.length * 1]? = some (.int .u32 (l.ses : Int)) := by simp [sesV, sess]
      refine gc_draw (D := []) (fin := none) (plan := [(true, 0), (true, 1), (true, 2), (true, 3), (true, 4), (true, 5), (true, 6), (true, 7), (true, 8), (true, 9), (true, 10), (true, 11), (true, 12)]) rfl (by kernel_rfl) (by kernel_rfl) rfl .nil ?_
      refine gp_ev rfl (e_mv) ?_
      refine gp_ev rfl (e_nc rfl) ?_
      refine gp_ev rfl (e_fa Try.underlying48 rfl rfl Try.sizeOf45) ?_
      refine gp_ev rfl (e_ld Try.underlying45 rfl (by repeat ((conv => arg 2; whnf); first | with_reducible exact .here | ((with_reducible refine Del.hereC ?_); rfl) | ((with_reducible refine Del.hereS ?_ ?_ ?_) <;> rfl) | exact .here | apply Del.there)) rfl) ?_
      refine gp_ev rfl (e_fa Try.underlying43 rfl rfl Try.sizeOf3) ?_
      refine gp_ev rfl (e_ld Try.underlying3 rfl (by repeat ((conv => arg 2; whnf); first | with_reducible exact .here | ((with_reducible refine Del.hereC ?_); rfl) | ((with_reducible refine Del.hereS ?_ ?_ ?_) <;> rfl) | exact .here | apply Del.there)) rfl) ?_
      refine gp_ev rfl (e_iaA (q := l1.length) Try.underlying45 Try.sizeOf69 rfl rfl hconn hl1) ?_
      refine gp_ev rfl (e_ldc (v := .slice (some ⟨l.be, 0, none⟩) 2 2) Try.underlying69 rfl (fun B w h => (h.rds (e := 69) (k := 1) (by repeat ((conv => arg 2; whnf); first | with_reducible exact .here | ((with_reducible refine Del.hereC ?_); rfl) | ((with_reducible refine Del.hereS ?_ ?_ ?_) <;> rfl) | exact .here | apply Del.there))).at_ hg1)) ?_
      refine gp_ev rfl (e_fa Try.underlying43 rfl rfl Try.sizeOf39) ?_
      refine gp_ev rfl (e_ld Try.underlying39 rfl (by repeat ((conv => arg 2; whnf); first | with_reducible exact .here | ((with_reducible refine Del.hereC ?_); rfl) | ((with_reducible refine Del.hereS ?_ ?_ ?_) <;> rfl) | exact .here | apply Del.there)) rfl) ?_
      refine gp_ev rfl (e_subw rfl rfl) ?_
      refine gp_ev rfl (e_ia (o := pre2.length) (q := (f.side - 1).toNat) Try.underlying69 Try.sizeOf68 rfl rfl (by rcases hsd with h | h <;> rw [h] <;> rfl) (by omega) (by rw [hp2]; omega)) ?_
      refine gp_ev rfl (e_as) ?_
      refine gp_nil ?_
      refine gc_seq ?_
      refine gc_region ?_
      refine g_ev (e_fa Try.underlying43 rfl rfl Try.sizeOf39) ?_
      refine g_ev (e_ld Try.underlying39 rfl (by repeat ((conv => arg 2; whnf); first | with_reducible exact .here | ((with_reducible refine Del.hereC ?_); rfl) | ((with_reducible refine Del.hereS ?_ ?_ ?_) <;> rfl) | exact .here | apply Del.there)) rfl) ?_
      refine g_ev (e_eq rfl rfl) ?_
      refine g_ev (e_as) ?_
      refine g_nil ?_
      refine gc_seq ?_
      refine gc_seq ?_
      refine gc_region ?_
      refine g_ev (e_fa Try.underlying43 rfl rfl Try.sizeOf38) ?_
      refine g_ev (e_ld Try.underlying38 rfl (by repeat ((conv => arg 2; whnf); first | with_reducible exact .here | ((with_reducible refine Del.hereC ?_); rfl) | ((with_reducible refine Del.hereS ?_ ?_ ?_) <;> rfl) | exact .here | apply Del.there)) rfl) ?_
      refine g_nil ?_
      refine gc_block ?_
      refine gc_seq ?_
      refine gc_region ?_
      refine g_ev (e_eq rfl rfl) ?_
      refine g_ev (e_as) ?_
      refine g_nil ?_
      first | refine gc_dec rfl (fun c59 => ?_) (fun c59 => ?_) | refine gc_ndec rfl (fun c59 => ?_) (fun c59 => ?_) | refine gc_cond rfl (fun c59 => ?_) (fun c59 => ?_)
      · skip
        refine gc_imp (L' := sown 43 8 (.slice ta sent.length tc) sent.length (fcells sent) :: blk rj 48 [.slice (some pe) n ec, .slice (some pq) n sc, .slice ta sent.length tc, .int .i64 at_, .int .i64 r, .int .i64 ra] :: sown 69 1 (.slice (some pe) n ec) n (hdrs (l1 ++ l :: l2)) :: sown 23 1 (.slice (some pq) n sc) n (sesV (l1 ++ l :: l2)) :: blk l.be 68 (pre2 ++ (x.cells ++ post2)) :: allP (l1.map RLine.part ++ l2.map RLine.part) :: blk b3 43 (f.cells (.slice a f.data.length c)) :: A :: ownD sent :: F) (fun w h => ?_) ?_
        · have h1 := Sat.unpack (h.fin (L1 := [factsM ta tc sent, blk rj 48 [.slice (some pe) n ec, .slice (some pq) n sc, .slice ta sent.length tc, .int .i64 at_, .int .i64 r, .int .i64 ra], sown 69 1 (.slice (some pe) n ec) n (hdrs (l1 ++ l :: l2)), sown 23 1 (.slice (some pq) n sc) n (sesV (l1 ++ l :: l2)), blk l.be 68 (pre2 ++ (x.cells ++ post2)), allP (l1.map RLine.part ++ l2.map RLine.part), blk b3 43 (f.cells (.slice a f.data.length c)), A]) (F := F) (by repeat ((conv => arg 1; whnf); (conv => arg 2; whnf); first | with_reducible exact .done | exact Fin.all _ | refine .cons (by repeat ((conv => arg 2; whnf); first | with_reducible exact .here | ((with_reducible refine Del.hereC ?_); rfl) | ((with_reducible refine Del.hereS ?_ ?_ ?_) <;> rfl) | exact .here | apply Del.there)) ?_ | refine .drop ?_)))
          exact h1.fin (L1 := [sown 43 8 (.slice ta sent.length tc) sent.length (fcells sent), blk rj 48 [.slice (some pe) n ec, .slice (some pq) n sc, .slice ta sent.length tc, .int .i64 at_, .int .i64 r, .int .i64 ra], sown 69 1 (.slice (some pe) n ec) n (hdrs (l1 ++ l :: l2)), sown 23 1 (.slice (some pq) n sc) n (sesV (l1 ++ l :: l2)), blk l.be 68 (pre2 ++ (x.cells ++ post2)), allP (l1.map RLine.part ++ l2.map RLine.part), blk b3 43 (f.cells (.slice a f.data.length c)), A, ownD sent]) (F := F) (by repeat ((conv => arg 1; whnf); (conv => arg 2; whnf); first | with_reducible exact .done | exact Fin.all _ | refine .cons (by repeat ((conv => arg 2; whnf); first | with_reducible exact .here | ((with_reducible refine Del.hereC ?_); rfl) | ((with_reducible refine Del.hereS ?_ ?_ ?_) <;> rfl) | exact .here | apply Del.there)) ?_ | refine .drop ?_))
        refine gc_draw (D := [sown 43 8 (.slice ta sent.length tc) sent.length (fcells sent), A]) (fin := some 22) (plan := [(true, 0), (true, 1), (true, 2), (true, 3), (true, 4), (true, 5), (true, 6), (true, 7), (true, 8), (true, 9), (true, 10), (true, 11), (true, 12), (true, 14), (true, 15), (false, 13), (false, 16), (true, 17), (false, 18), (false, 19), (true, 20), (true, 21), (false, 22)]) rfl (by kernel_rfl) (by kernel_rfl) rfl (.cons (by repeat ((conv => arg 2; whnf); first | with_reducible exact .here | ((with_reducible refine Del.hereC ?_); rfl) | ((with_reducible refine Del.hereS ?_ ?_ ?_) <;> rfl) | exact .here | apply Del.there)) (.cons (by repeat ((conv => arg 2; whnf); first | with_reducible exact .here | ((with_reducible refine Del.hereC ?_); rfl) | ((with_reducible refine Del.hereS ?_ ?_ ?_) <;> rfl) | exact .here | apply Del.there)) (.nil))) ?_
        refine gp_ev rfl (e_mv) ?_
        refine gp_ev rfl (e_mv) ?_
        refine gp_ev rfl (e_nc rfl) ?_
        refine gp_ev rfl (e_fa Try.underlying48 rfl rfl Try.sizeOf26) ?_
        refine gp_ev rfl (e_ld Try.underlying26 rfl (by repeat ((conv => arg 2; whnf); first | with_reducible exact .here | ((with_reducible refine Del.hereC ?_); rfl) | ((with_reducible refine Del.hereS ?_ ?_ ?_) <;> rfl) | exact .here | apply Del.there)) rfl) ?_
        refine gp_ev rfl (e_fa Try.underlying43 rfl rfl Try.sizeOf3) ?_
        refine gp_ev rfl (e_ld Try.underlying3 rfl (by repeat ((conv => arg 2; whnf); first | with_reducible exact .here | ((with_reducible refine Del.hereC ?_); rfl) | ((with_reducible refine Del.hereS ?_ ?_ ?_) <;> rfl) | exact .here | apply Del.there)) rfl) ?_
        refine gp_ev rfl (e_fa Try.underlying43 rfl rfl Try.sizeOf39) ?_
        refine gp_ev rfl (e_ld Try.underlying39 rfl (by repeat ((conv => arg 2; whnf); first | with_reducible exact .here | ((with_reducible refine Del.hereC ?_); rfl) | ((with_reducible refine Del.hereS ?_ ?_ ?_) <;> rfl) | exact .here | apply Del.there)) rfl) ?_
        refine gp_ev rfl (e_fa Try.underlying43 rfl rfl Try.sizeOf23) ?_
        refine gp_ev rfl (e_ld Try.underlying23 rfl (by repeat ((conv => arg 2; whnf); first | with_reducible exact .here | ((with_reducible refine Del.hereC ?_); rfl) | ((with_reducible refine Del.hereS ?_ ?_ ?_) <;> rfl) | exact .here | apply Del.there)) rfl) ?_
        refine gp_ev rfl (e_fa Try.underlying43 rfl rfl Try.sizeOf23) ?_
        refine gp_ev rfl (e_ld Try.underlying23 rfl (by repeat ((conv => arg 2; whnf); first | with_reducible exact .here | ((with_reducible refine Del.hereC ?_); rfl) | ((with_reducible refine Del.hereS ?_ ?_ ?_) <;> rfl) | exact .here | apply Del.there)) rfl) ?_
        refine gp_ev rfl (e_fa Try.underlying43 rfl rfl Try.sizeOf41) ?_
        refine gp_ev rfl (e_ld Try.underlying41 rfl (by repeat ((conv => arg 2; whnf); first | with_reducible exact .here | ((with_reducible refine Del.hereC ?_); rfl) | ((with_reducible refine Del.hereS ?_ ?_ ?_) <;> rfl) | exact .here | apply Del.there)) rfl) ?_
        refine gp_eff rfl (s_bs0 Try.underlying41 Try.sizeOf5) ?_
        rintro _ _ ⟨b74, rfl, rfl⟩
        refine gp_eff rfl (s_ap0 (bytes := 1) (k := 1) Try.underlying41 info5 rfl rfl rfl rfl (by decide) rfl rfl (by repeat ((conv => arg 2; whnf); first | with_reducible exact .here | ((with_reducible refine Del.hereC ?_); rfl) | ((with_reducible refine Del.hereS ?_ ?_ ?_) <;> rfl) | exact .here | apply Del.there)) (fun B w h => hr B w ((h.fin (L1 := [A]) (F := []) (by repeat ((conv => arg 1; whnf); (conv => arg 2; whnf); first | with_reducible exact .done | exact Fin.all _ | refine .cons (by repeat ((conv => arg 2; whnf); first | with_reducible exact .here | ((with_reducible refine Del.hereC ?_); rfl) | ((with_reducible refine Del.hereS ?_ ?_ ?_) <;> rfl) | exact .here | apply Del.there)) ?_ | refine .drop ?_))).left (L1 := [A]))) (bv_one _) (by omega) (by unfold maxLen; omega)) ?_
        rintro _ _ ⟨a2, c2, rfl, rfl, hna⟩
        refine gp_ev rfl ((e_bd Try.underlying43 Try.zeroValue43 pl743 rfl).to (v' := .agg ⟨[.int .i64 0, .int .i64 f.conn, .int .i64 f.side, .int .u32 (f.sess : Int), .int .u32 (f.num : Int), .bool false, .int .i64 0, .slice a2 f.data.length c2]⟩) rfl) ?_
        refine gp_eff rfl (s_bs1 (us := [.int .i64 0, .int .i64 f.conn, .int .i64 f.side, .int .u32 (f.sess : Int), .int .u32 (f.num : Int), .bool false, .int .i64 0, .slice a2 f.data.length c2]) Try.underlying26 Try.sizeOf43 Try.zeroValue43 rfl) ?_
        rintro _ _ ⟨b79, rfl, rfl⟩
        refine gp_eff rfl (s_ap (bytes := 72) (k := 8) Try.underlying26 info43 rfl rfl rfl rfl (by decide) rfl rfl (by repeat ((conv => arg 2; whnf); first | with_reducible exact .here | ((with_reducible refine Del.hereC ?_); rfl) | ((with_reducible refine Del.hereS ?_ ?_ ?_) <;> rfl) | exact .here | apply Del.there)) (fun B w h => h.rdsk0 (by repeat ((conv => arg 2; whnf); first | with_reducible exact .here | ((with_reducible refine Del.hereC ?_); rfl) | ((with_reducible refine Del.hereS ?_ ?_ ?_) <;> rfl) | exact .here | apply Del.there)) rfl) (by simp [Value.oneCell']) (by omega) (by unfold maxLen; omega)) ?_
        rintro _ _ ⟨ta2, tc2, rfl, rfl, hn2⟩
        refine gp_ev rfl (e_nc rfl) ?_
        refine gp_ev rfl (e_fa Try.underlying48 rfl rfl Try.sizeOf26) ?_
        refine gp_fin rfl (s_st Try.sizeOf26 rfl (by repeat ((conv => arg 3; whnf); first | with_reducible exact .here | apply Turn.there))) ?_
        rintro _ _ ⟨rfl, rfl⟩
        refine gp_nil0 ?_
        refine gc_seq ?_
        refine gc_region ?_
        refine g_ev (e_as) ?_
        refine g_nil ?_
        refine gc_ret ?_
        have hx : l.rule f (hasSent (sent.map fun x : FactV => x.f) f) = (0, l) := by unfold RLine.rule; rw [if_pos c59]
        have hs : sentR (sent.map fun x : FactV => x.f) f = (sent ++ [(⟨unitOf f, a2, c2⟩ : FactV)]).map fun x : FactV => x.f := by unfold sentR; rw [if_pos c59, List.map_append]; rfl
        have hw := rruleJ_eq c41 hconn hx hs
        exact ret1 (v := .int .i64 0) (L1 := [blk rj 48 [.slice (some pe) n ec, .slice (some pq) n sc, .slice ta2 (sent ++ [(⟨unitOf f, a2, c2⟩ : FactV)]).length tc2, .int .i64 at_, .int .i64 r, .int .i64 ra], sown 69 1 (.slice (some pe) n ec) n (hdrs (l1 ++ l :: l2)), sown 23 1 (.slice (some pq) n sc) n (sesV (l1 ++ l :: l2)), factsM ta2 tc2 (sent ++ [(⟨unitOf f, a2, c2⟩ : FactV)]), ownR (l1 ++ l :: l2), A]) rfl (by (conv => lhs; whnf); try rfl) ⟨ta2, tc2, (l1 ++ l :: l2), sent ++ [(⟨unitOf f, a2, c2⟩ : FactV)], 0, rfl, rfl, hw⟩ (fun w h => rr_shut rfl (by
          rw [hv1]
          have hm : sent.length + 1 = (sent ++ [(⟨unitOf f, a2, c2⟩ : FactV)]).length := by rw [List.length_append]; rfl
          have h1 := facts_snoc (y := (⟨unitOf f, a2, c2⟩ : FactV)) hm (h.fin (L1 := [sown 43 8 (.slice ta2 (sent.length + 1) tc2) (sent.length + 1) (fcells sent ++ (⟨unitOf f, a2, c2⟩ : FactV).cells), ownD sent, (⟨unitOf f, a2, c2⟩ : FactV).part, blk rj 48 [.slice (some pe) n ec, .slice (some pq) n sc, .slice ta2 (sent.length + 1) tc2, .int .i64 at_, .int .i64 r, .int .i64 ra], sown 69 1 (.slice (some pe) n ec) n (hdrs (l1 ++ l :: l2)), sown 23 1 (.slice (some pq) n sc) n (sesV (l1 ++ l :: l2)), blk l.be 68 (pre2 ++ (x.cells ++ post2)), allP (l1.map RLine.part ++ l2.map RLine.part), A]) (F := F) (by repeat ((conv => arg 1; whnf); (conv => arg 2; whnf); first | with_reducible exact .done | exact Fin.all _ | refine .cons (by repeat ((conv => arg 2; whnf); first | with_reducible exact .here | ((with_reducible refine Del.hereC ?_); rfl) | ((with_reducible refine Del.hereS ?_ ?_ ?_) <;> rfl) | exact .here | apply Del.there)) ?_ | refine .drop ?_)))
          rw [← hm]
          exact h1.fin (L1 := [blk rj 48 [.slice (some pe) n ec, .slice (some pq) n sc, .slice ta2 (sent.length + 1) tc2, .int .i64 at_, .int .i64 r, .int .i64 ra], sown 69 1 (.slice (some pe) n ec) n (hdrs (l1 ++ l :: l2)), sown 23 1 (.slice (some pq) n sc) n (sesV (l1 ++ l :: l2)), factsM ta2 tc2 (sent ++ [(⟨unitOf f, a2, c2⟩ : FactV)]), blk l.be 68 (pre2 ++ (x.cells ++ post2)), allP (l1.map RLine.part ++ l2.map RLine.part), A]) (F := F) (by repeat ((conv => arg 1; whnf); (conv => arg 2; whnf); first | with_reducible exact .done | exact Fin.all _ | refine .cons (by repeat ((conv => arg 2; whnf); first | with_reducible exact .here | ((with_reducible refine Del.hereC ?_); rfl) | ((with_reducible refine Del.hereS ?_ ?_ ?_) <;> rfl) | exact .here | apply Del.there)) ?_ | refine .drop ?_))))
      · skip
        refine gc_seq ?_
        refine gc_region ?_
        refine g_ev (e_eq rfl rfl) ?_
        refine g_ev (e_as) ?_
        refine g_nil ?_
        first | refine gc_dec rfl (fun c83 => ?_) (fun c83 => ?_) | refine gc_ndec rfl (fun c83 => ?_) (fun c83 => ?_) | refine gc_cond rfl (fun c83 => ?_) (fun c83 => ?_)
        · skip
          refine gc_seq ?_
          refine gc_seq ?_
          refine gc_cut (fun E L => E 0 = .pointer (some ⟨rj, 0, none⟩) ∧ E 3 = .pointer (some ⟨b3, 0, none⟩) ∧ E 5 = .pointer (some ⟨l.be, pre2.length, none⟩) ∧ E 6 = .bool (decide (f.side = 2)) ∧ E 104 = .bool (decide (rbad2 f (hasSent (sent.map fun x : FactV => x.f) f) l.ses)) ∧ ∀ w, Sat B w L → Sat B w (blk rj 48 [.slice (some pe) n ec, .slice (some pq) n sc, .slice ta sent.length tc, .int .i64 at_, .int .i64 r, .int .i64 ra] :: sown 69 1 (.slice (some pe) n ec) n (hdrs (l1 ++ l :: l2)) :: sown 23 1 (.slice (some pq) n sc) n (sesV (l1 ++ l :: l2)) :: factsM ta tc sent :: blk l.be 68 (pre2 ++ (x.cells ++ post2)) :: allP (l1.map RLine.part ++ l2.map RLine.part) :: blk b3 43 (f.cells (.slice a f.data.length c)) :: A :: F)) ?_ ?_
          · skip
            refine gc_draw (D := [blk rj 48 [.slice (some pe) n ec, .slice (some pq) n sc, .slice ta sent.length tc, .int .i64 at_, .int .i64 r, .int .i64 ra], factsM ta tc sent, A]) (fin := none) (plan := [(true, 0), (true, 1), (false, 2), (true, 3), (true, 4), (true, 5), (true, 6), (true, 7), (true, 8), (true, 9), (true, 10), (true, 11), (true, 13), (true, 14), (false, 12), (true, 15), (true, 16), (true, 17), (true, 18), (true, 19)]) rfl (by kernel_rfl) (by kernel_rfl) rfl (.cons (by repeat ((conv => arg 2; whnf); first | with_reducible exact .here | ((with_reducible refine Del.hereC ?_); rfl) | ((with_reducible refine Del.hereS ?_ ?_ ?_) <;> rfl) | exact .here | apply Del.there)) (.cons (by repeat ((conv => arg 2; whnf); first | with_reducible exact .here | ((with_reducible refine Del.hereC ?_); rfl) | ((with_reducible refine Del.hereS ?_ ?_ ?_) <;> rfl) | exact .here | apply Del.there)) (.cons (by repeat ((conv => arg 2; whnf); first | with_reducible exact .here | ((with_reducible refine Del.hereC ?_); rfl) | ((with_reducible refine Del.hereS ?_ ?_ ?_) <;> rfl) | exact .here | apply Del.there)) (.nil)))) ?_
            refine gp_ev rfl (e_mv) ?_
            refine gp_ev rfl (e_ldA Try.underlying43 rfl (by repeat ((conv => arg 2; whnf); first | with_reducible exact .here | ((with_reducible refine Del.hereC ?_); rfl) | ((with_reducible refine Del.hereS ?_ ?_ ?_) <;> rfl) | exact .here | apply Del.there)) Try.sizeOf43 (by simp)) ?_
            refine gp_eff rfl (s_call (rsent_t f hr hn) (.cons (by repeat ((conv => arg 2; whnf); first | with_reducible exact .here | ((with_reducible refine Del.hereC ?_); rfl) | ((with_reducible refine Del.hereS ?_ ?_ ?_) <;> rfl) | exact .here | apply Del.there)) (.cons (by repeat ((conv => arg 2; whnf); first | with_reducible exact .here | ((with_reducible refine Del.hereC ?_); rfl) | ((with_reducible refine Del.hereS ?_ ?_ ?_) <;> rfl) | exact .here | apply Del.there)) (.cons (by repeat ((conv => arg 2; whnf); first | with_reducible exact .here | ((with_reducible refine Del.hereC ?_); rfl) | ((with_reducible refine Del.hereS ?_ ?_ ?_) <;> rfl) | exact .here | apply Del.there)) (.nil))))) ?_
            rintro _ _ ⟨_, ⟨rfl, rfl⟩, rfl⟩
            refine gp_ev rfl (e_not' rfl) ?_
            refine gp_ev rfl (e_mv) ?_
            first | refine gp_dec 89 rfl (fun c89 => ?_) (fun c89 => ?_) | refine gp_ndec 89 rfl (fun c89 => ?_) (fun c89 => ?_) | refine gp_bool 89 rfl (fun c89 => ?_) (fun c89 => ?_)
            · skip
              refine gp_not rfl ?_
              refine gp_not rfl ?_
              refine gp_not rfl ?_
              refine gp_not rfl ?_
              refine gp_not rfl ?_
              refine gp_not rfl ?_
              refine gp_not rfl ?_
              refine gp_not rfl ?_
              refine gp_not rfl ?_
              refine gp_notf rfl ?_
              refine gp_not rfl ?_
              refine gp_not rfl ?_
              refine gp_not rfl ?_
              refine gp_not rfl ?_
              refine gp_ev rfl (e_pk rfl) ?_
              refine gp_nil ?_
              exact ⟨(by (conv => lhs; whnf); try first | rfl | (refine congrArg Value.bool ?_; simp_all) | simp_all), (by (conv => lhs; whnf); try first | rfl | (refine congrArg Value.bool ?_; simp_all) | simp_all), (by (conv => lhs; whnf); try first | rfl | (refine congrArg Value.bool ?_; simp_all) | simp_all), (by (conv => lhs; whnf); try first | rfl | (refine congrArg Value.bool ?_; simp_all) | simp_all), (by (conv => lhs; whnf); refine congrArg Value.bool ?_; rw [Bool.eq_iff_iff, decide_eq_true_iff]; clear hr; unfold rbad2; first | (simp_all; done) | (simp_all; omega) | (simp; omega)), (fun _ h => h.fin (L1 := [blk rj 48 [.slice (some pe) n ec, .slice (some pq) n sc, .slice ta sent.length tc, .int .i64 at_, .int .i64 r, .int .i64 ra], sown 69 1 (.slice (some pe) n ec) n (hdrs (l1 ++ l :: l2)), sown 23 1 (.slice (some pq) n sc) n (sesV (l1 ++ l :: l2)), factsM ta tc sent, blk l.be 68 (pre2 ++ (x.cells ++ post2)), allP (l1.map RLine.part ++ l2.map RLine.part), blk b3 43 (f.cells (.slice a f.data.length c)), A]) (F := F) (by repeat ((conv => arg 1; whnf); (conv => arg 2; whnf); first | with_reducible exact .done | exact Fin.all _ | refine .cons (by repeat ((conv => arg 2; whnf); first | with_reducible exact .here | ((with_reducible refine Del.hereC ?_); rfl) | ((with_reducible refine Del.hereS ?_ ?_ ?_) <;> rfl) | exact .here | apply Del.there)) ?_ | refine .drop ?_)))⟩
            · skip
              refine gp_ev rfl (e_mv) ?_
              refine gp_ev rfl (e_mv) ?_
              first | refine gp_dec 91 rfl (fun c91 => ?_) (fun c91 => ?_) | refine gp_ndec 91 rfl (fun c91 => ?_) (fun c91 => ?_) | refine gp_bool 91 rfl (fun c91 => ?_) (fun c91 => ?_)
              · skip
                refine gp_ev rfl (e_fa Try.underlying43 rfl rfl Try.sizeOf23) ?_
                refine gp_ev rfl (e_ld Try.underlying23 rfl (by repeat ((conv => arg 2; whnf); first | with_reducible exact .here | ((with_reducible refine Del.hereC ?_); rfl) | ((with_reducible refine Del.hereS ?_ ?_ ?_) <;> rfl) | exact .here | apply Del.there)) rfl) ?_
                refine gp_ev rfl (e_mv) ?_
                refine gp_ev rfl (e_nc rfl) ?_
                refine gp_ev rfl (e_fa Try.underlying48 rfl rfl Try.sizeOf46) ?_
                refine gp_ev rfl (e_fa Try.underlying43 rfl rfl Try.sizeOf3) ?_
                refine gp_ev rfl (e_ld Try.underlying3 rfl (by repeat ((conv => arg 2; whnf); first | with_reducible exact .here | ((with_reducible refine Del.hereC ?_); rfl) | ((with_reducible refine Del.hereS ?_ ?_ ?_) <;> rfl) | exact .here | apply Del.there)) rfl) ?_
                refine gp_evf rfl (e_ld Try.underlying46 rfl (by repeat ((conv => arg 2; whnf); first | with_reducible exact .here | ((with_reducible refine Del.hereC ?_); rfl) | ((with_reducible refine Del.hereS ?_ ?_ ?_) <;> rfl) | exact .here | apply Del.there)) rfl) ?_
                refine gp_ev rfl (e_iaA (q := l1.length) Try.underlying46 Try.sizeOf23 rfl rfl hconn hl1) ?_
                refine gp_ev rfl (e_ldc (v := .int .u32 (l.ses : Int)) Try.underlying23 rfl (fun B w h => (h.rds (e := 23) (k := 1) (by repeat ((conv => arg 2; whnf); first | with_reducible exact .here | ((with_reducible refine Del.hereC ?_); rfl) | ((with_reducible refine Del.hereS ?_ ?_ ?_) <;> rfl) | exact .here | apply Del.there))).at_ hg2)) ?_
                refine gp_ev rfl (e_ne rfl rfl) ?_
                refine gp_ev rfl (e_pk rfl) ?_
                refine gp_ev rfl (e_pk rfl) ?_
                refine gp_nil ?_
                exact ⟨(by (conv => lhs; whnf); try first | rfl | (refine congrArg Value.bool ?_; simp_all) | simp_all), (by (conv => lhs; whnf); try first | rfl | (refine congrArg Value.bool ?_; simp_all) | simp_all), (by (conv => lhs; whnf); try first | rfl | (refine congrArg Value.bool ?_; simp_all) | simp_all), (by (conv => lhs; whnf); try first | rfl | (refine congrArg Value.bool ?_; simp_all) | simp_all), (by (conv => lhs; whnf); refine congrArg Value.bool ?_; rw [Bool.eq_iff_iff, decide_eq_true_iff]; clear hr; unfold rbad2; first | (simp_all; done) | (simp_all; omega) | (simp; omega)), (fun _ h => h.fin (L1 := [blk rj 48 [.slice (some pe) n ec, .slice (some pq) n sc, .slice ta sent.length tc, .int .i64 at_, .int .i64 r, .int .i64 ra], sown 69 1 (.slice (some pe) n ec) n (hdrs (l1 ++ l :: l2)), sown 23 1 (.slice (some pq) n sc) n (sesV (l1 ++ l :: l2)), factsM ta tc sent, blk l.be 68 (pre2 ++ (x.cells ++ post2)), allP (l1.map RLine.part ++ l2.map RLine.part), blk b3 43 (f.cells (.slice a f.data.length c)), A]) (F := F) (by repeat ((conv => arg 1; whnf); (conv => arg 2; whnf); first | with_reducible exact .done | exact Fin.all _ | refine .cons (by repeat ((conv => arg 2; whnf); first | with_reducible exact .here | ((with_reducible refine Del.hereC ?_); rfl) | ((with_reducible refine Del.hereS ?_ ?_ ?_) <;> rfl) | exact .here | apply Del.there)) ?_ | refine .drop ?_)))⟩
              · skip
                refine gp_not rfl ?_
                refine gp_not rfl ?_
                refine gp_not rfl ?_
                refine gp_not rfl ?_
                refine gp_not rfl ?_
                refine gp_not rfl ?_
                refine gp_not rfl ?_
                refine gp_notf rfl ?_
                refine gp_not rfl ?_
                refine gp_not rfl ?_
                refine gp_not rfl ?_
                refine gp_ev rfl (e_pk rfl) ?_
                refine gp_ev rfl (e_pk rfl) ?_
                refine gp_nil ?_
                exact ⟨(by (conv => lhs; whnf); try first | rfl | (refine congrArg Value.bool ?_; simp_all) | simp_all), (by (conv => lhs; whnf); try first | rfl | (refine congrArg Value.bool ?_; simp_all) | simp_all), (by (conv => lhs; whnf); try first | rfl | (refine congrArg Value.bool ?_; simp_all) | simp_all), (by (conv => lhs; whnf); try first | rfl | (refine congrArg Value.bool ?_; simp_all) | simp_all), (by (conv => lhs; whnf); refine congrArg Value.bool ?_; rw [Bool.eq_iff_iff, decide_eq_true_iff]; clear hr; unfold rbad2; first | (simp_all; done) | (simp_all; omega) | (simp; omega)), (fun _ h => h.fin (L1 := [blk rj 48 [.slice (some pe) n ec, .slice (some pq) n sc, .slice ta sent.length tc, .int .i64 at_, .int .i64 r, .int .i64 ra], sown 69 1 (.slice (some pe) n ec) n (hdrs (l1 ++ l :: l2)), sown 23 1 (.slice (some pq) n sc) n (sesV (l1 ++ l :: l2)), factsM ta tc sent, blk l.be 68 (pre2 ++ (x.cells ++ post2)), allP (l1.map RLine.part ++ l2.map RLine.part), blk b3 43 (f.cells (.slice a f.data.length c)), A]) (F := F) (by repeat ((conv => arg 1; whnf); (conv => arg 2; whnf); first | with_reducible exact .done | exact Fin.all _ | refine .cons (by repeat ((conv => arg 2; whnf); first | with_reducible exact .here | ((with_reducible refine Del.hereC ?_); rfl) | ((with_reducible refine Del.hereS ?_ ?_ ?_) <;> rfl) | exact .here | apply Del.there)) ?_ | refine .drop ?_)))⟩
          · rintro E L ⟨s0, s3, s5, s6, s104, hL⟩
            refine gc_imp hL ?_
            refine gc_slot 0 _ ?_ s0
            refine gc_slot 3 _ ?_ s3
            refine gc_slot 5 _ ?_ s5
            refine gc_slot 6 _ ?_ s6
            refine gc_slot 104 _ ?_ s104
            clear hL s0 s3 s5 s6 s104
            first | refine gc_dec rfl (fun c104 => ?_) (fun c104 => ?_) | refine gc_ndec rfl (fun c104 => ?_) (fun c104 => ?_) | refine gc_cond rfl (fun c104 => ?_) (fun c104 => ?_)
            · skip
              refine gc_seq ?_
              refine gc_region ?_
              refine g_ev (e_as) ?_
              refine g_nil ?_
              refine gc_ret ?_
              have hx : l.rule f (hasSent (sent.map fun x : FactV => x.f) f) = (2, l) := by unfold RLine.rule; rw [if_neg c59, if_pos c83]; rw [if_pos c104]
              have hs : sentR (sent.map fun x : FactV => x.f) f = (sent.map fun x : FactV => x.f) := by unfold sentR; rw [if_neg c59, if_neg (by omega)]
              have hw := rruleJ_eq c41 hconn hx hs
              exact ret1 (v := .int .i64 2) (L1 := [blk rj 48 [.slice (some pe) n ec, .slice (some pq) n sc, .slice ta sent.length tc, .int .i64 at_, .int .i64 r, .int .i64 ra], sown 69 1 (.slice (some pe) n ec) n (hdrs (l1 ++ l :: l2)), sown 23 1 (.slice (some pq) n sc) n (sesV (l1 ++ l :: l2)), factsM ta tc sent, ownR (l1 ++ l :: l2), A]) rfl (by (conv => lhs; whnf); try rfl) ⟨ta, tc, (l1 ++ l :: l2), sent, 2, rfl, rfl, hw⟩ (fun w h => rr_shut rfl (by rw [hv1]; exact h.fin (L1 := [blk rj 48 [.slice (some pe) n ec, .slice (some pq) n sc, .slice ta sent.length tc, .int .i64 at_, .int .i64 r, .int .i64 ra], sown 69 1 (.slice (some pe) n ec) n (hdrs (l1 ++ l :: l2)), sown 23 1 (.slice (some pq) n sc) n (sesV (l1 ++ l :: l2)), factsM ta tc sent, blk l.be 68 (pre2 ++ (x.cells ++ post2)), allP (l1.map RLine.part ++ l2.map RLine.part), A]) (F := F) (by repeat ((conv => arg 1; whnf); (conv => arg 2; whnf); first | with_reducible exact .done | exact Fin.all _ | refine .cons (by repeat ((conv => arg 2; whnf); first | with_reducible exact .here | ((with_reducible refine Del.hereC ?_); rfl) | ((with_reducible refine Del.hereS ?_ ?_ ?_) <;> rfl) | exact .here | apply Del.there)) ?_ | refine .drop ?_))))
            · skip
              refine gc_skip ?_
              refine gc_seq ?_
              refine gc_seq ?_
              refine gc_cut (fun E L => E 0 = .pointer (some ⟨rj, 0, none⟩) ∧ E 3 = .pointer (some ⟨b3, 0, none⟩) ∧ E 5 = .pointer (some ⟨l.be, pre2.length, none⟩) ∧ E 6 = .bool (decide (f.side = 2)) ∧ E 135 = .bool (decide (x.bad3 f)) ∧ ∀ w, Sat B w L → Sat B w (blk rj 48 [.slice (some pe) n ec, .slice (some pq) n sc, .slice ta sent.length tc, .int .i64 at_, .int .i64 r, .int .i64 ra] :: sown 69 1 (.slice (some pe) n ec) n (hdrs (l1 ++ l :: l2)) :: sown 23 1 (.slice (some pq) n sc) n (sesV (l1 ++ l :: l2)) :: factsM ta tc sent :: blk l.be 68 (pre2 ++ (x.cells ++ post2)) :: allP (l1.map RLine.part ++ l2.map RLine.part) :: blk b3 43 (f.cells (.slice a f.data.length c)) :: A :: F)) ?_ ?_
              · skip
                refine gc_draw (D := []) (fin := none) (plan := [(true, 0), (true, 1), (true, 2), (true, 3), (true, 4), (true, 5), (true, 6), (true, 7), (true, 8), (true, 9), (true, 10), (true, 11), (true, 12), (true, 13), (true, 14), (true, 15), (true, 16), (true, 17), (true, 18), (true, 19), (true, 20), (true, 21), (true, 22), (true, 23), (true, 24), (true, 25), (true, 26), (true, 27), (true, 28), (true, 29), (true, 30)]) rfl (by kernel_rfl) (by kernel_rfl) rfl .nil ?_
                refine gp_ev rfl (e_mv) ?_
                refine gp_ev rfl (e_nc rfl) ?_
                refine gp_ev rfl (e_fa Try.underlying68 rfl rfl Try.sizeOf4) ?_
                refine gp_ev rfl (e_ldm 1 Try.underlying4 rfl (by repeat ((conv => arg 2; whnf); first | with_reducible exact .here | ((with_reducible refine Del.hereC ?_); rfl) | ((with_reducible refine Del.hereS ?_ ?_ ?_) <;> rfl) | exact .here | apply Del.there)) rfl) ?_
                refine gp_ev rfl (e_mv) ?_
                first | refine gp_dec 109 rfl (fun c109 => ?_) (fun c109 => ?_) | refine gp_ndec 109 rfl (fun c109 => ?_) (fun c109 => ?_) | refine gp_bool 109 rfl (fun c109 => ?_) (fun c109 => ?_)
                · skip
                  refine gp_ev rfl (e_fa Try.underlying43 rfl rfl Try.sizeOf23) ?_
                  refine gp_ev rfl (e_ld Try.underlying23 rfl (by repeat ((conv => arg 2; whnf); first | with_reducible exact .here | ((with_reducible refine Del.hereC ?_); rfl) | ((with_reducible refine Del.hereS ?_ ?_ ?_) <;> rfl) | exact .here | apply Del.there)) rfl) ?_
                  refine gp_ev rfl (e_mv) ?_
                  refine gp_ev rfl (e_nc rfl) ?_
                  refine gp_ev rfl (e_fa Try.underlying68 rfl rfl Try.sizeOf23) ?_
                  refine gp_ev rfl (e_ldm 2 Try.underlying23 rfl (by repeat ((conv => arg 2; whnf); first | with_reducible exact .here | ((with_reducible refine Del.hereC ?_); rfl) | ((with_reducible refine Del.hereS ?_ ?_ ?_) <;> rfl) | exact .here | apply Del.there)) rfl) ?_
                  refine gp_ev rfl (e_lt rfl rfl) ?_
                  refine gp_ev rfl (e_mv) ?_
                  first | refine gp_dec 117 rfl (fun c117 => ?_) (fun c117 => ?_) | refine gp_ndec 117 rfl (fun c117 => ?_) (fun c117 => ?_) | refine gp_bool 117 rfl (fun c117 => ?_) (fun c117 => ?_)
                  · skip
                    refine gp_not rfl ?_
                    refine gp_not rfl ?_
                    refine gp_not rfl ?_
                    refine gp_not rfl ?_
                    refine gp_not rfl ?_
                    refine gp_not rfl ?_
                    refine gp_not rfl ?_
                    refine gp_not rfl ?_
                    refine gp_not rfl ?_
                    refine gp_not rfl ?_
                    refine gp_not rfl ?_
                    refine gp_not rfl ?_
                    refine gp_not rfl ?_
                    refine gp_not rfl ?_
                    refine gp_not rfl ?_
                    refine gp_not rfl ?_
                    refine gp_ev rfl (e_pk rfl) ?_
                    refine gp_ev rfl (e_pk rfl) ?_
                    refine gp_nil ?_
                    exact ⟨(by (conv => lhs; whnf); try first | rfl | (refine congrArg Value.bool ?_; simp_all) | simp_all), (by (conv => lhs; whnf); try first | rfl | (refine congrArg Value.bool ?_; simp_all) | simp_all), (by (conv => lhs; whnf); try first | rfl | (refine congrArg Value.bool ?_; simp_all) | simp_all), (by (conv => lhs; whnf); try first | rfl | (refine congrArg Value.bool ?_; simp_all) | simp_all), (by (conv => lhs; whnf); refine congrArg Value.bool ?_; rw [Bool.eq_iff_iff, decide_eq_true_iff]; clear hr; unfold REnd.bad3; first | (simp_all; done) | (simp_all; omega) | (simp; omega)), (fun _ h => h.fin (L1 := [blk rj 48 [.slice (some pe) n ec, .slice (some pq) n sc, .slice ta sent.length tc, .int .i64 at_, .int .i64 r, .int .i64 ra], sown 69 1 (.slice (some pe) n ec) n (hdrs (l1 ++ l :: l2)), sown 23 1 (.slice (some pq) n sc) n (sesV (l1 ++ l :: l2)), factsM ta tc sent, blk l.be 68 (pre2 ++ (x.cells ++ post2)), allP (l1.map RLine.part ++ l2.map RLine.part), blk b3 43 (f.cells (.slice a f.data.length c)), A]) (F := F) (by repeat ((conv => arg 1; whnf); (conv => arg 2; whnf); first | with_reducible exact .done | exact Fin.all _ | refine .cons (by repeat ((conv => arg 2; whnf); first | with_reducible exact .here | ((with_reducible refine Del.hereC ?_); rfl) | ((with_reducible refine Del.hereS ?_ ?_ ?_) <;> rfl) | exact .here | apply Del.there)) ?_ | refine .drop ?_)))⟩
                  · skip
                    refine gp_ev rfl (e_fa Try.underlying43 rfl rfl Try.sizeOf23) ?_
                    refine gp_ev rfl (e_ld Try.underlying23 rfl (by repeat ((conv => arg 2; whnf); first | with_reducible exact .here | ((with_reducible refine Del.hereC ?_); rfl) | ((with_reducible refine Del.hereS ?_ ?_ ?_) <;> rfl) | exact .here | apply Del.there)) rfl) ?_
                    refine gp_ev rfl (e_mv) ?_
                    refine gp_ev rfl (e_nc rfl) ?_
                    refine gp_ev rfl (e_fa Try.underlying68 rfl rfl Try.sizeOf23) ?_
                    refine gp_ev rfl (e_ldm 2 Try.underlying23 rfl (by repeat ((conv => arg 2; whnf); first | with_reducible exact .here | ((with_reducible refine Del.hereC ?_); rfl) | ((with_reducible refine Del.hereS ?_ ?_ ?_) <;> rfl) | exact .here | apply Del.there)) rfl) ?_
                    refine gp_ev rfl (e_eq rfl rfl) ?_
                    refine gp_ev rfl (e_mv) ?_
                    first | refine gp_dec 125 rfl (fun c125 => ?_) (fun c125 => ?_) | refine gp_ndec 125 rfl (fun c125 => ?_) (fun c125 => ?_) | refine gp_bool 125 rfl (fun c125 => ?_) (fun c125 => ?_)
                    · skip
                      refine gp_ev rfl (e_fa Try.underlying43 rfl rfl Try.sizeOf23) ?_
                      refine gp_ev rfl (e_ld Try.underlying23 rfl (by repeat ((conv => arg 2; whnf); first | with_reducible exact .here | ((with_reducible refine Del.hereC ?_); rfl) | ((with_reducible refine Del.hereS ?_ ?_ ?_) <;> rfl) | exact .here | apply Del.there)) rfl) ?_
                      refine gp_ev rfl (e_mv) ?_
                      refine gp_ev rfl (e_nc rfl) ?_
                      refine gp_ev rfl (e_fa Try.underlying68 rfl rfl Try.sizeOf23) ?_
                      refine gp_ev rfl (e_ldm 3 Try.underlying23 rfl (by repeat ((conv => arg 2; whnf); first | with_reducible exact .here | ((with_reducible refine Del.hereC ?_); rfl) | ((with_reducible refine Del.hereS ?_ ?_ ?_) <;> rfl) | exact .here | apply Del.there)) rfl) ?_
                      refine gp_ev rfl (e_le rfl rfl) ?_
                      refine gp_ev rfl (e_pk rfl) ?_
                      refine gp_ev rfl (e_pk rfl) ?_
                      refine gp_ev rfl (e_pk rfl) ?_
                      refine gp_nil ?_
                      exact ⟨(by (conv => lhs; whnf); try first | rfl | (refine congrArg Value.bool ?_; simp_all) | simp_all), (by (conv => lhs; whnf); try first | rfl | (refine congrArg Value.bool ?_; simp_all) | simp_all), (by (conv => lhs; whnf); try first | rfl | (refine congrArg Value.bool ?_; simp_all) | simp_all), (by (conv => lhs; whnf); try first | rfl | (refine congrArg Value.bool ?_; simp_all) | simp_all), (by (conv => lhs; whnf); refine congrArg Value.bool ?_; rw [Bool.eq_iff_iff, decide_eq_true_iff]; clear hr; unfold REnd.bad3; first | (simp_all; done) | (simp_all; omega) | (simp; omega)), (fun _ h => h.fin (L1 := [blk rj 48 [.slice (some pe) n ec, .slice (some pq) n sc, .slice ta sent.length tc, .int .i64 at_, .int .i64 r, .int .i64 ra], sown 69 1 (.slice (some pe) n ec) n (hdrs (l1 ++ l :: l2)), sown 23 1 (.slice (some pq) n sc) n (sesV (l1 ++ l :: l2)), factsM ta tc sent, blk l.be 68 (pre2 ++ (x.cells ++ post2)), allP (l1.map RLine.part ++ l2.map RLine.part), blk b3 43 (f.cells (.slice a f.data.length c)), A]) (F := F) (by repeat ((conv => arg 1; whnf); (conv => arg 2; whnf); first | with_reducible exact .done | exact Fin.all _ | refine .cons (by repeat ((conv => arg 2; whnf); first | with_reducible exact .here | ((with_reducible refine Del.hereC ?_); rfl) | ((with_reducible refine Del.hereS ?_ ?_ ?_) <;> rfl) | exact .here | apply Del.there)) ?_ | refine .drop ?_)))⟩
                    · skip
                      refine gp_not rfl ?_
                      refine gp_not rfl ?_
                      refine gp_not rfl ?_
                      refine gp_not rfl ?_
                      refine gp_not rfl ?_
                      refine gp_not rfl ?_
                      refine gp_not rfl ?_
                      refine gp_ev rfl (e_pk rfl) ?_
                      refine gp_ev rfl (e_pk rfl) ?_
                      refine gp_ev rfl (e_pk rfl) ?_
                      refine gp_nil ?_
                      exact ⟨(by (conv => lhs; whnf); try first | rfl | (refine congrArg Value.bool ?_; simp_all) | simp_all), (by (conv => lhs; whnf); try first | rfl | (refine congrArg Value.bool ?_; simp_all) | simp_all), (by (conv => lhs; whnf); try first | rfl | (refine congrArg Value.bool ?_; simp_all) | simp_all), (by (conv => lhs; whnf); try first | rfl | (refine congrArg Value.bool ?_; simp_all) | simp_all), (by (conv => lhs; whnf); refine congrArg Value.bool ?_; rw [Bool.eq_iff_iff, decide_eq_true_iff]; clear hr; unfold REnd.bad3; first | (simp_all; done) | (simp_all; omega) | (simp; omega)), (fun _ h => h.fin (L1 := [blk rj 48 [.slice (some pe) n ec, .slice (some pq) n sc, .slice ta sent.length tc, .int .i64 at_, .int .i64 r, .int .i64 ra], sown 69 1 (.slice (some pe) n ec) n (hdrs (l1 ++ l :: l2)), sown 23 1 (.slice (some pq) n sc) n (sesV (l1 ++ l :: l2)), factsM ta tc sent, blk l.be 68 (pre2 ++ (x.cells ++ post2)), allP (l1.map RLine.part ++ l2.map RLine.part), blk b3 43 (f.cells (.slice a f.data.length c)), A]) (F := F) (by repeat ((conv => arg 1; whnf); (conv => arg 2; whnf); first | with_reducible exact .done | exact Fin.all _ | refine .cons (by repeat ((conv => arg 2; whnf); first | with_reducible exact .here | ((with_reducible refine Del.hereC ?_); rfl) | ((with_reducible refine Del.hereS ?_ ?_ ?_) <;> rfl) | exact .here | apply Del.there)) ?_ | refine .drop ?_)))⟩
                · skip
                  refine gp_not rfl ?_
                  refine gp_not rfl ?_
                  refine gp_not rfl ?_
                  refine gp_not rfl ?_
                  refine gp_not rfl ?_
                  refine gp_not rfl ?_
                  refine gp_not rfl ?_
                  refine gp_not rfl ?_
                  refine gp_not rfl ?_
                  refine gp_not rfl ?_
                  refine gp_not rfl ?_
                  refine gp_not rfl ?_
                  refine gp_not rfl ?_
                  refine gp_not rfl ?_
                  refine gp_not rfl ?_
                  refine gp_not rfl ?_
                  refine gp_not rfl ?_
                  refine gp_not rfl ?_
                  refine gp_not rfl ?_
                  refine gp_not rfl ?_
                  refine gp_not rfl ?_
                  refine gp_not rfl ?_
                  refine gp_not rfl ?_
                  refine gp_not rfl ?_
                  refine gp_not rfl ?_
                  refine gp_ev rfl (e_pk rfl) ?_
                  refine gp_nil ?_
                  exact ⟨(by (conv => lhs; whnf); try first | rfl | (refine congrArg Value.bool ?_; simp_all) | simp_all), (by (conv => lhs; whnf); try first | rfl | (refine congrArg Value.bool ?_; simp_all) | simp_all), (by (conv => lhs; whnf); try first | rfl | (refine congrArg Value.bool ?_; simp_all) | simp_all), (by (conv => lhs; whnf); try first | rfl | (refine congrArg Value.bool ?_; simp_all) | simp_all), (by (conv => lhs; whnf); refine congrArg Value.bool ?_; rw [Bool.eq_iff_iff, decide_eq_true_iff]; clear hr; unfold REnd.bad3; first | (simp_all; done) | (simp_all; omega) | (simp; omega)), (fun _ h => h.fin (L1 := [blk rj 48 [.slice (some pe) n ec, .slice (some pq) n sc, .slice ta sent.length tc, .int .i64 at_, .int .i64 r, .int .i64 ra], sown 69 1 (.slice (some pe) n ec) n (hdrs (l1 ++ l :: l2)), sown 23 1 (.slice (some pq) n sc) n (sesV (l1 ++ l :: l2)), factsM ta tc sent, blk l.be 68 (pre2 ++ (x.cells ++ post2)), allP (l1.map RLine.part ++ l2.map RLine.part), blk b3 43 (f.cells (.slice a f.data.length c)), A]) (F := F) (by repeat ((conv => arg 1; whnf); (conv => arg 2; whnf); first | with_reducible exact .done | exact Fin.all _ | refine .cons (by repeat ((conv => arg 2; whnf); first | with_reducible exact .here | ((with_reducible refine Del.hereC ?_); rfl) | ((with_reducible refine Del.hereS ?_ ?_ ?_) <;> rfl) | exact .here | apply Del.there)) ?_ | refine .drop ?_)))⟩
              · rintro E L ⟨s0, s3, s5, s6, s135, hL⟩
                refine gc_imp hL ?_
                refine gc_slot 0 _ ?_ s0
                refine gc_slot 3 _ ?_ s3
                refine gc_slot 5 _ ?_ s5
                refine gc_slot 6 _ ?_ s6
                refine gc_slot 135 _ ?_ s135
                clear hL s0 s3 s5 s6 s135
                first | refine gc_dec rfl (fun c135 => ?_) (fun c135 => ?_) | refine gc_ndec rfl (fun c135 => ?_) (fun c135 => ?_) | refine gc_cond rfl (fun c135 => ?_) (fun c135 => ?_)
                · skip
                  refine gc_seq ?_
                  refine gc_region ?_
                  refine g_ev (e_as) ?_
                  refine g_nil ?_
                  refine gc_ret ?_
                  have hx : l.rule f (hasSent (sent.map fun x : FactV => x.f) f) = (3, l) := by unfold RLine.rule; rw [if_neg c59, if_pos c83]; rw [if_neg c104, hget, if_pos c135]
                  have hs : sentR (sent.map fun x : FactV => x.f) f = (sent.map fun x : FactV => x.f) := by unfold sentR; rw [if_neg c59, if_neg (by omega)]
                  have hw := rruleJ_eq c41 hconn hx hs
                  exact ret1 (v := .int .i64 3) (L1 := [blk rj 48 [.slice (some pe) n ec, .slice (some pq) n sc, .slice ta sent.length tc, .int .i64 at_, .int .i64 r, .int .i64 ra], sown 69 1 (.slice (some pe) n ec) n (hdrs (l1 ++ l :: l2)), sown 23 1 (.slice (some pq) n sc) n (sesV (l1 ++ l :: l2)), factsM ta tc sent, ownR (l1 ++ l :: l2), A]) rfl (by (conv => lhs; whnf); try rfl) ⟨ta, tc, (l1 ++ l :: l2), sent, 3, rfl, rfl, hw⟩ (fun w h => rr_shut rfl (by rw [hv1]; exact h.fin (L1 := [blk rj 48 [.slice (some pe) n ec, .slice (some pq) n sc, .slice ta sent.length tc, .int .i64 at_, .int .i64 r, .int .i64 ra], sown 69 1 (.slice (some pe) n ec) n (hdrs (l1 ++ l :: l2)), sown 23 1 (.slice (some pq) n sc) n (sesV (l1 ++ l :: l2)), factsM ta tc sent, blk l.be 68 (pre2 ++ (x.cells ++ post2)), allP (l1.map RLine.part ++ l2.map RLine.part), A]) (F := F) (by repeat ((conv => arg 1; whnf); (conv => arg 2; whnf); first | with_reducible exact .done | exact Fin.all _ | refine .cons (by repeat ((conv => arg 2; whnf); first | with_reducible exact .here | ((with_reducible refine Del.hereC ?_); rfl) | ((with_reducible refine Del.hereS ?_ ?_ ?_) <;> rfl) | exact .here | apply Del.there)) ?_ | refine .drop ?_))))
                · skip
                  refine gc_skip ?_
                  refine gc_seq ?_
                  refine gc_draw (D := [blk l.be 68 (pre2 ++ (x.cells ++ post2))]) (fin := none) (plan := [(true, 0), (true, 1), (true, 2), (true, 3), (true, 4), (true, 5), (true, 6), (true, 7), (true, 8), (false, 9), (true, 10), (true, 11), (false, 12), (true, 13), (true, 14), (false, 15)]) rfl (by kernel_rfl) (by kernel_rfl) rfl (.cons (by repeat ((conv => arg 2; whnf); first | with_reducible exact .here | ((with_reducible refine Del.hereC ?_); rfl) | ((with_reducible refine Del.hereS ?_ ?_ ?_) <;> rfl) | exact .here | apply Del.there)) .nil) ?_
                  refine gp_ev rfl (e_mv) ?_
                  refine gp_ev rfl (e_mv) ?_
                  refine gp_ev rfl (e_mv) ?_
                  refine gp_ev rfl (e_fa Try.underlying43 rfl rfl Try.sizeOf23) ?_
                  refine gp_ev rfl (e_ld Try.underlying23 rfl (by repeat ((conv => arg 2; whnf); first | with_reducible exact .here | ((with_reducible refine Del.hereC ?_); rfl) | ((with_reducible refine Del.hereS ?_ ?_ ?_) <;> rfl) | exact .here | apply Del.there)) rfl) ?_
                  refine gp_ev rfl (e_fa Try.underlying43 rfl rfl Try.sizeOf23) ?_
                  refine gp_ev rfl (e_ld Try.underlying23 rfl (by repeat ((conv => arg 2; whnf); first | with_reducible exact .here | ((with_reducible refine Del.hereC ?_); rfl) | ((with_reducible refine Del.hereS ?_ ?_ ?_) <;> rfl) | exact .here | apply Del.there)) rfl) ?_
                  refine gp_ev rfl (e_nc rfl) ?_
                  refine gp_ev rfl (e_fa Try.underlying68 rfl rfl Try.sizeOf4) ?_
                  refine gp_eff rfl (s_stm 1 Try.sizeOf4 rfl (by repeat ((conv => arg 3; whnf); first | with_reducible exact .here | apply Turn.there))) ?_
                  rintro _ _ ⟨rfl, rfl⟩
                  refine gp_ev rfl (e_nc rfl) ?_
                  refine gp_ev rfl (e_fa Try.underlying68 rfl rfl Try.sizeOf23) ?_
                  refine gp_eff rfl (s_stm 2 Try.sizeOf23 rfl (by repeat ((conv => arg 3; whnf); first | with_reducible exact .here | apply Turn.there))) ?_
                  rintro _ _ ⟨rfl, rfl⟩
                  refine gp_ev rfl (e_nc rfl) ?_
                  refine gp_ev rfl (e_fa Try.underlying68 rfl rfl Try.sizeOf23) ?_
                  refine gp_eff rfl (s_stm 3 Try.sizeOf23 rfl (by repeat ((conv => arg 3; whnf); first | with_reducible exact .here | apply Turn.there))) ?_
                  rintro _ _ ⟨rfl, rfl⟩
                  refine gp_nil ?_
                  refine gc_draw (D := [blk l.be 68 (pre2 ++ (({ x with took := true, sess := f.sess, num := f.num } : REnd).cells ++ post2))]) (fin := none) (plan := [(true, 0), (true, 1), (true, 2), (true, 3), (true, 4), (true, 5), (true, 6), (true, 7), (true, 8), (true, 9), (false, 10), (true, 11), (true, 12), (false, 13), (true, 14), (true, 15), (false, 16)]) rfl (by kernel_rfl) (by kernel_rfl) rfl (.cons (by repeat ((conv => arg 2; whnf); first | with_reducible exact .here | ((with_reducible refine Del.hereC ?_); rfl) | ((with_reducible refine Del.hereS ?_ ?_ ?_) <;> rfl) | exact .here | apply Del.there)) .nil) ?_
                  refine gp_ev rfl (e_mv) ?_
                  refine gp_ev rfl (e_mv) ?_
                  refine gp_ev rfl (e_mv) ?_
                  refine gp_ev rfl (e_fa Try.underlying43 rfl rfl Try.sizeOf41) ?_
                  refine gp_ev rfl (e_ld Try.underlying41 rfl (by repeat ((conv => arg 2; whnf); first | with_reducible exact .here | ((with_reducible refine Del.hereC ?_); rfl) | ((with_reducible refine Del.hereS ?_ ?_ ?_) <;> rfl) | exact .here | apply Del.there)) rfl) ?_
                  refine gp_ev rfl (e_b2s (bs := f.data) Try.underlying41 Try.underlying5 Try.underlying9 rfl (fun B w h => hr B w ((h.fin (L1 := [A]) (F := F) (by repeat ((conv => arg 1; whnf); (conv => arg 2; whnf); first | with_reducible exact .done | exact Fin.all _ | refine .cons (by repeat ((conv => arg 2; whnf); first | with_reducible exact .here | ((with_reducible refine Del.hereC ?_); rfl) | ((with_reducible refine Del.hereS ?_ ?_ ?_) <;> rfl) | exact .here | apply Del.there)) ?_ | refine .drop ?_))).left (L1 := [A])))) ?_
                  refine gp_ev rfl (e_fa Try.underlying43 rfl rfl Try.sizeOf23) ?_
                  refine gp_ev rfl (e_ld Try.underlying23 rfl (by repeat ((conv => arg 2; whnf); first | with_reducible exact .here | ((with_reducible refine Del.hereC ?_); rfl) | ((with_reducible refine Del.hereS ?_ ?_ ?_) <;> rfl) | exact .here | apply Del.there)) rfl) ?_
                  refine gp_ev rfl (e_nc rfl) ?_
                  refine gp_ev rfl (e_fa Try.underlying68 rfl rfl Try.sizeOf4) ?_
                  refine gp_eff rfl (s_stm 4 Try.sizeOf4 rfl (by repeat ((conv => arg 3; whnf); first | with_reducible exact .here | apply Turn.there))) ?_
                  rintro _ _ ⟨rfl, rfl⟩
                  refine gp_ev rfl (e_nc rfl) ?_
                  refine gp_ev rfl (e_fa Try.underlying68 rfl rfl Try.sizeOf9) ?_
                  refine gp_eff rfl (s_stm 5 Try.sizeOf9 rfl (by repeat ((conv => arg 3; whnf); first | with_reducible exact .here | apply Turn.there))) ?_
                  rintro _ _ ⟨rfl, rfl⟩
                  refine gp_ev rfl (e_nc rfl) ?_
                  refine gp_ev rfl (e_fa Try.underlying68 rfl rfl Try.sizeOf23) ?_
                  refine gp_eff rfl (s_stm 6 Try.sizeOf23 rfl (by repeat ((conv => arg 3; whnf); first | with_reducible exact .here | apply Turn.there))) ?_
                  rintro _ _ ⟨rfl, rfl⟩
                  refine gp_nil ?_
                  refine gc_seq ?_
                  refine gc_region ?_
                  refine g_ev (e_as) ?_
                  refine g_nil ?_
                  refine gc_ret ?_
                  have hx : l.rule f (hasSent (sent.map fun x : FactV => x.f) f) = (0, (l.set f.side (x.takenE f))) := by unfold RLine.rule; rw [if_neg c59, if_pos c83]; rw [if_neg c104, hget, if_neg c135]
                  have hs : sentR (sent.map fun x : FactV => x.f) f = (sent.map fun x : FactV => x.f) := by unfold sentR; rw [if_neg c59, if_neg (by omega)]
                  have hw := rruleJ_eq c41 hconn hx hs
                  have hs2 := sess_mid (l1 := l1) (l2 := l2) (hv3 (x.takenE f)).2
                  exact ret1 (v := .int .i64 0) (L1 := [blk rj 48 [.slice (some pe) n ec, .slice (some pq) n sc, .slice ta sent.length tc, .int .i64 at_, .int .i64 r, .int .i64 ra], sown 69 1 (.slice (some pe) n ec) n (hdrs (l1 ++ (l.set f.side (x.takenE f)) :: l2)), sown 23 1 (.slice (some pq) n sc) n (sesV (l1 ++ (l.set f.side (x.takenE f)) :: l2)), factsM ta tc sent, ownR (l1 ++ (l.set f.side (x.takenE f)) :: l2), A]) rfl (by (conv => lhs; whnf); try rfl) ⟨ta, tc, (l1 ++ (l.set f.side (x.takenE f)) :: l2), sent, 0, rfl, rfl, hw⟩ (fun w h => by rw [hs2]; exact rr_shut (hv3 (x.takenE f)).1 (by rw [hv2]; exact h.fin (L1 := [blk rj 48 [.slice (some pe) n ec, .slice (some pq) n sc, .slice ta sent.length tc, .int .i64 at_, .int .i64 r, .int .i64 ra], sown 69 1 (.slice (some pe) n ec) n (hdrs (l1 ++ l :: l2)), sown 23 1 (.slice (some pq) n sc) n (sesV (l1 ++ l :: l2)), factsM ta tc sent, blk l.be 68 (pre2 ++ ((x.takenE f).cells ++ post2)), allP (l1.map RLine.part ++ l2.map RLine.part), A]) (F := F) (by repeat ((conv => arg 1; whnf); (conv => arg 2; whnf); first | with_reducible exact .done | exact Fin.all _ | refine .cons (by repeat ((conv => arg 2; whnf); first | with_reducible exact .here | ((with_reducible refine Del.hereC ?_); rfl) | ((with_reducible refine Del.hereS ?_ ?_ ?_) <;> rfl) | exact .here | apply Del.there)) ?_ | refine .drop ?_))))
        · skip
          refine gc_seq ?_
          refine gc_region ?_
          refine g_ev (e_eq rfl rfl) ?_
          refine g_ev (e_as) ?_
          refine g_nil ?_
          first | refine gc_dec rfl (fun c163 => ?_) (fun c163 => ?_) | refine gc_ndec rfl (fun c163 => ?_) (fun c163 => ?_) | refine gc_cond rfl (fun c163 => ?_) (fun c163 => ?_)
          · skip
            refine gc_region ?_
            refine g_ev (e_mv) ?_
            refine g_ev (e_ldA Try.underlying43 rfl (by repeat ((conv => arg 2; whnf); first | with_reducible exact .here | ((with_reducible refine Del.hereC ?_); rfl) | ((with_reducible refine Del.hereS ?_ ?_ ?_) <;> rfl) | exact .here | apply Del.there)) Try.sizeOf43 (by simp)) ?_
            refine g_eff (s_call (rbegin_t (k := l1.length) (ses := sess (l1 ++ l :: l2)) f hn hconn hl1 (by rw [← hnl]; simp [sess])) (.cons (by repeat ((conv => arg 2; whnf); first | with_reducible exact .here | ((with_reducible refine Del.hereC ?_); rfl) | ((with_reducible refine Del.hereS ?_ ?_ ?_) <;> rfl) | exact .here | apply Del.there)) (.cons (by repeat ((conv => arg 2; whnf); first | with_reducible exact .here | ((with_reducible refine Del.hereC ?_); rfl) | ((with_reducible refine Del.hereS ?_ ?_ ?_) <;> rfl) | exact .here | apply Del.there)) (.cons (by repeat ((conv => arg 2; whnf); first | with_reducible exact .here | ((with_reducible refine Del.hereC ?_); rfl) | ((with_reducible refine Del.hereS ?_ ?_ ?_) <;> rfl) | exact .here | apply Del.there)) (.cons (by repeat ((conv => arg 2; whnf); first | with_reducible exact .here | ((with_reducible refine Del.hereC ?_); rfl) | ((with_reducible refine Del.hereS ?_ ?_ ?_) <;> rfl) | exact .here | apply Del.there)) (.nil)))))) ?_
            rintro _ _ ⟨_, ⟨ka, kc, rfl, rfl⟩, rfl⟩
            refine g_nil ?_
            refine gc_seq ?_
            refine gc_region ?_
            refine g_ev (e_as) ?_
            refine g_nil ?_
            refine gc_ret ?_
            have hx : l.rule f (hasSent (sent.map fun x : FactV => x.f) f) = (0, ({ l with ses := f.sess } : RLine)) := by unfold RLine.rule; rw [if_neg c59, if_neg c83, if_pos c163]
            have hs : sentR (sent.map fun x : FactV => x.f) f = (sent.filter (kept f)).map fun x : FactV => x.f := by unfold sentR; rw [if_neg c59, if_pos c163, List.filter_map]; rfl
            have hw := rruleJ_eq c41 hconn hx hs
            exact ret1 (v := .int .i64 0) (L1 := [blk rj 48 [.slice (some pe) n ec, .slice (some pq) n sc, .slice ka (sent.filter (kept f)).length kc, .int .i64 at_, .int .i64 r, .int .i64 ra], sown 69 1 (.slice (some pe) n ec) n (hdrs (l1 ++ ({ l with ses := f.sess } : RLine) :: l2)), sown 23 1 (.slice (some pq) n sc) n (sesV (l1 ++ ({ l with ses := f.sess } : RLine) :: l2)), factsM ka kc (sent.filter (kept f)), ownR (l1 ++ ({ l with ses := f.sess } : RLine) :: l2), A]) rfl (by (conv => lhs; whnf); try rfl) ⟨ka, kc, (l1 ++ ({ l with ses := f.sess } : RLine) :: l2), sent.filter (kept f), 0, rfl, rfl, hw⟩ (fun w h => rr_shut (l := l) rfl (by
              rw [← sess_set]
              rw [show (({ l with ses := f.sess } : RLine)).cells = pre2 ++ (x.cells ++ post2) from hv1]
              exact h.fin (L1 := [blk rj 48 [.slice (some pe) n ec, .slice (some pq) n sc, .slice ka (sent.filter (kept f)).length kc, .int .i64 at_, .int .i64 r, .int .i64 ra], sown 69 1 (.slice (some pe) n ec) n (hdrs (l1 ++ l :: l2)), sown 23 1 (.slice (some pq) n sc) n (((sess (l1 ++ l :: l2)).set l1.length f.sess).map (fun s : Nat => Value.int .u32 (s : Int))), factsM ka kc (sent.filter (kept f)), blk l.be 68 (pre2 ++ (x.cells ++ post2)), allP (l1.map RLine.part ++ l2.map RLine.part), A]) (F := F) (by repeat ((conv => arg 1; whnf); (conv => arg 2; whnf); first | with_reducible exact .done | exact Fin.all _ | refine .cons (by repeat ((conv => arg 2; whnf); first | with_reducible exact .here | ((with_reducible refine Del.hereC ?_); rfl) | ((with_reducible refine Del.hereS ?_ ?_ ?_) <;> rfl) | exact .here | apply Del.there)) ?_ | refine .drop ?_))))
          · skip
            refine gc_seq ?_
            refine gc_region ?_
            refine g_ev (e_eq rfl rfl) ?_
            refine g_ev (e_as) ?_
            refine g_nil ?_
            first | refine gc_dec rfl (fun c168 => ?_) (fun c168 => ?_) | refine gc_ndec rfl (fun c168 => ?_) (fun c168 => ?_) | refine gc_cond rfl (fun c168 => ?_) (fun c168 => ?_)
            · skip
              refine gc_seq ?_
              refine gc_region ?_
              refine g_ev (e_mv) ?_
              refine g_ev (e_nc rfl) ?_
              refine g_ev (e_fa Try.underlying68 rfl rfl Try.sizeOf3) ?_
              refine g_eff (s_stm 7 Try.sizeOf3 rfl (by repeat ((conv => arg 3; whnf); first | with_reducible exact .here | apply Turn.there))) ?_
              rintro _ _ ⟨rfl, rfl⟩
              refine g_nil ?_
              refine gc_region ?_
              refine g_ev (e_mv) ?_
              refine g_ev (e_mv) ?_
              refine g_ev (e_nc rfl) ?_
              refine g_ev (e_fa Try.underlying68 rfl rfl Try.sizeOf40) ?_
              refine g_ev (e_ldm 8 Try.underlying40 rfl (by repeat ((conv => arg 2; whnf); first | with_reducible exact .here | ((with_reducible refine Del.hereC ?_); rfl) | ((with_reducible refine Del.hereS ?_ ?_ ?_) <;> rfl) | exact .here | apply Del.there)) rfl) ?_
              refine g_ev (e_ne rfl rfl) ?_
              refine g_ev (e_nc rfl) ?_
              refine g_ev (e_fa Try.underlying68 rfl rfl Try.sizeOf4) ?_
              refine g_eff (s_stm 9 Try.sizeOf4 rfl (by repeat ((conv => arg 3; whnf); first | with_reducible exact .here | apply Turn.there))) ?_
              rintro _ _ ⟨rfl, rfl⟩
              refine g_nil ?_
              refine gc_seq ?_
              refine gc_region ?_
              refine g_ev (e_as) ?_
              refine g_nil ?_
              refine gc_ret ?_
              have hx : l.rule f (hasSent (sent.map fun x : FactV => x.f) f) = (0, (l.set f.side ({ x with since := 0, fresh := !decide (x.latched = 0) } : REnd))) := by unfold RLine.rule; rw [if_neg c59, if_neg c83, if_neg c163, if_pos c168, hget]
              have hs : sentR (sent.map fun x : FactV => x.f) f = (sent.map fun x : FactV => x.f) := by unfold sentR; rw [if_neg c59, if_neg c163]
              have hw := rruleJ_eq c41 hconn hx hs
              have hs2 := sess_mid (l1 := l1) (l2 := l2) (hv3 ({ x with since := 0, fresh := !decide (x.latched = 0) } : REnd)).2
              exact ret1 (v := .int .i64 0) (L1 := [blk rj 48 [.slice (some pe) n ec, .slice (some pq) n sc, .slice ta sent.length tc, .int .i64 at_, .int .i64 r, .int .i64 ra], sown 69 1 (.slice (some pe) n ec) n (hdrs (l1 ++ (l.set f.side ({ x with since := 0, fresh := !decide (x.latched = 0) } : REnd)) :: l2)), sown 23 1 (.slice (some pq) n sc) n (sesV (l1 ++ (l.set f.side ({ x with since := 0, fresh := !decide (x.latched = 0) } : REnd)) :: l2)), factsM ta tc sent, ownR (l1 ++ (l.set f.side ({ x with since := 0, fresh := !decide (x.latched = 0) } : REnd)) :: l2), A]) rfl (by (conv => lhs; whnf); try rfl) ⟨ta, tc, (l1 ++ (l.set f.side ({ x with since := 0, fresh := !decide (x.latched = 0) } : REnd)) :: l2), sent, 0, rfl, rfl, hw⟩ (fun w h => by rw [hs2]; exact rr_shut (hv3 ({ x with since := 0, fresh := !decide (x.latched = 0) } : REnd)).1 (by rw [hv2]; exact h.fin (L1 := [blk rj 48 [.slice (some pe) n ec, .slice (some pq) n sc, .slice ta sent.length tc, .int .i64 at_, .int .i64 r, .int .i64 ra], sown 69 1 (.slice (some pe) n ec) n (hdrs (l1 ++ l :: l2)), sown 23 1 (.slice (some pq) n sc) n (sesV (l1 ++ l :: l2)), factsM ta tc sent, blk l.be 68 (pre2 ++ (({ x with since := 0, fresh := !decide (x.latched = 0) } : REnd).cells ++ post2)), allP (l1.map RLine.part ++ l2.map RLine.part), A]) (F := F) (by repeat ((conv => arg 1; whnf); (conv => arg 2; whnf); first | with_reducible exact .done | exact Fin.all _ | refine .cons (by repeat ((conv => arg 2; whnf); first | with_reducible exact .here | ((with_reducible refine Del.hereC ?_); rfl) | ((with_reducible refine Del.hereS ?_ ?_ ?_) <;> rfl) | exact .here | apply Del.there)) ?_ | refine .drop ?_))))
            · skip
              refine gc_seq ?_
              refine gc_region ?_
              refine g_ev (e_eq rfl rfl) ?_
              refine g_ev (e_as) ?_
              refine g_nil ?_
              first | refine gc_dec rfl (fun c181 => ?_) (fun c181 => ?_) | refine gc_ndec rfl (fun c181 => ?_) (fun c181 => ?_) | refine gc_cond rfl (fun c181 => ?_) (fun c181 => ?_)
              · skip
                refine gc_seq ?_
                refine gc_region ?_
                refine g_ev (e_fa Try.underlying43 rfl rfl Try.sizeOf23) ?_
                refine g_ev (e_ld Try.underlying23 rfl (by repeat ((conv => arg 2; whnf); first | with_reducible exact .here | ((with_reducible refine Del.hereC ?_); rfl) | ((with_reducible refine Del.hereS ?_ ?_ ?_) <;> rfl) | exact .here | apply Del.there)) rfl) ?_
                refine g_ev ((e_cv Try.underlying23 Try.underlying3 rfl).to (v' := .int .i64 (f.num : Int)) (congrArg _ (wrapN rfl (by omega)))) ?_
                refine g_ev (e_as) ?_
                refine g_nil ?_
                refine gc_seq ?_
                refine gc_draw (D := []) (fin := none) (plan := [(true, 0), (true, 1), (true, 2), (true, 3), (true, 4), (true, 5), (true, 6), (true, 7), (true, 8), (true, 9), (true, 10)]) rfl (by kernel_rfl) (by kernel_rfl) rfl .nil ?_
                refine gp_ev rfl (e_mv) ?_
                refine gp_ev rfl (e_mv) ?_
                refine gp_ev rfl (e_nc rfl) ?_
                refine gp_ev rfl (e_fa Try.underlying68 rfl rfl Try.sizeOf3) ?_
                refine gp_ev rfl (e_ldm 0 Try.underlying3 rfl (by repeat ((conv => arg 2; whnf); first | with_reducible exact .here | ((with_reducible refine Del.hereC ?_); rfl) | ((with_reducible refine Del.hereS ?_ ?_ ?_) <;> rfl) | exact .here | apply Del.there)) rfl) ?_
                refine gp_ev rfl (e_mv) ?_
                refine gp_ev rfl (e_nc rfl) ?_
                refine gp_ev rfl (e_fa Try.underlying68 rfl rfl Try.sizeOf3) ?_
                refine gp_ev rfl (e_ldm 7 Try.underlying3 rfl (by repeat ((conv => arg 2; whnf); first | with_reducible exact .here | ((with_reducible refine Del.hereC ?_); rfl) | ((with_reducible refine Del.hereS ?_ ?_ ?_) <;> rfl) | exact .here | apply Del.there)) rfl) ?_
                refine gp_ev rfl (e_subw rfl rfl) ?_
                refine gp_ev rfl (e_ge rfl rfl) ?_
                refine gp_nil ?_
                first | refine gc_dec rfl (fun c196 => ?_) (fun c196 => ?_) | refine gc_ndec rfl (fun c196 => ?_) (fun c196 => ?_) | refine gc_cond rfl (fun c196 => ?_) (fun c196 => ?_)
                · skip
                  refine gc_seq ?_
                  refine gc_region ?_
                  refine g_ev (e_mv) ?_
                  refine g_ev (e_mv) ?_
                  refine g_ev (e_nc rfl) ?_
                  refine g_ev (e_fa Try.underlying68 rfl rfl Try.sizeOf3) ?_
                  refine g_ev (e_ldm 0 Try.underlying3 rfl (by repeat ((conv => arg 2; whnf); first | with_reducible exact .here | ((with_reducible refine Del.hereC ?_); rfl) | ((with_reducible refine Del.hereS ?_ ?_ ?_) <;> rfl) | exact .here | apply Del.there)) rfl) ?_
                  refine g_ev (e_nc rfl) ?_
                  refine g_ev (e_fa Try.underlying68 rfl rfl Try.sizeOf3) ?_
                  refine g_eff (s_stm 7 Try.sizeOf3 rfl (by repeat ((conv => arg 3; whnf); first | with_reducible exact .here | apply Turn.there))) ?_
                  rintro _ _ ⟨rfl, rfl⟩
                  refine g_nil ?_
                  refine gc_region ?_
                  refine g_ev (e_mv) ?_
                  refine g_ev (e_nc rfl) ?_
                  refine g_ev (e_fa Try.underlying68 rfl rfl Try.sizeOf4) ?_
                  refine g_eff (s_stm 9 Try.sizeOf4 rfl (by repeat ((conv => arg 3; whnf); first | with_reducible exact .here | apply Turn.there))) ?_
                  rintro _ _ ⟨rfl, rfl⟩
                  refine g_nil ?_
                  refine gc_seq ?_
                  refine gc_region ?_
                  refine g_ev (e_as) ?_
                  refine g_nil ?_
                  refine gc_ret ?_
                  have hx : l.rule f (hasSent (sent.map fun x : FactV => x.f) f) = (0, (l.set f.side ({ x with since := x.watch, fresh := false } : REnd))) := by unfold RLine.rule; rw [if_neg c59, if_neg c83, if_neg c163, if_neg c168, if_pos c181, hget]; unfold REnd.tick; rw [if_pos c196]
                  have hs : sentR (sent.map fun x : FactV => x.f) f = (sent.map fun x : FactV => x.f) := by unfold sentR; rw [if_neg c59, if_neg c163]
                  have hw := rruleJ_eq c41 hconn hx hs
                  have hs2 := sess_mid (l1 := l1) (l2 := l2) (hv3 ({ x with since := x.watch, fresh := false } : REnd)).2
                  exact ret1 (v := .int .i64 0) (L1 := [blk rj 48 [.slice (some pe) n ec, .slice (some pq) n sc, .slice ta sent.length tc, .int .i64 at_, .int .i64 r, .int .i64 ra], sown 69 1 (.slice (some pe) n ec) n (hdrs (l1 ++ (l.set f.side ({ x with since := x.watch, fresh := false } : REnd)) :: l2)), sown 23 1 (.slice (some pq) n sc) n (sesV (l1 ++ (l.set f.side ({ x with since := x.watch, fresh := false } : REnd)) :: l2)), factsM ta tc sent, ownR (l1 ++ (l.set f.side ({ x with since := x.watch, fresh := false } : REnd)) :: l2), A]) rfl (by (conv => lhs; whnf); try rfl) ⟨ta, tc, (l1 ++ (l.set f.side ({ x with since := x.watch, fresh := false } : REnd)) :: l2), sent, 0, rfl, rfl, hw⟩ (fun w h => by rw [hs2]; exact rr_shut (hv3 ({ x with since := x.watch, fresh := false } : REnd)).1 (by rw [hv2]; exact h.fin (L1 := [blk rj 48 [.slice (some pe) n ec, .slice (some pq) n sc, .slice ta sent.length tc, .int .i64 at_, .int .i64 r, .int .i64 ra], sown 69 1 (.slice (some pe) n ec) n (hdrs (l1 ++ l :: l2)), sown 23 1 (.slice (some pq) n sc) n (sesV (l1 ++ l :: l2)), factsM ta tc sent, blk l.be 68 (pre2 ++ (({ x with since := x.watch, fresh := false } : REnd).cells ++ post2)), allP (l1.map RLine.part ++ l2.map RLine.part), A]) (F := F) (by repeat ((conv => arg 1; whnf); (conv => arg 2; whnf); first | with_reducible exact .done | exact Fin.all _ | refine .cons (by repeat ((conv => arg 2; whnf); first | with_reducible exact .here | ((with_reducible refine Del.hereC ?_); rfl) | ((with_reducible refine Del.hereS ?_ ?_ ?_) <;> rfl) | exact .here | apply Del.there)) ?_ | refine .drop ?_))))
                · skip
                  refine gc_region ?_
                  refine g_ev (e_mv) ?_
                  refine g_ev (e_mv) ?_
                  refine g_ev (e_nc rfl) ?_
                  refine g_ev (e_fa Try.underlying68 rfl rfl Try.sizeOf3) ?_
                  refine g_ev (e_ldm 7 Try.underlying3 rfl (by repeat ((conv => arg 2; whnf); first | with_reducible exact .here | ((with_reducible refine Del.hereC ?_); rfl) | ((with_reducible refine Del.hereS ?_ ?_ ?_) <;> rfl) | exact .here | apply Del.there)) rfl) ?_
                  refine g_ev (e_mv) ?_
                  refine g_ev (e_addw rfl rfl) ?_
                  refine g_ev (e_nc rfl) ?_
                  refine g_ev (e_fa Try.underlying68 rfl rfl Try.sizeOf3) ?_
                  refine g_eff (s_stm 7 Try.sizeOf3 rfl (by repeat ((conv => arg 3; whnf); first | with_reducible exact .here | apply Turn.there))) ?_
                  rintro _ _ ⟨rfl, rfl⟩
                  refine g_nil ?_
                  refine gc_seq ?_
                  refine gc_region ?_
                  refine g_ev (e_as) ?_
                  refine g_nil ?_
                  refine gc_ret ?_
                  have hx : l.rule f (hasSent (sent.map fun x : FactV => x.f) f) = (0, (l.set f.side ({ x with since := IntKind.i64.wrap (x.since + (f.num : Int)) } : REnd))) := by unfold RLine.rule; rw [if_neg c59, if_neg c83, if_neg c163, if_neg c168, if_pos c181, hget]; unfold REnd.tick; rw [if_neg c196]
                  have hs : sentR (sent.map fun x : FactV => x.f) f = (sent.map fun x : FactV => x.f) := by unfold sentR; rw [if_neg c59, if_neg c163]
                  have hw := rruleJ_eq c41 hconn hx hs
                  have hs2 := sess_mid (l1 := l1) (l2 := l2) (hv3 ({ x with since := IntKind.i64.wrap (x.since + (f.num : Int)) } : REnd)).2
                  exact ret1 (v := .int .i64 0) (L1 := [blk rj 48 [.slice (some pe) n ec, .slice (some pq) n sc, .slice ta sent.length tc, .int .i64 at_, .int .i64 r, .int .i64 ra], sown 69 1 (.slice (some pe) n ec) n (hdrs (l1 ++ (l.set f.side ({ x with since := IntKind.i64.wrap (x.since + (f.num : Int)) } : REnd)) :: l2)), sown 23 1 (.slice (some pq) n sc) n (sesV (l1 ++ (l.set f.side ({ x with since := IntKind.i64.wrap (x.since + (f.num : Int)) } : REnd)) :: l2)), factsM ta tc sent, ownR (l1 ++ (l.set f.side ({ x with since := IntKind.i64.wrap (x.since + (f.num : Int)) } : REnd)) :: l2), A]) rfl (by (conv => lhs; whnf); try rfl) ⟨ta, tc, (l1 ++ (l.set f.side ({ x with since := IntKind.i64.wrap (x.since + (f.num : Int)) } : REnd)) :: l2), sent, 0, rfl, rfl, hw⟩ (fun w h => by rw [hs2]; exact rr_shut (hv3 ({ x with since := IntKind.i64.wrap (x.since + (f.num : Int)) } : REnd)).1 (by rw [hv2]; exact h.fin (L1 := [blk rj 48 [.slice (some pe) n ec, .slice (some pq) n sc, .slice ta sent.length tc, .int .i64 at_, .int .i64 r, .int .i64 ra], sown 69 1 (.slice (some pe) n ec) n (hdrs (l1 ++ l :: l2)), sown 23 1 (.slice (some pq) n sc) n (sesV (l1 ++ l :: l2)), factsM ta tc sent, blk l.be 68 (pre2 ++ (({ x with since := IntKind.i64.wrap (x.since + (f.num : Int)) } : REnd).cells ++ post2)), allP (l1.map RLine.part ++ l2.map RLine.part), A]) (F := F) (by repeat ((conv => arg 1; whnf); (conv => arg 2; whnf); first | with_reducible exact .done | exact Fin.all _ | refine .cons (by repeat ((conv => arg 2; whnf); first | with_reducible exact .here | ((with_reducible refine Del.hereC ?_); rfl) | ((with_reducible refine Del.hereS ?_ ?_ ?_) <;> rfl) | exact .here | apply Del.there)) ?_ | refine .drop ?_))))
              · skip
                refine gc_seq ?_
                refine gc_region ?_
                refine g_ev (e_eq rfl rfl) ?_
                refine g_ev (e_as) ?_
                refine g_nil ?_
                first | refine gc_dec rfl (fun c216 => ?_) (fun c216 => ?_) | refine gc_ndec rfl (fun c216 => ?_) (fun c216 => ?_) | refine gc_cond rfl (fun c216 => ?_) (fun c216 => ?_)
                · skip
                  refine gc_seq ?_
                  refine gc_region ?_
                  refine g_ev (e_mv) ?_
                  refine g_ev (e_nc rfl) ?_
                  refine g_ev (e_fa Try.underlying68 rfl rfl Try.sizeOf4) ?_
                  refine g_ev (e_ldm 9 Try.underlying4 rfl (by repeat ((conv => arg 2; whnf); first | with_reducible exact .here | ((with_reducible refine Del.hereC ?_); rfl) | ((with_reducible refine Del.hereS ?_ ?_ ?_) <;> rfl) | exact .here | apply Del.there)) rfl) ?_
                  refine g_nil ?_
                  first | refine gc_dec rfl (fun c221 => ?_) (fun c221 => ?_) | refine gc_ndec rfl (fun c221 => ?_) (fun c221 => ?_) | refine gc_cond rfl (fun c221 => ?_) (fun c221 => ?_)
                  · skip
                    refine gc_region ?_
                    refine g_ev (e_mv) ?_
                    refine g_ev (e_nc rfl) ?_
                    refine g_ev (e_fa Try.underlying68 rfl rfl Try.sizeOf4) ?_
                    refine g_eff (s_stm 10 Try.sizeOf4 rfl (by repeat ((conv => arg 3; whnf); first | with_reducible exact .here | apply Turn.there))) ?_
                    rintro _ _ ⟨rfl, rfl⟩
                    refine g_nil ?_
                    refine gc_seq ?_
                    refine gc_region ?_
                    refine g_ev (e_as) ?_
                    refine g_nil ?_
                    refine gc_ret ?_
                    have hx : l.rule f (hasSent (sent.map fun x : FactV => x.f) f) = (0, (l.set f.side ({ x with acked := true } : REnd))) := by unfold RLine.rule; rw [if_neg c59, if_neg c83, if_neg c163, if_neg c168, if_neg c181, if_pos c216, hget]; rw [show (x.fresh || x.acked) = true by simp [c221]]
                    have hs : sentR (sent.map fun x : FactV => x.f) f = (sent.map fun x : FactV => x.f) := by unfold sentR; rw [if_neg c59, if_neg c163]
                    have hw := rruleJ_eq c41 hconn hx hs
                    have hs2 := sess_mid (l1 := l1) (l2 := l2) (hv3 ({ x with acked := true } : REnd)).2
                    exact ret1 (v := .int .i64 0) (L1 := [blk rj 48 [.slice (some pe) n ec, .slice (some pq) n sc, .slice ta sent.length tc, .int .i64 at_, .int .i64 r, .int .i64 ra], sown 69 1 (.slice (some pe) n ec) n (hdrs (l1 ++ (l.set f.side ({ x with acked := true } : REnd)) :: l2)), sown 23 1 (.slice (some pq) n sc) n (sesV (l1 ++ (l.set f.side ({ x with acked := true } : REnd)) :: l2)), factsM ta tc sent, ownR (l1 ++ (l.set f.side ({ x with acked := true } : REnd)) :: l2), A]) rfl (by (conv => lhs; whnf); try rfl) ⟨ta, tc, (l1 ++ (l.set f.side ({ x with acked := true } : REnd)) :: l2), sent, 0, rfl, rfl, hw⟩ (fun w h => by rw [hs2]; exact rr_shut (hv3 ({ x with acked := true } : REnd)).1 (by rw [hv2]; exact h.fin (L1 := [blk rj 48 [.slice (some pe) n ec, .slice (some pq) n sc, .slice ta sent.length tc, .int .i64 at_, .int .i64 r, .int .i64 ra], sown 69 1 (.slice (some pe) n ec) n (hdrs (l1 ++ l :: l2)), sown 23 1 (.slice (some pq) n sc) n (sesV (l1 ++ l :: l2)), factsM ta tc sent, blk l.be 68 (pre2 ++ (({ x with acked := true } : REnd).cells ++ post2)), allP (l1.map RLine.part ++ l2.map RLine.part), A]) (F := F) (by repeat ((conv => arg 1; whnf); (conv => arg 2; whnf); first | with_reducible exact .done | exact Fin.all _ | refine .cons (by repeat ((conv => arg 2; whnf); first | with_reducible exact .here | ((with_reducible refine Del.hereC ?_); rfl) | ((with_reducible refine Del.hereS ?_ ?_ ?_) <;> rfl) | exact .here | apply Del.there)) ?_ | refine .drop ?_))))
                  · skip
                    refine gc_skip ?_
                    refine gc_seq ?_
                    refine gc_region ?_
                    refine g_ev (e_as) ?_
                    refine g_nil ?_
                    refine gc_ret ?_
                    have hx : l.rule f (hasSent (sent.map fun x : FactV => x.f) f) = (0, (l.set f.side ({ x with acked := x.acked } : REnd))) := by unfold RLine.rule; rw [if_neg c59, if_neg c83, if_neg c163, if_neg c168, if_neg c181, if_pos c216, hget]; rw [show (x.fresh || x.acked) = x.acked by simp [c221]]
                    have hs : sentR (sent.map fun x : FactV => x.f) f = (sent.map fun x : FactV => x.f) := by unfold sentR; rw [if_neg c59, if_neg c163]
                    have hw := rruleJ_eq c41 hconn hx hs
                    have hs2 := sess_mid (l1 := l1) (l2 := l2) (hv3 ({ x with acked := x.acked } : REnd)).2
                    exact ret1 (v := .int .i64 0) (L1 := [blk rj 48 [.slice (some pe) n ec, .slice (some pq) n sc, .slice ta sent.length tc, .int .i64 at_, .int .i64 r, .int .i64 ra], sown 69 1 (.slice (some pe) n ec) n (hdrs (l1 ++ (l.set f.side ({ x with acked := x.acked } : REnd)) :: l2)), sown 23 1 (.slice (some pq) n sc) n (sesV (l1 ++ (l.set f.side ({ x with acked := x.acked } : REnd)) :: l2)), factsM ta tc sent, ownR (l1 ++ (l.set f.side ({ x with acked := x.acked } : REnd)) :: l2), A]) rfl (by (conv => lhs; whnf); try rfl) ⟨ta, tc, (l1 ++ (l.set f.side ({ x with acked := x.acked } : REnd)) :: l2), sent, 0, rfl, rfl, hw⟩ (fun w h => by rw [hs2]; exact rr_shut (hv3 ({ x with acked := x.acked } : REnd)).1 (by rw [hv2]; exact h.fin (L1 := [blk rj 48 [.slice (some pe) n ec, .slice (some pq) n sc, .slice ta sent.length tc, .int .i64 at_, .int .i64 r, .int .i64 ra], sown 69 1 (.slice (some pe) n ec) n (hdrs (l1 ++ l :: l2)), sown 23 1 (.slice (some pq) n sc) n (sesV (l1 ++ l :: l2)), factsM ta tc sent, blk l.be 68 (pre2 ++ (({ x with acked := x.acked } : REnd).cells ++ post2)), allP (l1.map RLine.part ++ l2.map RLine.part), A]) (F := F) (by repeat ((conv => arg 1; whnf); (conv => arg 2; whnf); first | with_reducible exact .done | exact Fin.all _ | refine .cons (by repeat ((conv => arg 2; whnf); first | with_reducible exact .here | ((with_reducible refine Del.hereC ?_); rfl) | ((with_reducible refine Del.hereS ?_ ?_ ?_) <;> rfl) | exact .here | apply Del.there)) ?_ | refine .drop ?_))))
                · skip
                  refine gc_seq ?_
                  refine gc_region ?_
                  refine g_ev (e_eq rfl rfl) ?_
                  refine g_ev (e_as) ?_
                  refine g_nil ?_
                  first | refine gc_dec rfl (fun c225 => ?_) (fun c225 => ?_) | refine gc_ndec rfl (fun c225 => ?_) (fun c225 => ?_) | refine gc_cond rfl (fun c225 => ?_) (fun c225 => ?_)
                  · skip
                    refine gc_seq ?_
                    refine gc_region ?_
                    refine g_ev (e_mv) ?_
                    refine g_ev (e_nc rfl) ?_
                    refine g_ev (e_fa Try.underlying68 rfl rfl Try.sizeOf3) ?_
                    refine g_ev (e_ldm 0 Try.underlying3 rfl (by repeat ((conv => arg 2; whnf); first | with_reducible exact .here | ((with_reducible refine Del.hereC ?_); rfl) | ((with_reducible refine Del.hereS ?_ ?_ ?_) <;> rfl) | exact .here | apply Del.there)) rfl) ?_
                    refine g_ev ((e_bd Try.underlying68 Try.zeroValue68 pl768 rfl).to (v' := .agg ⟨[.int .i64 x.watch, .bool false, .int .u32 0, .int .u32 0, .bool false, .string ⟨([] : List UInt8).toArray⟩, .int .u32 0, .int .i64 0, .int .i64 0, .bool false, .bool false]⟩) rfl) ?_
                    refine g_eff (s_al Try.zeroValue68) ?_
                    rintro _ _ ⟨b8, rfl, rfl⟩
                    refine g_eff (s_stA Try.sizeOf68 rfl rfl (by repeat ((conv => arg 3; whnf); first | with_reducible exact .here | apply Turn.there))) ?_
                    rintro _ _ ⟨rfl, rfl⟩
                    refine g_nil ?_
                    refine gc_seq ?_
                    refine gc_seq ?_
                    refine gc_region ?_
                    refine g_ev (e_mv) ?_
                    refine g_nil ?_
                    first | refine gc_dec rfl (fun c232 => ?_) (fun c232 => ?_) | refine gc_ndec rfl (fun c232 => ?_) (fun c232 => ?_) | refine gc_cond rfl (fun c232 => ?_) (fun c232 => ?_)
                    · skip
                      refine gc_draw (D := [blk b8 68 [.int .i64 x.watch, .bool false, .int .u32 0, .int .u32 0, .bool false, .string ⟨([] : List UInt8).toArray⟩, .int .u32 0, .int .i64 0, .int .i64 0, .bool false, .bool false]]) (fin := none) (plan := [(true, 0), (true, 1), (true, 2), (true, 3), (true, 4), (true, 5), (true, 6), (true, 7), (true, 8), (true, 9), (true, 10), (true, 11), (true, 12), (false, 13), (true, 14), (false, 15), (true, 16), (false, 17)]) rfl (by kernel_rfl) (by kernel_rfl) rfl (.cons (by repeat ((conv => arg 2; whnf); first | with_reducible exact .here | ((with_reducible refine Del.hereC ?_); rfl) | ((with_reducible refine Del.hereS ?_ ?_ ?_) <;> rfl) | exact .here | apply Del.there)) .nil) ?_
                      refine gp_ev rfl (e_mv) ?_
                      refine gp_ev rfl (e_nc rfl) ?_
                      refine gp_ev rfl (e_fa Try.underlying68 rfl rfl Try.sizeOf4) ?_
                      refine gp_ev rfl (e_ldm 1 Try.underlying4 rfl (by repeat ((conv => arg 2; whnf); first | with_reducible exact .here | ((with_reducible refine Del.hereC ?_); rfl) | ((with_reducible refine Del.hereS ?_ ?_ ?_) <;> rfl) | exact .here | apply Del.there)) rfl) ?_
                      refine gp_ev rfl (e_mv) ?_
                      refine gp_ev rfl (e_nc rfl) ?_
                      refine gp_ev rfl (e_fa Try.underlying68 rfl rfl Try.sizeOf23) ?_
                      refine gp_ev rfl (e_ldm 2 Try.underlying23 rfl (by repeat ((conv => arg 2; whnf); first | with_reducible exact .here | ((with_reducible refine Del.hereC ?_); rfl) | ((with_reducible refine Del.hereS ?_ ?_ ?_) <;> rfl) | exact .here | apply Del.there)) rfl) ?_
                      refine gp_ev rfl (e_mv) ?_
                      refine gp_ev rfl (e_nc rfl) ?_
                      refine gp_ev rfl (e_fa Try.underlying68 rfl rfl Try.sizeOf23) ?_
                      refine gp_ev rfl (e_ldm 3 Try.underlying23 rfl (by repeat ((conv => arg 2; whnf); first | with_reducible exact .here | ((with_reducible refine Del.hereC ?_); rfl) | ((with_reducible refine Del.hereS ?_ ?_ ?_) <;> rfl) | exact .here | apply Del.there)) rfl) ?_
                      refine gp_ev rfl (e_fa Try.underlying68 rfl rfl Try.sizeOf4) ?_
                      refine gp_eff rfl (s_st Try.sizeOf4 rfl (by repeat ((conv => arg 3; whnf); first | with_reducible exact .here | apply Turn.there))) ?_
                      rintro _ _ ⟨rfl, rfl⟩
                      refine gp_ev rfl (e_fa Try.underlying68 rfl rfl Try.sizeOf23) ?_
                      refine gp_eff rfl (s_st Try.sizeOf23 rfl (by repeat ((conv => arg 3; whnf); first | with_reducible exact .here | apply Turn.there))) ?_
                      rintro _ _ ⟨rfl, rfl⟩
                      refine gp_ev rfl (e_fa Try.underlying68 rfl rfl Try.sizeOf23) ?_
                      refine gp_eff rfl (s_st Try.sizeOf23 rfl (by repeat ((conv => arg 3; whnf); first | with_reducible exact .here | apply Turn.there))) ?_
                      rintro _ _ ⟨rfl, rfl⟩
                      refine gp_nil ?_
                      refine gc_region ?_
                      refine g_ev (e_mv) ?_
                      refine g_ev ((e_ldA Try.underlying68 rfl (by repeat ((conv => arg 2; whnf); first | with_reducible exact .here | ((with_reducible refine Del.hereC ?_); rfl) | ((with_reducible refine Del.hereS ?_ ?_ ?_) <;> rfl) | exact .here | apply Del.there)) Try.sizeOf68 (by simp)).to (v' := .agg ⟨(⟨x.watch, x.took, x.sess, x.num, false, [], 0, 0, 0, false, false⟩ : REnd).cells⟩) rfl) ?_
                      refine g_ev (e_nc rfl) ?_
                      refine g_eff (s_stAm Try.sizeOf68 rfl rfl (by repeat ((conv => arg 3; whnf); first | with_reducible exact .here | apply Turn.there))) ?_
                      rintro _ _ ⟨rfl, rfl⟩
                      refine g_nil ?_
                      refine gc_seq ?_
                      refine gc_region ?_
                      refine g_ev (e_as) ?_
                      refine g_nil ?_
                      refine gc_ret ?_
                      have hx : l.rule f (hasSent (sent.map fun x : FactV => x.f) f) = (0, (l.set f.side (⟨x.watch, x.took, x.sess, x.num, false, [], 0, 0, 0, false, false⟩ : REnd))) := by unfold RLine.rule; rw [if_neg c59, if_neg c83, if_neg c163, if_neg c168, if_neg c181, if_neg c216, if_pos c225, hget]; unfold REnd.anew; rw [if_pos c232]
                      have hs : sentR (sent.map fun x : FactV => x.f) f = (sent.map fun x : FactV => x.f) := by unfold sentR; rw [if_neg c59, if_neg c163]
                      have hw := rruleJ_eq c41 hconn hx hs
                      have hs2 := sess_mid (l1 := l1) (l2 := l2) (hv3 (⟨x.watch, x.took, x.sess, x.num, false, [], 0, 0, 0, false, false⟩ : REnd)).2
                      exact ret1 (v := .int .i64 0) (L1 := [blk rj 48 [.slice (some pe) n ec, .slice (some pq) n sc, .slice ta sent.length tc, .int .i64 at_, .int .i64 r, .int .i64 ra], sown 69 1 (.slice (some pe) n ec) n (hdrs (l1 ++ (l.set f.side (⟨x.watch, x.took, x.sess, x.num, false, [], 0, 0, 0, false, false⟩ : REnd)) :: l2)), sown 23 1 (.slice (some pq) n sc) n (sesV (l1 ++ (l.set f.side (⟨x.watch, x.took, x.sess, x.num, false, [], 0, 0, 0, false, false⟩ : REnd)) :: l2)), factsM ta tc sent, ownR (l1 ++ (l.set f.side (⟨x.watch, x.took, x.sess, x.num, false, [], 0, 0, 0, false, false⟩ : REnd)) :: l2), A]) rfl (by (conv => lhs; whnf); try rfl) ⟨ta, tc, (l1 ++ (l.set f.side (⟨x.watch, x.took, x.sess, x.num, false, [], 0, 0, 0, false, false⟩ : REnd)) :: l2), sent, 0, rfl, rfl, hw⟩ (fun w h => by rw [hs2]; exact rr_shut (hv3 (⟨x.watch, x.took, x.sess, x.num, false, [], 0, 0, 0, false, false⟩ : REnd)).1 (by rw [hv2]; exact h.fin (L1 := [blk rj 48 [.slice (some pe) n ec, .slice (some pq) n sc, .slice ta sent.length tc, .int .i64 at_, .int .i64 r, .int .i64 ra], sown 69 1 (.slice (some pe) n ec) n (hdrs (l1 ++ l :: l2)), sown 23 1 (.slice (some pq) n sc) n (sesV (l1 ++ l :: l2)), factsM ta tc sent, blk l.be 68 (pre2 ++ ((⟨x.watch, x.took, x.sess, x.num, false, [], 0, 0, 0, false, false⟩ : REnd).cells ++ post2)), allP (l1.map RLine.part ++ l2.map RLine.part), A]) (F := F) (by repeat ((conv => arg 1; whnf); (conv => arg 2; whnf); first | with_reducible exact .done | exact Fin.all _ | refine .cons (by repeat ((conv => arg 2; whnf); first | with_reducible exact .here | ((with_reducible refine Del.hereC ?_); rfl) | ((with_reducible refine Del.hereS ?_ ?_ ?_) <;> rfl) | exact .here | apply Del.there)) ?_ | refine .drop ?_))))
                    · skip
                      refine gc_skip ?_
                      refine gc_region ?_
                      refine g_ev (e_mv) ?_
                      refine g_ev ((e_ldA Try.underlying68 rfl (by repeat ((conv => arg 2; whnf); first | with_reducible exact .here | ((with_reducible refine Del.hereC ?_); rfl) | ((with_reducible refine Del.hereS ?_ ?_ ?_) <;> rfl) | exact .here | apply Del.there)) Try.sizeOf68 (by simp)).to (v' := .agg ⟨(⟨x.watch, false, 0, 0, false, [], 0, 0, 0, false, false⟩ : REnd).cells⟩) rfl) ?_
                      refine g_ev (e_nc rfl) ?_
                      refine g_eff (s_stAm Try.sizeOf68 rfl rfl (by repeat ((conv => arg 3; whnf); first | with_reducible exact .here | apply Turn.there))) ?_
                      rintro _ _ ⟨rfl, rfl⟩
                      refine g_nil ?_
                      refine gc_seq ?_
                      refine gc_region ?_
                      refine g_ev (e_as) ?_
                      refine g_nil ?_
                      refine gc_ret ?_
                      have hx : l.rule f (hasSent (sent.map fun x : FactV => x.f) f) = (0, (l.set f.side (⟨x.watch, false, 0, 0, false, [], 0, 0, 0, false, false⟩ : REnd))) := by unfold RLine.rule; rw [if_neg c59, if_neg c83, if_neg c163, if_neg c168, if_neg c181, if_neg c216, if_pos c225, hget]; unfold REnd.anew; rw [if_neg c232]
                      have hs : sentR (sent.map fun x : FactV => x.f) f = (sent.map fun x : FactV => x.f) := by unfold sentR; rw [if_neg c59, if_neg c163]
                      have hw := rruleJ_eq c41 hconn hx hs
                      have hs2 := sess_mid (l1 := l1) (l2 := l2) (hv3 (⟨x.watch, false, 0, 0, false, [], 0, 0, 0, false, false⟩ : REnd)).2
                      exact ret1 (v := .int .i64 0) (L1 := [blk rj 48 [.slice (some pe) n ec, .slice (some pq) n sc, .slice ta sent.length tc, .int .i64 at_, .int .i64 r, .int .i64 ra], sown 69 1 (.slice (some pe) n ec) n (hdrs (l1 ++ (l.set f.side (⟨x.watch, false, 0, 0, false, [], 0, 0, 0, false, false⟩ : REnd)) :: l2)), sown 23 1 (.slice (some pq) n sc) n (sesV (l1 ++ (l.set f.side (⟨x.watch, false, 0, 0, false, [], 0, 0, 0, false, false⟩ : REnd)) :: l2)), factsM ta tc sent, ownR (l1 ++ (l.set f.side (⟨x.watch, false, 0, 0, false, [], 0, 0, 0, false, false⟩ : REnd)) :: l2), A]) rfl (by (conv => lhs; whnf); try rfl) ⟨ta, tc, (l1 ++ (l.set f.side (⟨x.watch, false, 0, 0, false, [], 0, 0, 0, false, false⟩ : REnd)) :: l2), sent, 0, rfl, rfl, hw⟩ (fun w h => by rw [hs2]; exact rr_shut (hv3 (⟨x.watch, false, 0, 0, false, [], 0, 0, 0, false, false⟩ : REnd)).1 (by rw [hv2]; exact h.fin (L1 := [blk rj 48 [.slice (some pe) n ec, .slice (some pq) n sc, .slice ta sent.length tc, .int .i64 at_, .int .i64 r, .int .i64 ra], sown 69 1 (.slice (some pe) n ec) n (hdrs (l1 ++ l :: l2)), sown 23 1 (.slice (some pq) n sc) n (sesV (l1 ++ l :: l2)), factsM ta tc sent, blk l.be 68 (pre2 ++ ((⟨x.watch, false, 0, 0, false, [], 0, 0, 0, false, false⟩ : REnd).cells ++ post2)), allP (l1.map RLine.part ++ l2.map RLine.part), A]) (F := F) (by repeat ((conv => arg 1; whnf); (conv => arg 2; whnf); first | with_reducible exact .done | exact Fin.all _ | refine .cons (by repeat ((conv => arg 2; whnf); first | with_reducible exact .here | ((with_reducible refine Del.hereC ?_); rfl) | ((with_reducible refine Del.hereS ?_ ?_ ?_) <;> rfl) | exact .here | apply Del.there)) ?_ | refine .drop ?_))))
                  · skip
                    refine gc_seq ?_
                    refine gc_region ?_
                    refine g_ev (e_eq rfl rfl) ?_
                    refine g_ev (e_as) ?_
                    refine g_nil ?_
                    first | refine gc_dec rfl (fun c251 => ?_) (fun c251 => ?_) | refine gc_ndec rfl (fun c251 => ?_) (fun c251 => ?_) | refine gc_cond rfl (fun c251 => ?_) (fun c251 => ?_)
                    · skip
                      refine gc_seq ?_
                      refine gc_draw (D := [blk l.be 68 (pre2 ++ (x.cells ++ post2)), A]) (fin := none) (plan := [(true, 0), (true, 1), (true, 2), (true, 3), (true, 4), (true, 5), (true, 6), (true, 7), (true, 8), (true, 9), (true, 10), (false, 11), (true, 12)]) rfl (by kernel_rfl) (by kernel_rfl) rfl (.cons (by repeat ((conv => arg 2; whnf); first | with_reducible exact .here | ((with_reducible refine Del.hereC ?_); rfl) | ((with_reducible refine Del.hereS ?_ ?_ ?_) <;> rfl) | exact .here | apply Del.there)) (.cons (by repeat ((conv => arg 2; whnf); first | with_reducible exact .here | ((with_reducible refine Del.hereC ?_); rfl) | ((with_reducible refine Del.hereS ?_ ?_ ?_) <;> rfl) | exact .here | apply Del.there)) (.nil))) ?_
                      refine gp_ev rfl (e_mv) ?_
                      refine gp_ev rfl (e_ldA Try.underlying43 rfl (by repeat ((conv => arg 2; whnf); first | with_reducible exact .here | ((with_reducible refine Del.hereC ?_); rfl) | ((with_reducible refine Del.hereS ?_ ?_ ?_) <;> rfl) | exact .here | apply Del.there)) Try.sizeOf43 (by simp)) ?_
                      refine gp_ev rfl (e_mv) ?_
                      refine gp_ev rfl (e_mv) ?_
                      refine gp_ev rfl (e_nc rfl) ?_
                      refine gp_ev rfl (e_fa Try.underlying48 rfl rfl Try.sizeOf46) ?_
                      refine gp_ev rfl (e_ld Try.underlying46 rfl (by repeat ((conv => arg 2; whnf); first | with_reducible exact .here | ((with_reducible refine Del.hereC ?_); rfl) | ((with_reducible refine Del.hereS ?_ ?_ ?_) <;> rfl) | exact .here | apply Del.there)) rfl) ?_
                      refine gp_ev rfl (e_fa Try.underlying43 rfl rfl Try.sizeOf3) ?_
                      refine gp_ev rfl (e_ld Try.underlying3 rfl (by repeat ((conv => arg 2; whnf); first | with_reducible exact .here | ((with_reducible refine Del.hereC ?_); rfl) | ((with_reducible refine Del.hereS ?_ ?_ ?_) <;> rfl) | exact .here | apply Del.there)) rfl) ?_
                      refine gp_ev rfl (e_iaA (q := l1.length) Try.underlying46 Try.sizeOf23 rfl rfl hconn hl1) ?_
                      refine gp_ev rfl (e_ldc (v := .int .u32 (l.ses : Int)) Try.underlying23 rfl (fun B w h => (h.rds (e := 23) (k := 1) (by repeat ((conv => arg 2; whnf); first | with_reducible exact .here | ((with_reducible refine Del.hereC ?_); rfl) | ((with_reducible refine Del.hereS ?_ ?_ ?_) <;> rfl) | exact .here | apply Del.there))).at_ hg2)) ?_
                      refine gp_eff rfl (s_call (rout_t x f (decide (f.side = 2)) l.ses hr hm) (.cons (by repeat ((conv => arg 2; whnf); first | with_reducible exact .here | ((with_reducible refine Del.hereC ?_); rfl) | ((with_reducible refine Del.hereS ?_ ?_ ?_) <;> rfl) | exact .here | apply Del.there)) (.cons (by repeat ((conv => arg 2; whnf); first | with_reducible exact .here | ((with_reducible refine Del.hereC ?_); rfl) | ((with_reducible refine Del.hereS ?_ ?_ ?_) <;> rfl) | exact .here | apply Del.there)) (.nil)))) ?_
                      rintro _ _ ⟨_, ⟨rfl, rfl⟩, rfl⟩
                      refine gp_ev rfl (e_as) ?_
                      refine gp_nil ?_
                      refine gc_ret ?_
                      have hx : l.rule f (hasSent (sent.map fun x : FactV => x.f) f) = ((x.out f (decide (f.side = 2)) l.ses).1, (l.set f.side (x.out f (decide (f.side = 2)) l.ses).2)) := by unfold RLine.rule; rw [if_neg c59, if_neg c83, if_neg c163, if_neg c168, if_neg c181, if_neg c216, if_neg c225, hget]
                      have hs : sentR (sent.map fun x : FactV => x.f) f = (sent.map fun x : FactV => x.f) := by unfold sentR; rw [if_neg c59, if_neg c163]
                      have hw := rruleJ_eq c41 hconn hx hs
                      have hs2 := sess_mid (l1 := l1) (l2 := l2) (hv3 (x.out f (decide (f.side = 2)) l.ses).2).2
                      exact ret1 (v := .int .i64 (x.out f (decide (f.side = 2)) l.ses).1) (L1 := [blk rj 48 [.slice (some pe) n ec, .slice (some pq) n sc, .slice ta sent.length tc, .int .i64 at_, .int .i64 r, .int .i64 ra], sown 69 1 (.slice (some pe) n ec) n (hdrs (l1 ++ (l.set f.side (x.out f (decide (f.side = 2)) l.ses).2) :: l2)), sown 23 1 (.slice (some pq) n sc) n (sesV (l1 ++ (l.set f.side (x.out f (decide (f.side = 2)) l.ses).2) :: l2)), factsM ta tc sent, ownR (l1 ++ (l.set f.side (x.out f (decide (f.side = 2)) l.ses).2) :: l2), A]) rfl (by (conv => lhs; whnf); try rfl) ⟨ta, tc, (l1 ++ (l.set f.side (x.out f (decide (f.side = 2)) l.ses).2) :: l2), sent, (x.out f (decide (f.side = 2)) l.ses).1, rfl, rfl, hw⟩ (fun w h => by rw [hs2]; exact rr_shut (hv3 (x.out f (decide (f.side = 2)) l.ses).2).1 (by rw [hv2]; exact h.fin (L1 := [blk rj 48 [.slice (some pe) n ec, .slice (some pq) n sc, .slice ta sent.length tc, .int .i64 at_, .int .i64 r, .int .i64 ra], sown 69 1 (.slice (some pe) n ec) n (hdrs (l1 ++ l :: l2)), sown 23 1 (.slice (some pq) n sc) n (sesV (l1 ++ l :: l2)), factsM ta tc sent, blk l.be 68 (pre2 ++ ((x.out f (decide (f.side = 2)) l.ses).2.cells ++ post2)), allP (l1.map RLine.part ++ l2.map RLine.part), A]) (F := F) (by repeat ((conv => arg 1; whnf); (conv => arg 2; whnf); first | with_reducible exact .done | exact Fin.all _ | refine .cons (by repeat ((conv => arg 2; whnf); first | with_reducible exact .here | ((with_reducible refine Del.hereC ?_); rfl) | ((with_reducible refine Del.hereS ?_ ?_ ?_) <;> rfl) | exact .here | apply Del.there)) ?_ | refine .drop ?_))))
                    · exact absurd c41 (by unfold rbad1; omega)

end Go.Proofs.Ythjimddhnlmlhaa
