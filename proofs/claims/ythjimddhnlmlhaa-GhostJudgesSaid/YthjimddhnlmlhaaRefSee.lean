/- The walks of the document's See and New; no conditions. -/
import Derived.Test.YthjimddhnlmlhaaRefRule
namespace Go.Proofs.Ythjimddhnlmlhaa
open Go.Vc
theorem pl834 : plOK Try.prog 34 #[(0, 1), (1, 1)] := by intro fs h w; rw [Try.underlying34] at h; cases h; simp
theorem pl848 : plOK Try.prog 48 #[(0, 1), (1, 1), (2, 1), (3, 1), (4, 2)] := by intro fs h w; rw [Try.underlying48] at h; cases h; simp
theorem pl868 : plOK Try.prog 68 #[(0, 1), (1, 1), (2, 1), (3, 1), (4, 1), (5, 1), (6, 1), (7, 1), (8, 1), (9, 1), (10, 1)] := by intro fs h w; rw [Try.underlying68] at h; cases h; simp

def RLine.abs (l : RLine) : RLine := { l with be := 0 }
theorem rget_abs (l : RLine) (s : Int) : l.abs.get s = l.get s := by unfold RLine.get; split <;> rfl
theorem rset_abs (l : RLine) (s : Int) (x : REnd) : (l.set s x).abs = l.abs.set s x := by unfold RLine.set; split <;> rfl
theorem rrule_abs (l : RLine) (f : FactS) (has : Bool) : (l.rule f has).1 = (l.abs.rule f has).1 ∧ (l.rule f has).2.abs = (l.abs.rule f has).2 := by
  unfold RLine.rule
  rw [rget_abs, show l.abs.ses = l.ses from rfl]
  split; · exact ⟨rfl, rfl⟩
  split
  · split; · exact ⟨rfl, rfl⟩
    split; · exact ⟨rfl, rfl⟩
    exact ⟨rfl, rset_abs _ _ _⟩
  split; · exact ⟨rfl, rfl⟩
  split; · exact ⟨rfl, rset_abs _ _ _⟩
  split; · exact ⟨rfl, rset_abs _ _ _⟩
  split; · exact ⟨rfl, rset_abs _ _ _⟩
  split; · exact ⟨rfl, rset_abs _ _ _⟩
  exact ⟨rfl, rset_abs _ _ _⟩
theorem rruleJ_abs {ls ls2 D : List RLine} {sent s2 : List FactS} {f : FactS} {q : Int} (hD : ls.map RLine.abs = D) (h : rruleJ ls sent f = (q, ls2, s2)) : rruleJ D sent f = (q, ls2.map RLine.abs, s2) := by
  subst hD
  unfold rruleJ at h ⊢
  rw [List.length_map]
  split at h
  · rename_i hb; rw [if_pos hb]; cases h; rfl
  · rename_i hb
    rw [if_neg hb, List.getElem?_map]
    cases hg : ls[f.conn.toNat]? with
    | none => rw [hg] at h; cases h; rfl
    | some l =>
      rw [hg] at h
      simp only [Option.map_some] at h ⊢
      obtain ⟨a, b⟩ := rrule_abs l f (hasSent sent f)
      cases h
      rw [← a, ← b, List.map_set]
structure RD where
  ls : List RLine
  sent : List FactS
  at_ : Nat
  r : Int
  ra : Int
def RD.see (D : RD) (f : FactS) : RD :=
  if D.r = 0 then if (rruleJ D.ls D.sent f).1 = 0 then { D with ls := (rruleJ D.ls D.sent f).2.1, sent := (rruleJ D.ls D.sent f).2.2, at_ := D.at_ + 1 } else ⟨(rruleJ D.ls D.sent f).2.1, (rruleJ D.ls D.sent f).2.2, D.at_ + 1, (rruleJ D.ls D.sent f).1, D.at_⟩
  else { D with at_ := D.at_ + 1 }
structure RX where
  ls : List RLine
  sent : List FactV
  ea : Option Addr
  ec : Nat
  sa : Option Addr
  sc : Nat
  ta : Option Addr
  tc : Nat
def rjudM (rj n : Nat) (D : RD) (x : RX) : List HProp :=
  [pr (x.ls.map RLine.abs = D.ls ∧ x.sent.map (fun y : FactV => y.f) = D.sent ∧ x.ls.length = n), blk rj 48 [.slice x.ea n x.ec, .slice x.sa n x.sc, .slice x.ta x.sent.length x.tc, .int .i64 D.at_, .int .i64 D.r, .int .i64 D.ra], sown 69 1 (.slice x.ea n x.ec) n (hdrs x.ls), sown 23 1 (.slice x.sa n x.sc) n (sesV x.ls), factsM x.ta x.tc x.sent, ownR x.ls]
/-- The document's judge in memory. -/
def rjud (rj n : Nat) (D : RD) : HProp := exL (rjudM rj n D)
theorem rjud_fold {rj n : Nat} {D : RD} {ls : List RLine} {sent : List FactV} {ea sa ta : Option Addr} {ec sc tc : Nat} {at_ : Nat} {r ra : Int} (h1 : ls.map RLine.abs = D.ls) (h2 : sent.map (fun y : FactV => y.f) = D.sent) (h3 : ls.length = n) (ha : D.at_ = at_) (hr : D.r = r) (hra : D.ra = ra) :
    ∀ f, sepL [blk rj 48 [.slice ea n ec, .slice sa n sc, .slice ta sent.length tc, .int .i64 at_, .int .i64 r, .int .i64 ra], sown 69 1 (.slice ea n ec) n (hdrs ls), sown 23 1 (.slice sa n sc) n (sesV ls), factsM ta tc sent, ownR ls] f → rjud rj n D f := by
  intro f hf
  subst ha; subst hr; subst hra
  exact ⟨⟨ls, sent, ea, ec, sa, sc, ta, tc⟩, fun _ => none, f, ⟨⟨h1, h2, h3⟩, fun _ => rfl⟩, hf, fun _ => .inl rfl, fun _ => by simp⟩
theorem gc_rjud {P : Program} {B : World} {m : Nat} {K : Kont} {E : Env} {c : Code} {rj n : Nat} {D : RD} {L L' : List HProp} (hd : Del (rjud rj n D) L L')
    (h : ∀ (ls : List RLine) (sent : List FactV) (ea : Option Addr) (ec : Nat) (sa : Option Addr) (sc : Nat) (ta : Option Addr) (tc : Nat), ls.map RLine.abs = D.ls → sent.map (fun y : FactV => y.f) = D.sent → ls.length = n →
      GC P B m c K E (blk rj 48 [.slice ea n ec, .slice sa n sc, .slice ta sent.length tc, .int .i64 D.at_, .int .i64 D.r, .int .i64 D.ra] :: sown 69 1 (.slice ea n ec) n (hdrs ls) :: sown 23 1 (.slice sa n sc) n (sesV ls) :: factsM ta tc sent :: ownR ls :: L')) : GC P B m c K E L :=
  gc_open (rjudM rj n D) hd (fun _ h => h) fun x => gc_pr .here fun ⟨h1, h2, h3⟩ => h x.ls x.sent x.ea x.ec x.sa x.sc x.ta x.tc h1 h2 h3


theorem rruleJ_len {ls ls2 : List RLine} {sent s2 : List FactS} {f : FactS} {q : Int} {n : Nat} (h : rruleJ ls sent f = (q, ls2, s2)) (hn : ls.length = n) : ls2.length = n := by
  unfold rruleJ at h
  split at h
  · cases h; exact hn
  · split at h
    · cases h; rw [List.length_set]; exact hn
    · cases h; exact hn

theorem rsee_t {rj n : Nat} (D : RD) (f : FactS) {a : Option Addr} {c : Nat} {A : HProp} (hr : ∀ B w, Sat B w [A] → Rds w 1 (.slice a f.data.length c) f.data.length (bv f.data)) (hf : f.ok) (hat : D.at_ < 4611686018427387904) (hsl : D.sent.length ≤ 1000000) : Tri Try.prog 14 #[.pointer (some ⟨rj, 0, none⟩), .agg ⟨f.cells (.slice a f.data.length c)⟩] [rjud rj n D, A] (isR (.agg ⟨[.int .i64 (D.see f).r, .int .i64 (D.see f).ra]⟩) [rjud rj n (D.see f), A]) := by
  refine tri_of Try.call14 Try.func14 rfl fun B F => ?_
  refine gc_rjud .here fun ls sent ea ec sa sc ta tc hls hse hnl => ?_
  have hsn : sent.length ≤ 1000000 := by have h0 := congrArg List.length hse; rw [List.length_map] at h0; omega
  refine gc_seq ?_
  refine gc_region ?_
  refine g_eff (s_bx) ?_
  rintro _ _ ⟨b3, rfl, rfl⟩
  refine g_eff (s_al Try.zeroValue34) ?_
  rintro _ _ ⟨b4, rfl, rfl⟩
  refine g_nil ?_
  refine gc_seq ?_
  refine gc_seq ?_
  refine gc_region ?_
  refine g_ev (e_mv) ?_
  refine g_ev (e_nc rfl) ?_
  refine g_ev (e_fa Try.underlying48 rfl rfl Try.sizeOf34) ?_
  refine g_ev (e_fa Try.underlying34 rfl rfl Try.sizeOf3) ?_
  refine g_ev (e_ld Try.underlying3 rfl (by repeat ((conv => arg 2; whnf); first | with_reducible exact .here | ((with_reducible refine Del.hereC ?_); rfl) | ((with_reducible refine Del.hereS ?_ ?_ ?_) <;> rfl) | exact .here | apply Del.there)) rfl) ?_
  refine g_ev (e_eq rfl rfl) ?_
  refine g_nil ?_
  first | refine gc_dec rfl (fun c11 => ?_) (fun c11 => ?_) | refine gc_ndec rfl (fun c11 => ?_) (fun c11 => ?_) | refine gc_cond rfl (fun c11 => ?_) (fun c11 => ?_)
  · skip
    refine gc_seq ?_
    refine gc_region ?_
    refine g_ev (e_mv) ?_
    refine g_ev (e_ldA Try.underlying43 rfl (by repeat ((conv => arg 2; whnf); first | with_reducible exact .here | ((with_reducible refine Del.hereC ?_); rfl) | ((with_reducible refine Del.hereS ?_ ?_ ?_) <;> rfl) | exact .here | apply Del.there)) Try.sizeOf43 (by first | exact Nat.le_of_ble_eq_true rfl | simp)) ?_
    refine g_eff (s_call (rrule_t (at_ := (D.at_ : Int)) f hr hf.1 hf.2 hsn hnl) (.cons (by repeat ((conv => arg 2; whnf); first | with_reducible exact .here | ((with_reducible refine Del.hereC ?_); rfl) | ((with_reducible refine Del.hereS ?_ ?_ ?_) <;> rfl) | exact .here | apply Del.there)) (.cons (by repeat ((conv => arg 2; whnf); first | with_reducible exact .here | ((with_reducible refine Del.hereC ?_); rfl) | ((with_reducible refine Del.hereS ?_ ?_ ?_) <;> rfl) | exact .here | apply Del.there)) (.cons (by repeat ((conv => arg 2; whnf); first | with_reducible exact .here | ((with_reducible refine Del.hereC ?_); rfl) | ((with_reducible refine Del.hereS ?_ ?_ ?_) <;> rfl) | exact .here | apply Del.there)) (.cons (by repeat ((conv => arg 2; whnf); first | with_reducible exact .here | ((with_reducible refine Del.hereC ?_); rfl) | ((with_reducible refine Del.hereS ?_ ?_ ?_) <;> rfl) | exact .here | apply Del.there)) (.cons (by repeat ((conv => arg 2; whnf); first | with_reducible exact .here | ((with_reducible refine Del.hereC ?_); rfl) | ((with_reducible refine Del.hereS ?_ ?_ ?_) <;> rfl) | exact .here | apply Del.there)) (.cons (by repeat ((conv => arg 2; whnf); first | with_reducible exact .here | ((with_reducible refine Del.hereC ?_); rfl) | ((with_reducible refine Del.hereS ?_ ?_ ?_) <;> rfl) | exact .here | apply Del.there)) (.nil)))))))) ?_
    rintro _ _ ⟨_, ⟨ta2, tc2, ls2, sent2, q, rfl, rfl, hq⟩, rfl⟩
    refine g_ev (e_as) ?_
    refine g_nil ?_
    refine gc_seq ?_
    refine gc_region ?_
    refine g_ev (e_mv) ?_
    refine g_ev (e_ne rfl rfl) ?_
    refine g_nil ?_
    first | refine gc_dec rfl (fun c16 => ?_) (fun c16 => ?_) | refine gc_ndec rfl (fun c16 => ?_) (fun c16 => ?_) | refine gc_cond rfl (fun c16 => ?_) (fun c16 => ?_)
    · skip
      refine gc_region ?_
      refine g_ev (e_mv) ?_
      refine g_ev (e_mv) ?_
      refine g_ev (e_mv) ?_
      refine g_ev (e_nc rfl) ?_
      refine g_ev (e_fa Try.underlying48 rfl rfl Try.sizeOf3) ?_
      refine g_ev (e_ld Try.underlying3 rfl (by repeat ((conv => arg 2; whnf); first | with_reducible exact .here | ((with_reducible refine Del.hereC ?_); rfl) | ((with_reducible refine Del.hereS ?_ ?_ ?_) <;> rfl) | exact .here | apply Del.there)) rfl) ?_
      refine g_ev ((e_bd Try.underlying34 Try.zeroValue34 pl834 rfl).to (v' := .agg ⟨[.int .i64 q, .int .i64 (D.at_ : Int)]⟩) rfl) ?_
      refine g_ev (e_nc rfl) ?_
      refine g_ev (e_fa Try.underlying48 rfl rfl Try.sizeOf34) ?_
      refine g_eff (s_stA Try.sizeOf34 rfl rfl (by repeat ((conv => arg 3; whnf); first | with_reducible exact .here | apply Turn.there))) ?_
      rintro _ _ ⟨rfl, rfl⟩
      refine g_nil ?_
      refine gc_seq ?_
      refine gc_region ?_
      refine g_ev (e_mv) ?_
      refine g_ev (e_mv) ?_
      refine g_ev (e_nc rfl) ?_
      refine g_ev (e_fa Try.underlying48 rfl rfl Try.sizeOf3) ?_
      refine g_ev (e_ld Try.underlying3 rfl (by repeat ((conv => arg 2; whnf); first | with_reducible exact .here | ((with_reducible refine Del.hereC ?_); rfl) | ((with_reducible refine Del.hereS ?_ ?_ ?_) <;> rfl) | exact .here | apply Del.there)) rfl) ?_
      refine g_ev ((e_addw rfl rfl).to (v' := .int .i64 ((D.at_ + 1 : Nat) : Int)) (congrArg _ (wrapN (by omega) (by omega)))) ?_
      refine g_ev (e_nc rfl) ?_
      refine g_ev (e_fa Try.underlying48 rfl rfl Try.sizeOf3) ?_
      refine g_eff (s_st Try.sizeOf3 rfl (by repeat ((conv => arg 3; whnf); first | with_reducible exact .here | apply Turn.there))) ?_
      rintro _ _ ⟨rfl, rfl⟩
      refine g_nil ?_
      refine gc_seq ?_
      refine gc_region ?_
      refine g_ev (e_mv) ?_
      refine g_ev (e_nc rfl) ?_
      refine g_ev (e_fa Try.underlying48 rfl rfl Try.sizeOf34) ?_
      refine g_ev (e_ldA Try.underlying34 rfl (by repeat ((conv => arg 2; whnf); first | with_reducible exact .here | ((with_reducible refine Del.hereC ?_); rfl) | ((with_reducible refine Del.hereS ?_ ?_ ?_) <;> rfl) | exact .here | apply Del.there)) Try.sizeOf34 (by first | exact Nat.le_of_ble_eq_true rfl | simp)) ?_
      refine g_eff (s_stA Try.sizeOf34 rfl rfl (by repeat ((conv => arg 3; whnf); first | with_reducible exact .here | apply Turn.there))) ?_
      rintro _ _ ⟨rfl, rfl⟩
      refine g_nil ?_
      refine gc_ret ?_
      have hw := rruleJ_abs hls hq
      rw [hse] at hw
      have hln : ls2.length = n := rruleJ_len hq hnl
      have hD : D.see f = ⟨ls2.map RLine.abs, sent2.map (fun y : FactV => y.f), D.at_ + 1, q, D.at_⟩ := by unfold RD.see; rw [if_pos (show D.r = 0 from c11), hw, if_neg (show ¬ q = 0 from c16)]
      exact retc (L1 := [rjud rj n (D.see f), A]) rfl (by (conv => lhs; whnf)) Try.underlying34 (by repeat ((conv => arg 2; whnf); first | with_reducible exact .here | ((with_reducible refine Del.hereC ?_); rfl) | ((with_reducible refine Del.hereS ?_ ?_ ?_) <;> rfl) | exact .here | apply Del.there)) Try.sizeOf34 rfl rfl ⟨(by rw [hD]; rfl), rfl⟩ (fun _ h => h.fin (.fold (M := [blk rj 48 [.slice ea n ec, .slice sa n sc, .slice ta2 sent2.length tc2, .int .i64 (D.at_ + 1 : Nat), .int .i64 q, .int .i64 (D.at_ : Int)], sown 69 1 (.slice ea n ec) n (hdrs ls2), sown 23 1 (.slice sa n sc) n (sesV ls2), factsM ta2 tc2 sent2, ownR ls2]) (rjud_fold (by rw [hD]) (by rw [hD]) hln (by rw [hD]) (by rw [hD]) (by rw [hD])) (by repeat ((conv => arg 1; whnf); (conv => arg 2; whnf); first | with_reducible exact .done | exact Fin.all _ | refine .cons (by repeat ((conv => arg 2; whnf); first | with_reducible exact .here | ((with_reducible refine Del.hereC ?_); rfl) | ((with_reducible refine Del.hereS ?_ ?_ ?_) <;> rfl) | exact .here | apply Del.there)) ?_ | refine .drop ?_))))
    · skip
      refine gc_skip ?_
      refine gc_seq ?_
      refine gc_region ?_
      refine g_ev (e_mv) ?_
      refine g_ev (e_mv) ?_
      refine g_ev (e_nc rfl) ?_
      refine g_ev (e_fa Try.underlying48 rfl rfl Try.sizeOf3) ?_
      refine g_ev (e_ld Try.underlying3 rfl (by repeat ((conv => arg 2; whnf); first | with_reducible exact .here | ((with_reducible refine Del.hereC ?_); rfl) | ((with_reducible refine Del.hereS ?_ ?_ ?_) <;> rfl) | exact .here | apply Del.there)) rfl) ?_
      refine g_ev ((e_addw rfl rfl).to (v' := .int .i64 ((D.at_ + 1 : Nat) : Int)) (congrArg _ (wrapN (by omega) (by omega)))) ?_
      refine g_ev (e_nc rfl) ?_
      refine g_ev (e_fa Try.underlying48 rfl rfl Try.sizeOf3) ?_
      refine g_eff (s_st Try.sizeOf3 rfl (by repeat ((conv => arg 3; whnf); first | with_reducible exact .here | apply Turn.there))) ?_
      rintro _ _ ⟨rfl, rfl⟩
      refine g_nil ?_
      refine gc_seq ?_
      refine gc_region ?_
      refine g_ev (e_mv) ?_
      refine g_ev (e_nc rfl) ?_
      refine g_ev (e_fa Try.underlying48 rfl rfl Try.sizeOf34) ?_
      refine g_ev (e_ldA Try.underlying34 rfl (by repeat ((conv => arg 2; whnf); first | with_reducible exact .here | ((with_reducible refine Del.hereC ?_); rfl) | ((with_reducible refine Del.hereS ?_ ?_ ?_) <;> rfl) | exact .here | apply Del.there)) Try.sizeOf34 (by first | exact Nat.le_of_ble_eq_true rfl | simp)) ?_
      refine g_eff (s_stA Try.sizeOf34 rfl rfl (by repeat ((conv => arg 3; whnf); first | with_reducible exact .here | apply Turn.there))) ?_
      rintro _ _ ⟨rfl, rfl⟩
      refine g_nil ?_
      refine gc_ret ?_
      have hw := rruleJ_abs hls hq
      rw [hse] at hw
      have hln : ls2.length = n := rruleJ_len hq hnl
      have hq0 : q = 0 := by simpa using c16
      have hD : D.see f = ⟨ls2.map RLine.abs, sent2.map (fun y : FactV => y.f), D.at_ + 1, D.r, D.ra⟩ := by unfold RD.see; rw [if_pos (show D.r = 0 from c11), hw, if_pos hq0]
      exact retc (L1 := [rjud rj n (D.see f), A]) rfl (by (conv => lhs; whnf)) Try.underlying34 (by repeat ((conv => arg 2; whnf); first | with_reducible exact .here | ((with_reducible refine Del.hereC ?_); rfl) | ((with_reducible refine Del.hereS ?_ ?_ ?_) <;> rfl) | exact .here | apply Del.there)) Try.sizeOf34 rfl rfl ⟨(by rw [hD]; rfl), rfl⟩ (fun _ h => h.fin (.fold (M := [blk rj 48 [.slice ea n ec, .slice sa n sc, .slice ta2 sent2.length tc2, .int .i64 (D.at_ + 1 : Nat), .int .i64 D.r, .int .i64 D.ra], sown 69 1 (.slice ea n ec) n (hdrs ls2), sown 23 1 (.slice sa n sc) n (sesV ls2), factsM ta2 tc2 sent2, ownR ls2]) (rjud_fold (by rw [hD]) (by rw [hD]) hln (by rw [hD]) (by rw [hD]) (by rw [hD])) (by repeat ((conv => arg 1; whnf); (conv => arg 2; whnf); first | with_reducible exact .done | exact Fin.all _ | refine .cons (by repeat ((conv => arg 2; whnf); first | with_reducible exact .here | ((with_reducible refine Del.hereC ?_); rfl) | ((with_reducible refine Del.hereS ?_ ?_ ?_) <;> rfl) | exact .here | apply Del.there)) ?_ | refine .drop ?_))))
  · skip
    refine gc_skip ?_
    refine gc_seq ?_
    refine gc_region ?_
    refine g_ev (e_mv) ?_
    refine g_ev (e_mv) ?_
    refine g_ev (e_nc rfl) ?_
    refine g_ev (e_fa Try.underlying48 rfl rfl Try.sizeOf3) ?_
    refine g_ev (e_ld Try.underlying3 rfl (by repeat ((conv => arg 2; whnf); first | with_reducible exact .here | ((with_reducible refine Del.hereC ?_); rfl) | ((with_reducible refine Del.hereS ?_ ?_ ?_) <;> rfl) | exact .here | apply Del.there)) rfl) ?_
    refine g_ev ((e_addw rfl rfl).to (v' := .int .i64 ((D.at_ + 1 : Nat) : Int)) (congrArg _ (wrapN (by omega) (by omega)))) ?_
    refine g_ev (e_nc rfl) ?_
    refine g_ev (e_fa Try.underlying48 rfl rfl Try.sizeOf3) ?_
    refine g_eff (s_st Try.sizeOf3 rfl (by repeat ((conv => arg 3; whnf); first | with_reducible exact .here | apply Turn.there))) ?_
    rintro _ _ ⟨rfl, rfl⟩
    refine g_nil ?_
    refine gc_seq ?_
    refine gc_region ?_
    refine g_ev (e_mv) ?_
    refine g_ev (e_nc rfl) ?_
    refine g_ev (e_fa Try.underlying48 rfl rfl Try.sizeOf34) ?_
    refine g_ev (e_ldA Try.underlying34 rfl (by repeat ((conv => arg 2; whnf); first | with_reducible exact .here | ((with_reducible refine Del.hereC ?_); rfl) | ((with_reducible refine Del.hereS ?_ ?_ ?_) <;> rfl) | exact .here | apply Del.there)) Try.sizeOf34 (by first | exact Nat.le_of_ble_eq_true rfl | simp)) ?_
    refine g_eff (s_stA Try.sizeOf34 rfl rfl (by repeat ((conv => arg 3; whnf); first | with_reducible exact .here | apply Turn.there))) ?_
    rintro _ _ ⟨rfl, rfl⟩
    refine g_nil ?_
    refine gc_ret ?_
    have hD : D.see f = ⟨D.ls, D.sent, D.at_ + 1, D.r, D.ra⟩ := by unfold RD.see; rw [if_neg (show ¬ D.r = 0 from c11)]
    exact retc (L1 := [rjud rj n (D.see f), A]) rfl (by (conv => lhs; whnf)) Try.underlying34 (by repeat ((conv => arg 2; whnf); first | with_reducible exact .here | ((with_reducible refine Del.hereC ?_); rfl) | ((with_reducible refine Del.hereS ?_ ?_ ?_) <;> rfl) | exact .here | apply Del.there)) Try.sizeOf34 rfl rfl ⟨(by rw [hD]; rfl), rfl⟩ (fun _ h => h.fin (.fold (M := [blk rj 48 [.slice ea n ec, .slice sa n sc, .slice ta sent.length tc, .int .i64 (D.at_ + 1 : Nat), .int .i64 D.r, .int .i64 D.ra], sown 69 1 (.slice ea n ec) n (hdrs ls), sown 23 1 (.slice sa n sc) n (sesV ls), factsM ta tc sent, ownR ls]) (rjud_fold (by rw [hD]; exact hls) (by rw [hD]; exact hse) hnl (by rw [hD]) (by rw [hD]) (by rw [hD])) (by repeat ((conv => arg 1; whnf); (conv => arg 2; whnf); first | with_reducible exact .done | exact Fin.all _ | refine .cons (by repeat ((conv => arg 2; whnf); first | with_reducible exact .here | ((with_reducible refine Del.hereC ?_); rfl) | ((with_reducible refine Del.hereS ?_ ?_ ?_) <;> rfl) | exact .here | apply Del.there)) ?_ | refine .drop ?_))))


theorem info69 : Try.prog.info? 69 = some Try.t69 := by kernel_rfl
theorem info23 : Try.prog.info? 23 = some Try.t23 := by kernel_rfl
def REnd.new (w : Int) : REnd := ⟨w, false, 0, 0, false, [], 0, 0, 0, false, false⟩
def rnewD (hs ds : List Int) : List RLine := (hs.zip ds).map fun p => ⟨0, REnd.new p.1, REnd.new p.2, 0⟩
theorem rnewD_take {hs ds : List Int} {i : Nat} {x y : Int} (hx : hs[i]? = some x) (hy : ds[i]? = some y) : (rnewD hs ds).take (i + 1) = (rnewD hs ds).take i ++ [⟨0, REnd.new x, REnd.new y, 0⟩] := by
  rw [List.take_add_one]
  congr 1
  unfold rnewD
  rw [List.getElem?_map, (List.getElem?_zip_eq_some (z := (x, y))).2 ⟨hx, hy⟩]
  rfl
theorem rnewD_len (hs ds : List Int) : (rnewD hs ds).length = min hs.length ds.length := by simp [rnewD]
theorem ownR_snoc {B w : World} {ls : List RLine} {l : RLine} {F : List HProp} (h : Sat B w (ownR ls :: l.part :: F)) : Sat B w (ownR (ls ++ [l]) :: F) := by
  refine Sat.pack ?_
  have h1 := h.unpack
  rw [List.map_append, List.append_assoc]
  exact h1
theorem ownR_nil (f) (h : sepL [] f) : ownR [] f := h
theorem factsM_nil (f) (h : sepL [] f) : factsM none 0 [] f := ⟨fun _ => none, f, nil_fold _ (fun _ => rfl), one_sepL (A := ownD []) h, fun _ => .inl rfl, fun _ => by simp⟩

set_option maxHeartbeats 1000000 in
theorem rnew_t {A : HProp} {ah ad : Option Addr} {hs ds : List Int} {ch cd : Nat} {mx : Int} (hrd : ∀ B w, Sat B w [A] → RdsW w ah hs ∧ RdsW w ad ds) (hl : hs.length ≤ 1000) : Tri Try.prog 10 #[.agg ⟨[.slice ah hs.length ch, .slice ad ds.length cd, .int .u32 mx]⟩] [A] (fun v L => ∃ rj, v = .pointer (some ⟨rj, 0, none⟩) ∧ L = [rjud rj (rnewD hs ds).length ⟨rnewD hs ds, [], 0, 0, 0⟩, A]) := by
  refine tri_of Try.call10 Try.func10 rfl fun B F => ?_
  refine gc_seq ?_
  refine gc_region ?_
  refine g_eff (s_bx) ?_
  rintro _ _ ⟨b1, rfl, rfl⟩
  refine g_ev (e_as) ?_
  refine g_nil ?_
  refine gc_seq ?_
  refine gc_region ?_
  refine g_ev ((e_bd Try.underlying48 Try.zeroValue48 pl848 rfl).to (v' := .agg ⟨[.slice none 0 0, .slice none 0 0, .slice none 0 0, .int .i64 0, .int .i64 0, .int .i64 0]⟩) rfl) ?_
  refine g_eff (s_bx) ?_
  rintro _ _ ⟨b6, rfl, rfl⟩
  refine g_ev (e_as) ?_
  refine g_nil ?_
  refine gc_seq ?_
  refine gc_seq ?_
  refine gc_region ?_
  refine g_ev (e_as) ?_
  refine g_nil ?_
  refine gc_block ?_
  refine gc_loop (α := List RLine × Option Addr × Nat × Option Addr × Nat × Nat) (fun x E L => (x.1.map RLine.abs = (rnewD hs ds).take x.2.2.2.2.2) ∧ (x.2.2.2.2.2 ≤ (rnewD hs ds).length) ∧ (x.1.length = x.2.2.2.2.2) ∧ E 1 = .pointer (some ⟨b1, 0, none⟩) ∧ E 3 = .pointer (some ⟨b6, 0, none⟩) ∧ E 4 = .int .i64 (x.2.2.2.2.2 : Int) ∧ ∀ w, Sat B w L → Sat B w (blk b1 25 [.slice ah hs.length ch, .slice ad ds.length cd, .int .u32 mx] :: blk b6 48 [.slice x.2.1 x.2.2.2.2.2 x.2.2.1, .slice x.2.2.2.1 x.2.2.2.2.2 x.2.2.2.2.1, .slice none 0 0, .int .i64 0, .int .i64 0, .int .i64 0] :: sown 69 1 (.slice x.2.1 x.2.2.2.2.2 x.2.2.1) x.2.2.2.2.2 (hdrs x.1) :: sown 23 1 (.slice x.2.2.2.1 x.2.2.2.2.2 x.2.2.2.2.1) x.2.2.2.2.2 (sesV x.1) :: ownR x.1 :: A :: F)) (fun x => (rnewD hs ds).length - x.2.2.2.2.2) (([], none, 0, none, 0, 0)) ?_ ?_
  · exact ⟨rfl, Nat.zero_le _, rfl, (by (conv => lhs; whnf); try rfl), (by (conv => lhs; whnf); try rfl), (by (conv => lhs; whnf); try rfl), (fun _ h => h.fin (L1 := [blk b1 25 [.slice ah hs.length ch, .slice ad ds.length cd, .int .u32 mx], blk b6 48 [.slice none 0 0, .slice none 0 0, .slice none 0 0, .int .i64 0, .int .i64 0, .int .i64 0], sown 69 1 (.slice none 0 0) 0 [], sown 23 1 (.slice none 0 0) 0 [], ownR ([] : List RLine), A]) (F := F) (.cons (by repeat ((conv => arg 2; whnf); first | with_reducible exact .here | ((with_reducible refine Del.hereC ?_); rfl) | ((with_reducible refine Del.hereS ?_ ?_ ?_) <;> rfl) | exact .here | apply Del.there)) (.cons (by repeat ((conv => arg 2; whnf); first | with_reducible exact .here | ((with_reducible refine Del.hereC ?_); rfl) | ((with_reducible refine Del.hereS ?_ ?_ ?_) <;> rfl) | exact .here | apply Del.there)) (.fold nil_fold (.fold nil_fold (.fold (M := []) ownR_nil (by repeat ((conv => arg 1; whnf); (conv => arg 2; whnf); first | with_reducible exact .done | exact Fin.all _ | refine .cons (by repeat ((conv => arg 2; whnf); first | with_reducible exact .here | ((with_reducible refine Del.hereC ?_); rfl) | ((with_reducible refine Del.hereS ?_ ?_ ?_) <;> rfl) | exact .here | apply Del.there)) ?_ | refine .drop ?_))))))))⟩
  · rintro ⟨ls, ea, ec, sa, sc, n⟩ E L ⟨hls, hle, hn, s1, s3, s4, hL⟩
    dsimp only at hls hle hn s1 s3 s4 hL
    refine gc_imp hL ?_
    refine gc_slot 1 _ ?_ s1
    refine gc_slot 3 _ ?_ s3
    refine gc_slot 4 _ ?_ s4
    clear hL s1 s3 s4
    have hll := rnewD_len hs ds
    refine gc_seq ?_
    refine gc_seq ?_
    refine gc_region ?_
    refine g_ev (e_mv) ?_
    refine g_ev (e_fa Try.underlying25 rfl rfl Try.sizeOf22) ?_
    refine g_ev (e_ld Try.underlying22 rfl (by repeat ((conv => arg 2; whnf); first | with_reducible exact .here | ((with_reducible refine Del.hereC ?_); rfl) | ((with_reducible refine Del.hereS ?_ ?_ ?_) <;> rfl) | exact .here | apply Del.there)) rfl) ?_
    refine g_ev (e_len Try.underlying22 rfl) ?_
    refine g_ev (e_lt rfl rfl) ?_
    refine g_ev (e_mv) ?_
    first | refine g_dec 12 rfl (fun c12 => ?_) (fun c12 => ?_) | refine g_ndec 12 rfl (fun c12 => ?_) (fun c12 => ?_) | refine g_bool 12 rfl (fun c12 => ?_) (fun c12 => ?_)
    · skip
      refine g_ev (e_mv) ?_
      refine g_ev (e_fa Try.underlying25 rfl rfl Try.sizeOf22) ?_
      refine g_ev (e_ld Try.underlying22 rfl (by repeat ((conv => arg 2; whnf); first | with_reducible exact .here | ((with_reducible refine Del.hereC ?_); rfl) | ((with_reducible refine Del.hereS ?_ ?_ ?_) <;> rfl) | exact .here | apply Del.there)) rfl) ?_
      refine g_ev (e_len Try.underlying22 rfl) ?_
      refine g_ev (e_lt rfl rfl) ?_
      refine g_ev (e_pk rfl) ?_
      refine g_nil ?_
      first | refine gc_dec rfl (fun c18 => ?_) (fun c18 => ?_) | refine gc_ndec rfl (fun c18 => ?_) (fun c18 => ?_) | refine gc_cond rfl (fun c18 => ?_) (fun c18 => ?_)
      · skip
        refine gc_skip ?_
        refine gc_seq ?_
        refine gc_block ?_
        refine gc_seq ?_
        obtain ⟨hx, ehx⟩ : ∃ hx, hs[n]? = some hx := ⟨_, List.getElem?_eq_getElem (by omega)⟩
        obtain ⟨dx, edx⟩ : ∃ dx, ds[n]? = some dx := ⟨_, List.getElem?_eq_getElem (by omega)⟩
        refine gc_fact (φ := (∃ p, ah = some p) ∧ (∃ p, ad = some p)) (fun w h => rdsW_some (hrd _ w ((h.fin (L1 := [A]) (F := F) (by repeat ((conv => arg 1; whnf); (conv => arg 2; whnf); first | with_reducible exact .done | exact Fin.all _ | refine .cons (by repeat ((conv => arg 2; whnf); first | with_reducible exact .here | ((with_reducible refine Del.hereC ?_); rfl) | ((with_reducible refine Del.hereS ?_ ?_ ?_) <;> rfl) | exact .here | apply Del.there)) ?_ | refine .drop ?_))).left (L1 := [A]))) ehx edx) fun ⟨⟨ph, e1⟩, ⟨pd, e2⟩⟩ => ?_
        subst e1; subst e2
        refine gc_draw (D := [sown 69 1 (.slice ea n ec) n (hdrs ls)]) (fin := some 24) (plan := [(true, 0), (true, 1), (true, 2), (true, 3), (true, 4), (true, 5), (true, 6), (true, 7), (true, 8), (true, 9), (true, 10), (true, 11), (true, 12), (true, 13), (true, 14), (true, 15), (true, 16), (true, 17), (true, 18), (false, 19), (false, 20), (false, 21), (true, 22), (true, 23), (false, 24)]) rfl (by kernel_rfl) (by kernel_rfl) rfl (.cons (by repeat ((conv => arg 2; whnf); first | with_reducible exact .here | ((with_reducible refine Del.hereC ?_); rfl) | ((with_reducible refine Del.hereS ?_ ?_ ?_) <;> rfl) | exact .here | apply Del.there)) .nil) ?_
        refine gp_ev rfl (e_mv) ?_
        refine gp_ev rfl (e_mv) ?_
        refine gp_ev rfl (e_nc rfl) ?_
        refine gp_ev rfl (e_fa Try.underlying48 rfl rfl Try.sizeOf45) ?_
        refine gp_ev rfl (e_ld Try.underlying45 rfl (by repeat ((conv => arg 2; whnf); first | with_reducible exact .here | ((with_reducible refine Del.hereC ?_); rfl) | ((with_reducible refine Del.hereS ?_ ?_ ?_) <;> rfl) | exact .here | apply Del.there)) rfl) ?_
        refine gp_ev rfl (e_fa Try.underlying25 rfl rfl Try.sizeOf22) ?_
        refine gp_ev rfl (e_ld Try.underlying22 rfl (by repeat ((conv => arg 2; whnf); first | with_reducible exact .here | ((with_reducible refine Del.hereC ?_); rfl) | ((with_reducible refine Del.hereS ?_ ?_ ?_) <;> rfl) | exact .here | apply Del.there)) rfl) ?_
        refine gp_ev rfl (e_mv) ?_
        refine gp_ev rfl (e_iaA (q := n) Try.underlying22 Try.sizeOf66 rfl rfl rfl (by omega)) ?_
        refine gp_ev rfl (e_faA Try.underlying66 rfl rfl Try.sizeOf3) ?_
        refine gp_ev rfl (e_ldc (v := .int .i64 hx) Try.underlying3 rfl (fun B w h => (hrd B w ((h.fin (L1 := [A]) (F := F) (by repeat ((conv => arg 1; whnf); (conv => arg 2; whnf); first | with_reducible exact .done | exact Fin.all _ | refine .cons (by repeat ((conv => arg 2; whnf); first | with_reducible exact .here | ((with_reducible refine Del.hereC ?_); rfl) | ((with_reducible refine Del.hereS ?_ ?_ ?_) <;> rfl) | exact .here | apply Del.there)) ?_ | refine .drop ?_))).left (L1 := [A]))).1.2 ph rfl _ _ ehx)) ?_
        refine gp_ev rfl ((e_bd Try.underlying68 Try.zeroValue68 pl868 rfl).to (v' := .agg ⟨[.int .i64 hx, .bool false, .int .u32 0, .int .u32 0, .bool false, .string ⟨([] : List UInt8).toArray⟩, .int .u32 0, .int .i64 0, .int .i64 0, .bool false, .bool false]⟩) rfl) ?_
        refine gp_ev rfl (e_fa Try.underlying25 rfl rfl Try.sizeOf22) ?_
        refine gp_ev rfl (e_ld Try.underlying22 rfl (by repeat ((conv => arg 2; whnf); first | with_reducible exact .here | ((with_reducible refine Del.hereC ?_); rfl) | ((with_reducible refine Del.hereS ?_ ?_ ?_) <;> rfl) | exact .here | apply Del.there)) rfl) ?_
        refine gp_ev rfl (e_mv) ?_
        refine gp_ev rfl (e_iaA (q := n) Try.underlying22 Try.sizeOf66 rfl rfl rfl (by omega)) ?_
        refine gp_ev rfl (e_faA Try.underlying66 rfl rfl Try.sizeOf3) ?_
        refine gp_ev rfl (e_ldc (v := .int .i64 dx) Try.underlying3 rfl (fun B w h => (hrd B w ((h.fin (L1 := [A]) (F := F) (by repeat ((conv => arg 1; whnf); (conv => arg 2; whnf); first | with_reducible exact .done | exact Fin.all _ | refine .cons (by repeat ((conv => arg 2; whnf); first | with_reducible exact .here | ((with_reducible refine Del.hereC ?_); rfl) | ((with_reducible refine Del.hereS ?_ ?_ ?_) <;> rfl) | exact .here | apply Del.there)) ?_ | refine .drop ?_))).left (L1 := [A]))).2.2 pd rfl _ _ edx)) ?_
        refine gp_ev rfl ((e_bd Try.underlying68 Try.zeroValue68 pl868 rfl).to (v' := .agg ⟨[.int .i64 dx, .bool false, .int .u32 0, .int .u32 0, .bool false, .string ⟨([] : List UInt8).toArray⟩, .int .u32 0, .int .i64 0, .int .i64 0, .bool false, .bool false]⟩) rfl) ?_
        refine gp_eff rfl (s_bss (uss := [[.int .i64 hx, .bool false, .int .u32 0, .int .u32 0, .bool false, .string ⟨([] : List UInt8).toArray⟩, .int .u32 0, .int .i64 0, .int .i64 0, .bool false, .bool false], [.int .i64 dx, .bool false, .int .u32 0, .int .u32 0, .bool false, .string ⟨([] : List UInt8).toArray⟩, .int .u32 0, .int .i64 0, .int .i64 0, .bool false, .bool false]]) Try.underlying69 Try.sizeOf68 Try.zeroValue68 rfl rfl (by simp)) ?_
        rintro _ _ ⟨b40, rfl, rfl⟩
        refine gp_eff rfl (s_bs (cs := [.slice (some ⟨b40, 0, none⟩) 2 2]) Try.underlying45 Try.sizeOf69 Try.zeroValue69 rfl) ?_
        rintro _ _ ⟨b41, rfl, rfl⟩
        refine gp_eff rfl (s_ap (bytes := 24) (k := 1) Try.underlying45 info69 rfl rfl rfl rfl (by decide) rfl rfl (by repeat ((conv => arg 2; whnf); first | with_reducible exact .here | ((with_reducible refine Del.hereC ?_); rfl) | ((with_reducible refine Del.hereS ?_ ?_ ?_) <;> rfl) | exact .here | apply Del.there)) (fun B w h => h.rdsk0 (by repeat ((conv => arg 2; whnf); first | with_reducible exact .here | ((with_reducible refine Del.hereC ?_); rfl) | ((with_reducible refine Del.hereS ?_ ?_ ?_) <;> rfl) | exact .here | apply Del.there)) rfl) (by simp [Value.oneCell']) (by omega) (by unfold maxLen; omega)) ?_
        rintro _ _ ⟨ea2, ec2, rfl, rfl, hn2⟩
        refine gp_ev rfl (e_nc rfl) ?_
        refine gp_ev rfl (e_fa Try.underlying48 rfl rfl Try.sizeOf45) ?_
        refine gp_fin rfl (s_st Try.sizeOf45 rfl (by repeat ((conv => arg 3; whnf); first | with_reducible exact .here | apply Turn.there))) ?_
        rintro _ _ ⟨rfl, rfl⟩
        refine gp_nil0 ?_
        refine gc_region ?_
        refine g_ev (e_mv) ?_
        refine g_ev (e_mv) ?_
        refine g_ev (e_nc rfl) ?_
        refine g_ev (e_fa Try.underlying48 rfl rfl Try.sizeOf46) ?_
        refine g_ev (e_ld Try.underlying46 rfl (by repeat ((conv => arg 2; whnf); first | with_reducible exact .here | ((with_reducible refine Del.hereC ?_); rfl) | ((with_reducible refine Del.hereS ?_ ?_ ?_) <;> rfl) | exact .here | apply Del.there)) rfl) ?_
        refine g_eff (s_bs (cs := [.int .u32 0]) Try.underlying46 Try.sizeOf23 Try.zeroValue23 rfl) ?_
        rintro _ _ ⟨b50, rfl, rfl⟩
        refine g_eff (s_ap (bytes := 4) (k := 1) Try.underlying46 info23 rfl rfl rfl rfl (by decide) rfl rfl (by repeat ((conv => arg 2; whnf); first | with_reducible exact .here | ((with_reducible refine Del.hereC ?_); rfl) | ((with_reducible refine Del.hereS ?_ ?_ ?_) <;> rfl) | exact .here | apply Del.there)) (fun B w h => h.rdsk0 (by repeat ((conv => arg 2; whnf); first | with_reducible exact .here | ((with_reducible refine Del.hereC ?_); rfl) | ((with_reducible refine Del.hereS ?_ ?_ ?_) <;> rfl) | exact .here | apply Del.there)) rfl) (by simp [Value.oneCell']) (by omega) (by unfold maxLen; omega)) ?_
        rintro _ _ ⟨sa2, sc2, rfl, rfl, hn3⟩
        refine g_ev (e_nc rfl) ?_
        refine g_ev (e_fa Try.underlying48 rfl rfl Try.sizeOf46) ?_
        refine g_eff (s_st Try.sizeOf46 rfl (by repeat ((conv => arg 3; whnf); first | with_reducible exact .here | apply Turn.there))) ?_
        rintro _ _ ⟨rfl, rfl⟩
        refine g_nil ?_
        refine gc_region ?_
        refine g_ev (e_mv) ?_
        refine g_ev ((e_addw rfl rfl).to (v' := .int .i64 ((n + 1 : Nat) : Int)) (congrArg _ (wrapN (by omega) (by omega)))) ?_
        refine g_ev (e_as) ?_
        refine g_nil ?_
        have hd1 : hdrs (ls ++ [(⟨b40, REnd.new hx, REnd.new dx, 0⟩ : RLine)]) = hdrs ls ++ [.slice (some ⟨b40, 0, none⟩) 2 2] := by simp [hdrs]
        have hd2 : sesV (ls ++ [(⟨b40, REnd.new hx, REnd.new dx, 0⟩ : RLine)]) = sesV ls ++ [.int .u32 0] := by simp [sesV, sess]
        refine Exists.intro ((ls ++ [(⟨b40, REnd.new hx, REnd.new dx, 0⟩ : RLine)], ea2, ec2, sa2, sc2, n + 1)) (And.intro ⟨(by show (ls ++ [(⟨b40, REnd.new hx, REnd.new dx, 0⟩ : RLine)]).map RLine.abs = _; rw [List.map_append, hls, rnewD_take ehx edx]; rfl), (by show n + 1 ≤ _; omega), (by show (ls ++ [_]).length = n + 1; rw [List.length_append, hn]; rfl), (by (conv => lhs; whnf); try rfl), (by (conv => lhs; whnf); try rfl), (by (conv => lhs; whnf); try rfl), (fun w h => by
          have h1 := ownR_snoc (l := (⟨b40, REnd.new hx, REnd.new dx, 0⟩ : RLine)) (h.fin (L1 := [ownR ls, (⟨b40, REnd.new hx, REnd.new dx, 0⟩ : RLine).part, blk b1 25 [.slice (some ph) hs.length ch, .slice (some pd) ds.length cd, .int .u32 mx], blk b6 48 [.slice ea2 (n + 1) ec2, .slice sa2 (n + 1) sc2, .slice none 0 0, .int .i64 0, .int .i64 0, .int .i64 0], sown 69 1 (.slice ea2 (n + 1) ec2) (n + 1) (hdrs ls ++ [.slice (some ⟨b40, 0, none⟩) 2 2]), sown 23 1 (.slice sa2 (n + 1) sc2) (n + 1) (sesV ls ++ [.int .u32 0]), A]) (F := F) (by repeat ((conv => arg 1; whnf); (conv => arg 2; whnf); first | with_reducible exact .done | exact Fin.all _ | refine .cons (by repeat ((conv => arg 2; whnf); first | with_reducible exact .here | ((with_reducible refine Del.hereC ?_); rfl) | ((with_reducible refine Del.hereS ?_ ?_ ?_) <;> rfl) | exact .here | apply Del.there)) ?_ | refine .drop ?_)))
          show Sat B w (blk b1 25 [.slice (some ph) hs.length ch, .slice (some pd) ds.length cd, .int .u32 mx] :: blk b6 48 [.slice ea2 (n + 1) ec2, .slice sa2 (n + 1) sc2, .slice none 0 0, .int .i64 0, .int .i64 0, .int .i64 0] :: sown 69 1 (.slice ea2 (n + 1) ec2) (n + 1) (hdrs (ls ++ [(⟨b40, REnd.new hx, REnd.new dx, 0⟩ : RLine)])) :: sown 23 1 (.slice sa2 (n + 1) sc2) (n + 1) (sesV (ls ++ [(⟨b40, REnd.new hx, REnd.new dx, 0⟩ : RLine)])) :: ownR (ls ++ [(⟨b40, REnd.new hx, REnd.new dx, 0⟩ : RLine)]) :: A :: F)
          rw [hd1, hd2]
          exact h1.fin (L1 := [blk b1 25 [.slice (some ph) hs.length ch, .slice (some pd) ds.length cd, .int .u32 mx], blk b6 48 [.slice ea2 (n + 1) ec2, .slice sa2 (n + 1) sc2, .slice none 0 0, .int .i64 0, .int .i64 0, .int .i64 0], sown 69 1 (.slice ea2 (n + 1) ec2) (n + 1) (hdrs ls ++ [.slice (some ⟨b40, 0, none⟩) 2 2]), sown 23 1 (.slice sa2 (n + 1) sc2) (n + 1) (sesV ls ++ [.int .u32 0]), ownR (ls ++ [(⟨b40, REnd.new hx, REnd.new dx, 0⟩ : RLine)]), A]) (F := F) (by repeat ((conv => arg 1; whnf); (conv => arg 2; whnf); first | with_reducible exact .done | exact Fin.all _ | refine .cons (by repeat ((conv => arg 2; whnf); first | with_reducible exact .here | ((with_reducible refine Del.hereC ?_); rfl) | ((with_reducible refine Del.hereS ?_ ?_ ?_) <;> rfl) | exact .here | apply Del.there)) ?_ | refine .drop ?_)))⟩ (by show _ - (n + 1) < _ - n; omega))
      · skip
        refine gc_exit ?_
        refine gc_seq ?_
        refine gc_region ?_
        refine g_ev (e_mv) ?_
        refine g_ev (e_as) ?_
        refine g_nil ?_
        refine gc_ret ?_
        have hfin : ls.map RLine.abs = rnewD hs ds := by rw [hls, List.take_of_length_le (by omega)]
        have hnn : n = (rnewD hs ds).length := by omega
        subst hnn
        exact ret1 (v := .pointer (some ⟨b6, 0, none⟩)) (L1 := [rjud b6 (rnewD hs ds).length ⟨rnewD hs ds, [], 0, 0, 0⟩, A]) rfl (by (conv => lhs; whnf); try rfl) ⟨b6, rfl, rfl⟩ (fun _ h => h.fin (.fold (M := [blk b6 48 [.slice ea (rnewD hs ds).length ec, .slice sa (rnewD hs ds).length sc, .slice none 0 0, .int .i64 (0 : Nat), .int .i64 0, .int .i64 0], sown 69 1 (.slice ea (rnewD hs ds).length ec) (rnewD hs ds).length (hdrs ls), sown 23 1 (.slice sa (rnewD hs ds).length sc) (rnewD hs ds).length (sesV ls), factsM none 0 [], ownR ls]) (rjud_fold (sent := []) hfin rfl hn rfl rfl rfl) (.cons (by repeat ((conv => arg 2; whnf); first | with_reducible exact .here | ((with_reducible refine Del.hereC ?_); rfl) | ((with_reducible refine Del.hereS ?_ ?_ ?_) <;> rfl) | exact .here | apply Del.there)) (.cons (by repeat ((conv => arg 2; whnf); first | with_reducible exact .here | ((with_reducible refine Del.hereC ?_); rfl) | ((with_reducible refine Del.hereS ?_ ?_ ?_) <;> rfl) | exact .here | apply Del.there)) (.cons (by repeat ((conv => arg 2; whnf); first | with_reducible exact .here | ((with_reducible refine Del.hereC ?_); rfl) | ((with_reducible refine Del.hereS ?_ ?_ ?_) <;> rfl) | exact .here | apply Del.there)) (.fold (M := []) factsM_nil (by repeat ((conv => arg 1; whnf); (conv => arg 2; whnf); first | with_reducible exact .done | exact Fin.all _ | refine .cons (by repeat ((conv => arg 2; whnf); first | with_reducible exact .here | ((with_reducible refine Del.hereC ?_); rfl) | ((with_reducible refine Del.hereS ?_ ?_ ?_) <;> rfl) | exact .here | apply Del.there)) ?_ | refine .drop ?_))))))))
    · skip
      refine g_not ?_
      refine g_not ?_
      refine g_not ?_
      refine g_not ?_
      refine g_not ?_
      refine g_ev (e_pk rfl) ?_
      refine g_nil ?_
      refine gc_false ?_
      refine gc_exit ?_
      refine gc_seq ?_
      refine gc_region ?_
      refine g_ev (e_mv) ?_
      refine g_ev (e_as) ?_
      refine g_nil ?_
      refine gc_ret ?_
      have hfin : ls.map RLine.abs = rnewD hs ds := by rw [hls, List.take_of_length_le (by omega)]
      have hnn : n = (rnewD hs ds).length := by omega
      subst hnn
      exact ret1 (v := .pointer (some ⟨b6, 0, none⟩)) (L1 := [rjud b6 (rnewD hs ds).length ⟨rnewD hs ds, [], 0, 0, 0⟩, A]) rfl (by (conv => lhs; whnf); try rfl) ⟨b6, rfl, rfl⟩ (fun _ h => h.fin (.fold (M := [blk b6 48 [.slice ea (rnewD hs ds).length ec, .slice sa (rnewD hs ds).length sc, .slice none 0 0, .int .i64 (0 : Nat), .int .i64 0, .int .i64 0], sown 69 1 (.slice ea (rnewD hs ds).length ec) (rnewD hs ds).length (hdrs ls), sown 23 1 (.slice sa (rnewD hs ds).length sc) (rnewD hs ds).length (sesV ls), factsM none 0 [], ownR ls]) (rjud_fold (sent := []) hfin rfl hn rfl rfl rfl) (.cons (by repeat ((conv => arg 2; whnf); first | with_reducible exact .here | ((with_reducible refine Del.hereC ?_); rfl) | ((with_reducible refine Del.hereS ?_ ?_ ?_) <;> rfl) | exact .here | apply Del.there)) (.cons (by repeat ((conv => arg 2; whnf); first | with_reducible exact .here | ((with_reducible refine Del.hereC ?_); rfl) | ((with_reducible refine Del.hereS ?_ ?_ ?_) <;> rfl) | exact .here | apply Del.there)) (.cons (by repeat ((conv => arg 2; whnf); first | with_reducible exact .here | ((with_reducible refine Del.hereC ?_); rfl) | ((with_reducible refine Del.hereS ?_ ?_ ?_) <;> rfl) | exact .here | apply Del.there)) (.fold (M := []) factsM_nil (by repeat ((conv => arg 1; whnf); (conv => arg 2; whnf); first | with_reducible exact .done | exact Fin.all _ | refine .cons (by repeat ((conv => arg 2; whnf); first | with_reducible exact .here | ((with_reducible refine Del.hereC ?_); rfl) | ((with_reducible refine Del.hereS ?_ ?_ ?_) <;> rfl) | exact .here | apply Del.there)) ?_ | refine .drop ?_))))))))

end Go.Proofs.Ythjimddhnlmlhaa
