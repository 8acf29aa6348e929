/- The walks of what the document keeps as sent; no conditions. -/
import Derived.Test.YthjimddhnlmlhaaRefOut
namespace Go.Proofs.Ythjimddhnlmlhaa
open Go.Vc

def sameUnit (f s : FactS) : Prop := s.conn = f.conn ∧ s.side ≠ f.side ∧ s.sess = f.sess ∧ s.num = f.num ∧ s.data = f.data
instance (f s : FactS) : Decidable (sameUnit f s) := by unfold sameUnit; infer_instance
def hasSent (sent : List FactS) (f : FactS) : Bool := sent.any fun s => decide (sameUnit f s)
def keeps (f s : FactS) : Prop := s.conn ≠ f.conn ∨ s.side ≠ 1 ∨ s.sess ≠ f.sess
instance (f s : FactS) : Decidable (keeps f s) := by unfold keeps; infer_instance
abbrev kept (f : FactS) (x : FactV) : Bool := decide (keeps f x.f)
theorem fcells_snoc (fs : List FactV) (x : FactV) : fcells (fs ++ [x]) = fcells fs ++ x.cells := by simp [fcells]
theorem ownD_sub {B w : World} : ∀ {fs gs : List FactV}, gs.Sublist fs → ∀ {F : List HProp}, Sat B w (ownD fs :: F) → Sat B w (ownD gs :: F) := by
  intro fs gs h
  induction h with
  | slnil => exact fun h => h
  | cons x _ ih =>
    intro F h
    have h1 : Sat B w (x.part :: (_ ++ F)) := h.unpack
    exact ih (Sat.pack h1.tail)
  | cons_cons x hs ih =>
    rename_i l1 l2
    intro F h
    have h1 : Sat B w (x.part :: (l2.map FactV.part ++ F)) := h.unpack
    have h2 : Sat B w (ownD l2 :: (F ++ [x.part])) := Sat.pack (h1.perm (by
      rw [← List.append_assoc]
      exact (List.perm_append_singleton x.part (l2.map FactV.part ++ F)).symm))
    have h3 := (ih h2).unpack
    refine Sat.pack (M := (x :: l1).map FactV.part) (h3.perm ?_)
    show (l1.map FactV.part ++ (F ++ [x.part])).Perm (x.part :: (l1.map FactV.part ++ F))
    rw [← List.append_assoc]
    exact List.perm_append_singleton x.part _


theorem begin_shut {B w : World} {ta ka : Option Addr} {tc kc bs cap k q m : Nat} {fs gs : List FactV} {ints rest : List Value} {v : Value} {R A : HProp} {F : List HProp} (hsub : gs.Sublist fs) (hl : ints.length = m * 1) (hle : m ≤ cap) (hmax : cap ≤ maxLen) (hrest : ints.length + rest.length = cap * 1) (hk : k < ints.length) (hq : q = gs.length)
    (h : Sat B w (factsM ta tc fs :: R :: sown 43 8 (.slice ka q kc) q (fcells gs) :: blk bs 23 ((ints ++ rest).set k v) :: A :: F)) :
    Sat B w (R :: factsM ka kc gs :: sown 23 1 (.slice (some ⟨bs, 0, none⟩) m cap) m (ints.set k v) :: A :: F) := by
  subst hq
  rw [List.set_append_left _ _ hk] at h
  have h2 := Sat.unpack h
  have h3 := ownD_sub hsub h2.tail
  have h4 := h3.fin (L1 := [sown 43 8 (.slice ka gs.length kc) gs.length (fcells gs), ownD gs, R, sown 23 1 (.slice (some ⟨bs, 0, none⟩) m cap) m (ints.set k v), A]) (F := F)
    (.cons (.there (.there .here)) (.cons .here (.cons .here (.fold (M := [blk bs 23 (ints.set k v ++ rest)]) (own_fold rfl (by rw [List.length_set]; exact hl) hle hmax (by rw [List.length_set]; exact hrest)) (.cons .here (.cons .here .done))))))
  have h5 := Sat.pack (M := [sown 43 8 (.slice ka gs.length kc) gs.length (fcells gs), ownD gs]) h4
  exact h5.fin (L1 := [R, factsM ka kc gs, sown 23 1 (.slice (some ⟨bs, 0, none⟩) m cap) m (ints.set k v), A]) (F := F) (.cons (.there .here) (.cons .here (.cons .here (.cons .here .done))))

theorem rsent_t {rj tc : Nat} {ta : Option Addr} {sent : List FactV} {u0 u1 u3 u4 u5 : Value} (f : FactS) {a : Option Addr} {c : Nat} {A : HProp} (hr : ∀ B w, Sat B w [A] → Rds w 1 (.slice a f.data.length c) f.data.length (bv f.data)) (hn : sent.length ≤ 1000000) : Tri Try.prog 25 #[.pointer (some ⟨rj, 0, none⟩), .agg ⟨f.cells (.slice a f.data.length c)⟩] [blk rj 48 [u0, u1, .slice ta sent.length tc, u3, u4, u5], factsM ta tc sent, A] (isR (.bool (hasSent (sent.map fun x : FactV => x.f) f)) [blk rj 48 [u0, u1, .slice ta sent.length tc, u3, u4, u5], factsM ta tc sent, A]) := by
  refine tri_of Try.call25 Try.func25 rfl fun B F => ?_
  refine gc_seq ?_
  refine gc_region ?_
  refine g_eff (s_bx) ?_
  rintro _ _ ⟨b3, rfl, rfl⟩
  refine g_ev (e_as) ?_
  refine g_nil ?_
  refine gc_seq ?_
  refine gc_seq ?_
  refine gc_region ?_
  refine g_ev (e_as) ?_
  refine g_nil ?_
  refine gc_block ?_
  refine gc_loop (α := Nat) (fun i E L => (i ≤ sent.length) ∧ (hasSent ((sent.take i).map fun x : FactV => x.f) f = false) ∧ E 0 = .pointer (some ⟨rj, 0, none⟩) ∧ E 3 = .pointer (some ⟨b3, 0, none⟩) ∧ E 5 = .int .i64 (i : Int) ∧ ∀ w, Sat B w L → Sat B w (blk rj 48 [u0, u1, .slice ta sent.length tc, u3, u4, u5] :: factsM ta tc sent :: blk b3 43 (f.cells (.slice a f.data.length c)) :: A :: F)) (fun i => sent.length - i) 0 ?_ ?_
  · exact ⟨Nat.zero_le _, rfl, (by (conv => lhs; whnf); try rfl), (by (conv => lhs; whnf); try rfl), (by (conv => lhs; whnf); try rfl), (fun _ h => h.fin (L1 := [blk rj 48 [u0, u1, .slice ta sent.length tc, u3, u4, u5], factsM ta tc sent, blk b3 43 (f.cells (.slice a f.data.length c)), A]) (F := F) (by repeat ((conv => arg 1; whnf); (conv => arg 2; whnf); first | with_reducible exact .done | exact Fin.all _ | refine .cons (by repeat ((conv => arg 2; whnf); first | with_reducible exact .here | ((with_reducible refine Del.hereC ?_); rfl) | ((with_reducible refine Del.hereS ?_ ?_ ?_) <;> rfl) | exact .here | apply Del.there)) ?_ | refine .drop ?_)))⟩
  · rintro i E L ⟨hi, ht, s0, s3, s5, hL⟩
    refine gc_imp hL ?_
    refine gc_slot 0 _ ?_ s0
    refine gc_slot 3 _ ?_ s3
    refine gc_slot 5 _ ?_ s5
    clear hL s0 s3 s5
    refine gc_seq ?_
    refine gc_seq ?_
    refine gc_region ?_
    refine g_ev (e_mv) ?_
    refine g_ev (e_mv) ?_
    refine g_ev (e_nc rfl) ?_
    refine g_ev (e_fa Try.underlying48 rfl rfl Try.sizeOf26) ?_
    refine g_ev (e_ld Try.underlying26 rfl (by repeat ((conv => arg 2; whnf); first | with_reducible exact .here | ((with_reducible refine Del.hereC ?_); rfl) | ((with_reducible refine Del.hereS ?_ ?_ ?_) <;> rfl) | exact .here | apply Del.there)) rfl) ?_
    refine g_ev (e_len Try.underlying26 rfl) ?_
    refine g_ev (e_lt rfl rfl) ?_
    refine g_nil ?_
    first | refine gc_dec rfl (fun c13 => ?_) (fun c13 => ?_) | refine gc_ndec rfl (fun c13 => ?_) (fun c13 => ?_) | refine gc_cond rfl (fun c13 => ?_) (fun c13 => ?_)
    · skip
      refine gc_skip ?_
      refine gc_seq ?_
      refine gc_block ?_
      refine gc_seq ?_
      refine gc_region ?_
      obtain ⟨x, hx⟩ : ∃ x, sent[i]? = some x := ⟨_, List.getElem?_eq_getElem (by omega)⟩
      refine g_fact (φ := ∃ p, ta = some p) (fun w h => (by have h0 := (factsM_rd ((h.fin (L1 := [factsM ta tc sent]) (F := F) (by repeat ((conv => arg 1; whnf); (conv => arg 2; whnf); first | with_reducible exact .done | exact Fin.all _ | refine .cons (by repeat ((conv => arg 2; whnf); first | with_reducible exact .here | ((with_reducible refine Del.hereC ?_); rfl) | ((with_reducible refine Del.hereS ?_ ?_ ?_) <;> rfl) | exact .here | apply Del.there)) ?_ | refine .drop ?_))).left (L1 := [factsM ta tc sent]))).1; cases ta with | none => rw [h0 rfl] at hx; cases hx | some p => exact ⟨p, rfl⟩)) fun ⟨p, e1⟩ => ?_
      subst e1
      refine g_ev (e_mv) ?_
      refine g_ev (e_nc rfl) ?_
      refine g_ev (e_fa Try.underlying48 rfl rfl Try.sizeOf26) ?_
      refine g_ev (e_ld Try.underlying26 rfl (by repeat ((conv => arg 2; whnf); first | with_reducible exact .here | ((with_reducible refine Del.hereC ?_); rfl) | ((with_reducible refine Del.hereS ?_ ?_ ?_) <;> rfl) | exact .here | apply Del.there)) rfl) ?_
      refine g_ev (e_mv) ?_
      refine g_ev (e_iaA (q := i) Try.underlying26 Try.sizeOf43 rfl rfl rfl (by omega)) ?_
      refine g_ev (e_ldAc (xs := x.cells) Try.underlying43 rfl Try.sizeOf43 rfl (fun B w h => (factsM_rd ((h.fin (L1 := [factsM (some p) tc sent]) (F := F) (by repeat ((conv => arg 1; whnf); (conv => arg 2; whnf); first | with_reducible exact .done | exact Fin.all _ | refine .cons (by repeat ((conv => arg 2; whnf); first | with_reducible exact .here | ((with_reducible refine Del.hereC ?_); rfl) | ((with_reducible refine Del.hereS ?_ ?_ ?_) <;> rfl) | exact .here | apply Del.there)) ?_ | refine .drop ?_))).left (L1 := [factsM (some p) tc sent]))).2.1 p rfl _ _ hx)) ?_
      refine g_eff (s_al Try.zeroValue43) ?_
      rintro _ _ ⟨b6, rfl, rfl⟩
      refine g_eff (s_stA Try.sizeOf43 rfl rfl (by repeat ((conv => arg 3; whnf); first | with_reducible exact .here | apply Turn.there))) ?_
      rintro _ _ ⟨rfl, rfl⟩
      refine g_nil ?_
      refine gc_seq ?_
      refine gc_cut (fun E L => E 0 = .pointer (some ⟨rj, 0, none⟩) ∧ E 3 = .pointer (some ⟨b3, 0, none⟩) ∧ E 5 = .int .i64 (i : Int) ∧ E 57 = .bool (decide (sameUnit f x.f)) ∧ ∀ w, Sat B w L → Sat B w (blk rj 48 [u0, u1, .slice (some p) sent.length tc, u3, u4, u5] :: factsM (some p) tc sent :: blk b3 43 (f.cells (.slice a f.data.length c)) :: A :: F)) ?_ ?_
      · skip
        refine gc_region ?_
        refine g_ev (e_fa Try.underlying43 rfl rfl Try.sizeOf3) ?_
        refine g_ev (e_ld Try.underlying3 rfl (by repeat ((conv => arg 2; whnf); first | with_reducible exact .here | ((with_reducible refine Del.hereC ?_); rfl) | ((with_reducible refine Del.hereS ?_ ?_ ?_) <;> rfl) | exact .here | apply Del.there)) rfl) ?_
        refine g_ev (e_fa Try.underlying43 rfl rfl Try.sizeOf3) ?_
        refine g_ev (e_ld Try.underlying3 rfl (by repeat ((conv => arg 2; whnf); first | with_reducible exact .here | ((with_reducible refine Del.hereC ?_); rfl) | ((with_reducible refine Del.hereS ?_ ?_ ?_) <;> rfl) | exact .here | apply Del.there)) rfl) ?_
        refine g_ev (e_eq rfl rfl) ?_
        refine g_ev (e_mv) ?_
        first | refine g_dec 28 rfl (fun c28 => ?_) (fun c28 => ?_) | refine g_ndec 28 rfl (fun c28 => ?_) (fun c28 => ?_) | refine g_bool 28 rfl (fun c28 => ?_) (fun c28 => ?_)
        · skip
          refine g_ev (e_fa Try.underlying43 rfl rfl Try.sizeOf39) ?_
          refine g_ev (e_ld Try.underlying39 rfl (by repeat ((conv => arg 2; whnf); first | with_reducible exact .here | ((with_reducible refine Del.hereC ?_); rfl) | ((with_reducible refine Del.hereS ?_ ?_ ?_) <;> rfl) | exact .here | apply Del.there)) rfl) ?_
          refine g_ev (e_fa Try.underlying43 rfl rfl Try.sizeOf39) ?_
          refine g_ev (e_ld Try.underlying39 rfl (by repeat ((conv => arg 2; whnf); first | with_reducible exact .here | ((with_reducible refine Del.hereC ?_); rfl) | ((with_reducible refine Del.hereS ?_ ?_ ?_) <;> rfl) | exact .here | apply Del.there)) rfl) ?_
          refine g_ev (e_ne rfl rfl) ?_
          refine g_ev (e_pk rfl) ?_
          refine g_ev (e_mv) ?_
          first | refine g_dec 35 rfl (fun c35 => ?_) (fun c35 => ?_) | refine g_ndec 35 rfl (fun c35 => ?_) (fun c35 => ?_) | refine g_bool 35 rfl (fun c35 => ?_) (fun c35 => ?_)
          · skip
            refine g_ev (e_fa Try.underlying43 rfl rfl Try.sizeOf23) ?_
            refine g_ev (e_ld Try.underlying23 rfl (by repeat ((conv => arg 2; whnf); first | with_reducible exact .here | ((with_reducible refine Del.hereC ?_); rfl) | ((with_reducible refine Del.hereS ?_ ?_ ?_) <;> rfl) | exact .here | apply Del.there)) rfl) ?_
            refine g_ev (e_fa Try.underlying43 rfl rfl Try.sizeOf23) ?_
            refine g_ev (e_ld Try.underlying23 rfl (by repeat ((conv => arg 2; whnf); first | with_reducible exact .here | ((with_reducible refine Del.hereC ?_); rfl) | ((with_reducible refine Del.hereS ?_ ?_ ?_) <;> rfl) | exact .here | apply Del.there)) rfl) ?_
            refine g_ev (e_eq rfl rfl) ?_
            refine g_ev (e_pk rfl) ?_
            refine g_ev (e_mv) ?_
            first | refine g_dec 42 rfl (fun c42 => ?_) (fun c42 => ?_) | refine g_ndec 42 rfl (fun c42 => ?_) (fun c42 => ?_) | refine g_bool 42 rfl (fun c42 => ?_) (fun c42 => ?_)
            · skip
              refine g_ev (e_fa Try.underlying43 rfl rfl Try.sizeOf23) ?_
              refine g_ev (e_ld Try.underlying23 rfl (by repeat ((conv => arg 2; whnf); first | with_reducible exact .here | ((with_reducible refine Del.hereC ?_); rfl) | ((with_reducible refine Del.hereS ?_ ?_ ?_) <;> rfl) | exact .here | apply Del.there)) rfl) ?_
              refine g_ev (e_fa Try.underlying43 rfl rfl Try.sizeOf23) ?_
              refine g_ev (e_ld Try.underlying23 rfl (by repeat ((conv => arg 2; whnf); first | with_reducible exact .here | ((with_reducible refine Del.hereC ?_); rfl) | ((with_reducible refine Del.hereS ?_ ?_ ?_) <;> rfl) | exact .here | apply Del.there)) rfl) ?_
              refine g_ev (e_eq rfl rfl) ?_
              refine g_ev (e_pk rfl) ?_
              refine g_ev (e_mv) ?_
              first | refine g_dec 49 rfl (fun c49 => ?_) (fun c49 => ?_) | refine g_ndec 49 rfl (fun c49 => ?_) (fun c49 => ?_) | refine g_bool 49 rfl (fun c49 => ?_) (fun c49 => ?_)
              · skip
                refine g_ev (e_fa Try.underlying43 rfl rfl Try.sizeOf41) ?_
                refine g_ev (e_ld Try.underlying41 rfl (by repeat ((conv => arg 2; whnf); first | with_reducible exact .here | ((with_reducible refine Del.hereC ?_); rfl) | ((with_reducible refine Del.hereS ?_ ?_ ?_) <;> rfl) | exact .here | apply Del.there)) rfl) ?_
                refine g_ev (e_b2s (bs := x.f.data) Try.underlying41 Try.underlying5 Try.underlying9 rfl (fun B w h => (factsM_rd ((h.fin (L1 := [factsM (some p) tc sent]) (F := F) (by repeat ((conv => arg 1; whnf); (conv => arg 2; whnf); first | with_reducible exact .done | exact Fin.all _ | refine .cons (by repeat ((conv => arg 2; whnf); first | with_reducible exact .here | ((with_reducible refine Del.hereC ?_); rfl) | ((with_reducible refine Del.hereS ?_ ?_ ?_) <;> rfl) | exact .here | apply Del.there)) ?_ | refine .drop ?_))).left (L1 := [factsM (some p) tc sent]))).2.2 x (List.mem_of_getElem? hx))) ?_
                refine g_ev (e_fa Try.underlying43 rfl rfl Try.sizeOf41) ?_
                refine g_ev (e_ld Try.underlying41 rfl (by repeat ((conv => arg 2; whnf); first | with_reducible exact .here | ((with_reducible refine Del.hereC ?_); rfl) | ((with_reducible refine Del.hereS ?_ ?_ ?_) <;> rfl) | exact .here | apply Del.there)) rfl) ?_
                refine g_ev (e_b2s (bs := f.data) Try.underlying41 Try.underlying5 Try.underlying9 rfl (fun B w h => hr B w ((h.fin (L1 := [A]) (F := F) (by repeat ((conv => arg 1; whnf); (conv => arg 2; whnf); first | with_reducible exact .done | exact Fin.all _ | refine .cons (by repeat ((conv => arg 2; whnf); first | with_reducible exact .here | ((with_reducible refine Del.hereC ?_); rfl) | ((with_reducible refine Del.hereS ?_ ?_ ?_) <;> rfl) | exact .here | apply Del.there)) ?_ | refine .drop ?_))).left (L1 := [A])))) ?_
                refine g_ev (e_eqs rfl rfl) ?_
                refine g_ev (e_pk rfl) ?_
                refine g_nil ?_
                exact ⟨(by (conv => lhs; whnf); try first | rfl | (refine congrArg Value.bool ?_; simp_all) | simp_all), (by (conv => lhs; whnf); try first | rfl | (refine congrArg Value.bool ?_; simp_all) | simp_all), (by (conv => lhs; whnf); try first | rfl | (refine congrArg Value.bool ?_; simp_all) | simp_all), (by (conv => lhs; whnf); refine congrArg Value.bool ?_; rw [Bool.eq_iff_iff, decide_eq_true_iff]; clear hr; unfold sameUnit; first | (simp_all [Int.natCast_inj]; done) | (simp_all; done) | (simp_all; omega) | (simp; omega)), (fun _ h => h.fin (L1 := [blk rj 48 [u0, u1, .slice (some p) sent.length tc, u3, u4, u5], factsM (some p) tc sent, blk b3 43 (f.cells (.slice a f.data.length c)), A]) (F := F) (by repeat ((conv => arg 1; whnf); (conv => arg 2; whnf); first | with_reducible exact .done | exact Fin.all _ | refine .cons (by repeat ((conv => arg 2; whnf); first | with_reducible exact .here | ((with_reducible refine Del.hereC ?_); rfl) | ((with_reducible refine Del.hereS ?_ ?_ ?_) <;> rfl) | exact .here | apply Del.there)) ?_ | refine .drop ?_)))⟩
              · skip
                refine g_not ?_
                refine g_not ?_
                refine g_not ?_
                refine g_not ?_
                refine g_not ?_
                refine g_not ?_
                refine g_not ?_
                refine g_ev (e_pk rfl) ?_
                refine g_nil ?_
                exact ⟨(by (conv => lhs; whnf); try first | rfl | (refine congrArg Value.bool ?_; simp_all) | simp_all), (by (conv => lhs; whnf); try first | rfl | (refine congrArg Value.bool ?_; simp_all) | simp_all), (by (conv => lhs; whnf); try first | rfl | (refine congrArg Value.bool ?_; simp_all) | simp_all), (by (conv => lhs; whnf); refine congrArg Value.bool ?_; rw [Bool.eq_iff_iff, decide_eq_true_iff]; clear hr; unfold sameUnit; first | (simp_all [Int.natCast_inj]; done) | (simp_all; done) | (simp_all; omega) | (simp; omega)), (fun _ h => h.fin (L1 := [blk rj 48 [u0, u1, .slice (some p) sent.length tc, u3, u4, u5], factsM (some p) tc sent, blk b3 43 (f.cells (.slice a f.data.length c)), A]) (F := F) (by repeat ((conv => arg 1; whnf); (conv => arg 2; whnf); first | with_reducible exact .done | exact Fin.all _ | refine .cons (by repeat ((conv => arg 2; whnf); first | with_reducible exact .here | ((with_reducible refine Del.hereC ?_); rfl) | ((with_reducible refine Del.hereS ?_ ?_ ?_) <;> rfl) | exact .here | apply Del.there)) ?_ | refine .drop ?_)))⟩
            · skip
              refine g_not ?_
              refine g_not ?_
              refine g_not ?_
              refine g_not ?_
              refine g_not ?_
              refine g_ev (e_pk rfl) ?_
              refine g_ev (e_mv) ?_
              refine g_not ?_
              refine g_not ?_
              refine g_not ?_
              refine g_not ?_
              refine g_not ?_
              refine g_not ?_
              refine g_not ?_
              refine g_ev (e_pk rfl) ?_
              refine g_nil ?_
              exact ⟨(by (conv => lhs; whnf); try first | rfl | (refine congrArg Value.bool ?_; simp_all) | simp_all), (by (conv => lhs; whnf); try first | rfl | (refine congrArg Value.bool ?_; simp_all) | simp_all), (by (conv => lhs; whnf); try first | rfl | (refine congrArg Value.bool ?_; simp_all) | simp_all), (by (conv => lhs; whnf); refine congrArg Value.bool ?_; rw [Bool.eq_iff_iff, decide_eq_true_iff]; clear hr; unfold sameUnit; first | (simp_all [Int.natCast_inj]; done) | (simp_all; done) | (simp_all; omega) | (simp; omega)), (fun _ h => h.fin (L1 := [blk rj 48 [u0, u1, .slice (some p) sent.length tc, u3, u4, u5], factsM (some p) tc sent, blk b3 43 (f.cells (.slice a f.data.length c)), A]) (F := F) (by repeat ((conv => arg 1; whnf); (conv => arg 2; whnf); first | with_reducible exact .done | exact Fin.all _ | refine .cons (by repeat ((conv => arg 2; whnf); first | with_reducible exact .here | ((with_reducible refine Del.hereC ?_); rfl) | ((with_reducible refine Del.hereS ?_ ?_ ?_) <;> rfl) | exact .here | apply Del.there)) ?_ | refine .drop ?_)))⟩
          · skip
            refine g_not ?_
            refine g_not ?_
            refine g_not ?_
            refine g_not ?_
            refine g_not ?_
            refine g_ev (e_pk rfl) ?_
            refine g_ev (e_mv) ?_
            refine g_not ?_
            refine g_not ?_
            refine g_not ?_
            refine g_not ?_
            refine g_not ?_
            refine g_ev (e_pk rfl) ?_
            refine g_ev (e_mv) ?_
            refine g_not ?_
            refine g_not ?_
            refine g_not ?_
            refine g_not ?_
            refine g_not ?_
            refine g_not ?_
            refine g_not ?_
            refine g_ev (e_pk rfl) ?_
            refine g_nil ?_
            exact ⟨(by (conv => lhs; whnf); try first | rfl | (refine congrArg Value.bool ?_; simp_all) | simp_all), (by (conv => lhs; whnf); try first | rfl | (refine congrArg Value.bool ?_; simp_all) | simp_all), (by (conv => lhs; whnf); try first | rfl | (refine congrArg Value.bool ?_; simp_all) | simp_all), (by (conv => lhs; whnf); refine congrArg Value.bool ?_; rw [Bool.eq_iff_iff, decide_eq_true_iff]; clear hr; unfold sameUnit; first | (simp_all [Int.natCast_inj]; done) | (simp_all; done) | (simp_all; omega) | (simp; omega)), (fun _ h => h.fin (L1 := [blk rj 48 [u0, u1, .slice (some p) sent.length tc, u3, u4, u5], factsM (some p) tc sent, blk b3 43 (f.cells (.slice a f.data.length c)), A]) (F := F) (by repeat ((conv => arg 1; whnf); (conv => arg 2; whnf); first | with_reducible exact .done | exact Fin.all _ | refine .cons (by repeat ((conv => arg 2; whnf); first | with_reducible exact .here | ((with_reducible refine Del.hereC ?_); rfl) | ((with_reducible refine Del.hereS ?_ ?_ ?_) <;> rfl) | exact .here | apply Del.there)) ?_ | refine .drop ?_)))⟩
        · skip
          refine g_not ?_
          refine g_not ?_
          refine g_not ?_
          refine g_not ?_
          refine g_not ?_
          refine g_ev (e_pk rfl) ?_
          refine g_ev (e_mv) ?_
          refine g_not ?_
          refine g_not ?_
          refine g_not ?_
          refine g_not ?_
          refine g_not ?_
          refine g_ev (e_pk rfl) ?_
          refine g_ev (e_mv) ?_
          refine g_not ?_
          refine g_not ?_
          refine g_not ?_
          refine g_not ?_
          refine g_not ?_
          refine g_ev (e_pk rfl) ?_
          refine g_ev (e_mv) ?_
          refine g_not ?_
          refine g_not ?_
          refine g_not ?_
          refine g_not ?_
          refine g_not ?_
          refine g_not ?_
          refine g_not ?_
          refine g_ev (e_pk rfl) ?_
          refine g_nil ?_
          exact ⟨(by (conv => lhs; whnf); try first | rfl | (refine congrArg Value.bool ?_; simp_all) | simp_all), (by (conv => lhs; whnf); try first | rfl | (refine congrArg Value.bool ?_; simp_all) | simp_all), (by (conv => lhs; whnf); try first | rfl | (refine congrArg Value.bool ?_; simp_all) | simp_all), (by (conv => lhs; whnf); refine congrArg Value.bool ?_; rw [Bool.eq_iff_iff, decide_eq_true_iff]; clear hr; unfold sameUnit; first | (simp_all [Int.natCast_inj]; done) | (simp_all; done) | (simp_all; omega) | (simp; omega)), (fun _ h => h.fin (L1 := [blk rj 48 [u0, u1, .slice (some p) sent.length tc, u3, u4, u5], factsM (some p) tc sent, blk b3 43 (f.cells (.slice a f.data.length c)), A]) (F := F) (by repeat ((conv => arg 1; whnf); (conv => arg 2; whnf); first | with_reducible exact .done | exact Fin.all _ | refine .cons (by repeat ((conv => arg 2; whnf); first | with_reducible exact .here | ((with_reducible refine Del.hereC ?_); rfl) | ((with_reducible refine Del.hereS ?_ ?_ ?_) <;> rfl) | exact .here | apply Del.there)) ?_ | refine .drop ?_)))⟩
      · rintro E L ⟨s0, s3, s5, s57, hL⟩
        refine gc_imp hL ?_
        refine gc_slot 0 _ ?_ s0
        refine gc_slot 3 _ ?_ s3
        refine gc_slot 5 _ ?_ s5
        refine gc_slot 57 _ ?_ s57
        clear hL s0 s3 s5 s57
        first | refine gc_dec rfl (fun c57 => ?_) (fun c57 => ?_) | refine gc_ndec rfl (fun c57 => ?_) (fun c57 => ?_) | refine gc_cond rfl (fun c57 => ?_) (fun c57 => ?_)
        · skip
          refine gc_seq ?_
          refine gc_region ?_
          refine g_ev (e_as) ?_
          refine g_nil ?_
          refine gc_ret ?_
          have hh : hasSent (sent.map fun x : FactV => x.f) f = true := List.any_eq_true.2 ⟨x.f, List.mem_map.2 ⟨x, List.mem_of_getElem? hx, rfl⟩, decide_eq_true c57⟩
          exact ret1 (v := .bool true) (L1 := [blk rj 48 [u0, u1, .slice (some p) sent.length tc, u3, u4, u5], factsM (some p) tc sent, A]) rfl (by (conv => lhs; whnf); try rfl) ⟨by rw [hh], rfl⟩ (fun _ h => h.fin (by repeat ((conv => arg 1; whnf); (conv => arg 2; whnf); first | with_reducible exact .done | exact Fin.all _ | refine .cons (by repeat ((conv => arg 2; whnf); first | with_reducible exact .here | ((with_reducible refine Del.hereC ?_); rfl) | ((with_reducible refine Del.hereS ?_ ?_ ?_) <;> rfl) | exact .here | apply Del.there)) ?_ | refine .drop ?_)))
        · skip
          refine gc_skip ?_
          refine gc_region ?_
          refine g_ev (e_mv) ?_
          refine g_ev ((e_addw rfl rfl).to (v' := .int .i64 ((i + 1 : Nat) : Int)) (congrArg _ (wrapN (by omega) (by omega)))) ?_
          refine g_ev (e_as) ?_
          refine g_nil ?_
          refine Exists.intro (i + 1) (And.intro ⟨(by omega), (by rw [List.take_add_one, hx, List.map_append]; unfold hasSent at ht ⊢; rw [List.any_append, ht]; simpa using c57), (by (conv => lhs; whnf); try rfl), (by (conv => lhs; whnf); try rfl), (by (conv => lhs; whnf); try rfl), (fun _ h => h.fin (L1 := [blk rj 48 [u0, u1, .slice (some p) sent.length tc, u3, u4, u5], factsM (some p) tc sent, blk b3 43 (f.cells (.slice a f.data.length c)), A]) (F := F) (by repeat ((conv => arg 1; whnf); (conv => arg 2; whnf); first | with_reducible exact .done | exact Fin.all _ | refine .cons (by repeat ((conv => arg 2; whnf); first | with_reducible exact .here | ((with_reducible refine Del.hereC ?_); rfl) | ((with_reducible refine Del.hereS ?_ ?_ ?_) <;> rfl) | exact .here | apply Del.there)) ?_ | refine .drop ?_)))⟩ (by omega))
    · skip
      refine gc_exit ?_
      refine gc_seq ?_
      refine gc_region ?_
      refine g_ev (e_as) ?_
      refine g_nil ?_
      refine gc_ret ?_
      rw [List.take_of_length_le (by omega)] at ht
      exact ret1 (v := .bool false) (L1 := [blk rj 48 [u0, u1, .slice ta sent.length tc, u3, u4, u5], factsM ta tc sent, A]) rfl (by (conv => lhs; whnf); try rfl) ⟨by rw [ht], rfl⟩ (fun _ h => h.fin (by repeat ((conv => arg 1; whnf); (conv => arg 2; whnf); first | with_reducible exact .done | exact Fin.all _ | refine .cons (by repeat ((conv => arg 2; whnf); first | with_reducible exact .here | ((with_reducible refine Del.hereC ?_); rfl) | ((with_reducible refine Del.hereS ?_ ?_ ?_) <;> rfl) | exact .here | apply Del.there)) ?_ | refine .drop ?_)))

theorem rbegin_t {rj tc k n : Nat} {ta sa : Option Addr} {sc : Nat} {sent : List FactV} {ses : List Nat} {u0 u3 u4 u5 : Value} (f : FactS) {a : Option Addr} {c : Nat} {A : HProp} (hn : sent.length ≤ 1000000) (hk : f.conn = (k : Int)) (hks : k < n) (hsl : ses.length = n) : Tri Try.prog 26 #[.pointer (some ⟨rj, 0, none⟩), .agg ⟨f.cells (.slice a f.data.length c)⟩] [blk rj 48 [u0, .slice sa n sc, .slice ta sent.length tc, u3, u4, u5], factsM ta tc sent, sown 23 1 (.slice sa n sc) n (ses.map fun s : Nat => Value.int .u32 (s : Int)), A] (fun v L => ∃ ka kc, v = .tuple #[] ∧ L = [blk rj 48 [u0, .slice sa n sc, .slice ka (sent.filter (kept f)).length kc, u3, u4, u5], factsM ka kc (sent.filter (kept f)), sown 23 1 (.slice sa n sc) n ((ses.set k f.sess).map fun s : Nat => Value.int .u32 (s : Int)), A]) := by
  refine tri_of Try.call26 Try.func26 rfl fun B F => ?_
  refine gc_seq ?_
  refine gc_region ?_
  refine g_eff (s_bx) ?_
  rintro _ _ ⟨b3, rfl, rfl⟩
  refine g_nil ?_
  refine gc_seq ?_
  refine gc_region ?_
  refine g_ev (e_as) ?_
  refine g_nil ?_
  refine gc_seq ?_
  refine gc_seq ?_
  refine gc_region ?_
  refine g_ev (e_as) ?_
  refine g_nil ?_
  refine gc_block ?_
  refine gc_loop (α := Nat × Option Addr × Nat) (fun y E L => (y.1 ≤ sent.length) ∧ E 0 = .pointer (some ⟨rj, 0, none⟩) ∧ E 3 = .pointer (some ⟨b3, 0, none⟩) ∧ E 4 = .slice y.2.1 ((sent.take y.1).filter (kept f)).length y.2.2 ∧ E 5 = .int .i64 (y.1 : Int) ∧ ∀ w, Sat B w L → Sat B w (blk rj 48 [u0, .slice sa n sc, .slice ta sent.length tc, u3, u4, u5] :: factsM ta tc sent :: sown 43 8 (.slice y.2.1 ((sent.take y.1).filter (kept f)).length y.2.2) ((sent.take y.1).filter (kept f)).length (fcells ((sent.take y.1).filter (kept f))) :: sown 23 1 (.slice sa n sc) n (ses.map fun s : Nat => Value.int .u32 (s : Int)) :: blk b3 43 (f.cells (.slice a f.data.length c)) :: A :: F)) (fun y => sent.length - y.1) ((0, none, 0)) ?_ ?_
  · exact ⟨Nat.zero_le _, (by (conv => lhs; whnf); try rfl), (by (conv => lhs; whnf); try rfl), (by (conv => lhs; whnf); try rfl), (by (conv => lhs; whnf); try rfl), (fun _ h => h.fin (L1 := [blk rj 48 [u0, .slice sa n sc, .slice ta sent.length tc, u3, u4, u5], factsM ta tc sent, sown 43 8 (.slice none 0 0) 0 [], sown 23 1 (.slice sa n sc) n (ses.map fun s : Nat => Value.int .u32 (s : Int)), blk b3 43 (f.cells (.slice a f.data.length c)), A]) (F := F) (.cons (by repeat ((conv => arg 2; whnf); first | with_reducible exact .here | ((with_reducible refine Del.hereC ?_); rfl) | ((with_reducible refine Del.hereS ?_ ?_ ?_) <;> rfl) | exact .here | apply Del.there)) (.cons (by repeat ((conv => arg 2; whnf); first | with_reducible exact .here | ((with_reducible refine Del.hereC ?_); rfl) | ((with_reducible refine Del.hereS ?_ ?_ ?_) <;> rfl) | exact .here | apply Del.there)) (.fold nil_fold (by repeat ((conv => arg 1; whnf); (conv => arg 2; whnf); first | with_reducible exact .done | exact Fin.all _ | refine .cons (by repeat ((conv => arg 2; whnf); first | with_reducible exact .here | ((with_reducible refine Del.hereC ?_); rfl) | ((with_reducible refine Del.hereS ?_ ?_ ?_) <;> rfl) | exact .here | apply Del.there)) ?_ | refine .drop ?_))))))⟩
  · rintro ⟨i, ka, kc⟩ E L ⟨hi, s0, s3, s4, s5, hL⟩
    dsimp only at hi s0 s3 s4 s5 hL
    refine gc_imp hL ?_
    refine gc_slot 0 _ ?_ s0
    refine gc_slot 3 _ ?_ s3
    refine gc_slot 4 _ ?_ s4
    refine gc_slot 5 _ ?_ s5
    clear hL s0 s3 s4 s5
    refine gc_seq ?_
    refine gc_seq ?_
    refine gc_region ?_
    refine g_ev (e_mv) ?_
    refine g_ev (e_mv) ?_
    refine g_ev (e_nc rfl) ?_
    refine g_ev (e_fa Try.underlying48 rfl rfl Try.sizeOf26) ?_
    refine g_ev (e_ld Try.underlying26 rfl (by repeat ((conv => arg 2; whnf); first | with_reducible exact .here | ((with_reducible refine Del.hereC ?_); rfl) | ((with_reducible refine Del.hereS ?_ ?_ ?_) <;> rfl) | exact .here | apply Del.there)) rfl) ?_
    refine g_ev (e_len Try.underlying26 rfl) ?_
    refine g_ev (e_lt rfl rfl) ?_
    refine g_nil ?_
    first | refine gc_dec rfl (fun c13 => ?_) (fun c13 => ?_) | refine gc_ndec rfl (fun c13 => ?_) (fun c13 => ?_) | refine gc_cond rfl (fun c13 => ?_) (fun c13 => ?_)
    · skip
      refine gc_skip ?_
      refine gc_seq ?_
      refine gc_block ?_
      refine gc_seq ?_
      refine gc_region ?_
      obtain ⟨x, hx⟩ : ∃ x, sent[i]? = some x := ⟨_, List.getElem?_eq_getElem (by omega)⟩
      refine g_fact (φ := ∃ p, ta = some p) (fun w h => (by have h0 := (factsM_rd ((h.fin (L1 := [factsM ta tc sent]) (F := F) (by repeat ((conv => arg 1; whnf); (conv => arg 2; whnf); first | with_reducible exact .done | exact Fin.all _ | refine .cons (by repeat ((conv => arg 2; whnf); first | with_reducible exact .here | ((with_reducible refine Del.hereC ?_); rfl) | ((with_reducible refine Del.hereS ?_ ?_ ?_) <;> rfl) | exact .here | apply Del.there)) ?_ | refine .drop ?_))).left (L1 := [factsM ta tc sent]))).1; cases ta with | none => rw [h0 rfl] at hx; cases hx | some p => exact ⟨p, rfl⟩)) fun ⟨p, e1⟩ => ?_
      subst e1
      refine g_ev (e_mv) ?_
      refine g_ev (e_nc rfl) ?_
      refine g_ev (e_fa Try.underlying48 rfl rfl Try.sizeOf26) ?_
      refine g_ev (e_ld Try.underlying26 rfl (by repeat ((conv => arg 2; whnf); first | with_reducible exact .here | ((with_reducible refine Del.hereC ?_); rfl) | ((with_reducible refine Del.hereS ?_ ?_ ?_) <;> rfl) | exact .here | apply Del.there)) rfl) ?_
      refine g_ev (e_mv) ?_
      refine g_ev (e_iaA (q := i) Try.underlying26 Try.sizeOf43 rfl rfl rfl (by omega)) ?_
      refine g_ev (e_ldAc (xs := x.cells) Try.underlying43 rfl Try.sizeOf43 rfl (fun B w h => (factsM_rd ((h.fin (L1 := [factsM (some p) tc sent]) (F := F) (by repeat ((conv => arg 1; whnf); (conv => arg 2; whnf); first | with_reducible exact .done | exact Fin.all _ | refine .cons (by repeat ((conv => arg 2; whnf); first | with_reducible exact .here | ((with_reducible refine Del.hereC ?_); rfl) | ((with_reducible refine Del.hereS ?_ ?_ ?_) <;> rfl) | exact .here | apply Del.there)) ?_ | refine .drop ?_))).left (L1 := [factsM (some p) tc sent]))).2.1 p rfl _ _ hx)) ?_
      refine g_eff (s_al Try.zeroValue43) ?_
      rintro _ _ ⟨b6, rfl, rfl⟩
      refine g_eff (s_stA Try.sizeOf43 rfl rfl (by repeat ((conv => arg 3; whnf); first | with_reducible exact .here | apply Turn.there))) ?_
      rintro _ _ ⟨rfl, rfl⟩
      refine g_nil ?_
      refine gc_seq ?_
      refine gc_cut (fun E L => E 0 = .pointer (some ⟨rj, 0, none⟩) ∧ E 3 = .pointer (some ⟨b3, 0, none⟩) ∧ E 4 = .slice ka ((sent.take i).filter (kept f)).length kc ∧ E 5 = .int .i64 (i : Int) ∧ E 6 = .pointer (some ⟨b6, 0, none⟩) ∧ E 39 = .bool (decide (keeps f x.f)) ∧ ∀ w, Sat B w L → Sat B w (blk rj 48 [u0, .slice sa n sc, .slice (some p) sent.length tc, u3, u4, u5] :: factsM (some p) tc sent :: sown 43 8 (.slice ka ((sent.take i).filter (kept f)).length kc) ((sent.take i).filter (kept f)).length (fcells ((sent.take i).filter (kept f))) :: sown 23 1 (.slice sa n sc) n (ses.map fun s : Nat => Value.int .u32 (s : Int)) :: blk b3 43 (f.cells (.slice a f.data.length c)) :: A :: blk b6 43 x.cells :: F)) ?_ ?_
      · skip
        refine gc_region ?_
        refine g_ev (e_fa Try.underlying43 rfl rfl Try.sizeOf3) ?_
        refine g_ev (e_ld Try.underlying3 rfl (by repeat ((conv => arg 2; whnf); first | with_reducible exact .here | ((with_reducible refine Del.hereC ?_); rfl) | ((with_reducible refine Del.hereS ?_ ?_ ?_) <;> rfl) | exact .here | apply Del.there)) rfl) ?_
        refine g_ev (e_fa Try.underlying43 rfl rfl Try.sizeOf3) ?_
        refine g_ev (e_ld Try.underlying3 rfl (by repeat ((conv => arg 2; whnf); first | with_reducible exact .here | ((with_reducible refine Del.hereC ?_); rfl) | ((with_reducible refine Del.hereS ?_ ?_ ?_) <;> rfl) | exact .here | apply Del.there)) rfl) ?_
        refine g_ev (e_ne rfl rfl) ?_
        refine g_ev (e_mv) ?_
        first | refine g_dec 28 rfl (fun c28 => ?_) (fun c28 => ?_) | refine g_ndec 28 rfl (fun c28 => ?_) (fun c28 => ?_) | refine g_bool 28 rfl (fun c28 => ?_) (fun c28 => ?_)
        · skip
          refine g_not ?_
          refine g_not ?_
          refine g_not ?_
          refine g_ev (e_pk rfl) ?_
          refine g_ev (e_mv) ?_
          refine g_not ?_
          refine g_not ?_
          refine g_not ?_
          refine g_not ?_
          refine g_not ?_
          refine g_ev (e_pk rfl) ?_
          refine g_nil ?_
          exact ⟨(by (conv => lhs; whnf); try first | rfl | (refine congrArg Value.bool ?_; simp_all) | simp_all), (by (conv => lhs; whnf); try first | rfl | (refine congrArg Value.bool ?_; simp_all) | simp_all), (by (conv => lhs; whnf); try first | rfl | (refine congrArg Value.bool ?_; simp_all) | simp_all), (by (conv => lhs; whnf); try first | rfl | (refine congrArg Value.bool ?_; simp_all) | simp_all), (by (conv => lhs; whnf); try first | rfl | (refine congrArg Value.bool ?_; simp_all) | simp_all), (by (conv => lhs; whnf); refine congrArg Value.bool ?_; rw [Bool.eq_iff_iff, decide_eq_true_iff]; unfold keeps; first | (simp_all; done) | (simp_all; omega) | (simp; omega)), (fun _ h => h.fin (L1 := [blk rj 48 [u0, .slice sa n sc, .slice (some p) sent.length tc, u3, u4, u5], factsM (some p) tc sent, sown 43 8 (.slice ka ((sent.take i).filter (kept f)).length kc) ((sent.take i).filter (kept f)).length (fcells ((sent.take i).filter (kept f))), sown 23 1 (.slice sa n sc) n (ses.map fun s : Nat => Value.int .u32 (s : Int)), blk b3 43 (f.cells (.slice a f.data.length c)), A, blk b6 43 x.cells]) (F := F) (by repeat ((conv => arg 1; whnf); (conv => arg 2; whnf); first | with_reducible exact .done | exact Fin.all _ | refine .cons (by repeat ((conv => arg 2; whnf); first | with_reducible exact .here | ((with_reducible refine Del.hereC ?_); rfl) | ((with_reducible refine Del.hereS ?_ ?_ ?_) <;> rfl) | exact .here | apply Del.there)) ?_ | refine .drop ?_)))⟩
        · skip
          refine g_ev (e_fa Try.underlying43 rfl rfl Try.sizeOf39) ?_
          refine g_ev (e_ld Try.underlying39 rfl (by repeat ((conv => arg 2; whnf); first | with_reducible exact .here | ((with_reducible refine Del.hereC ?_); rfl) | ((with_reducible refine Del.hereS ?_ ?_ ?_) <;> rfl) | exact .here | apply Del.there)) rfl) ?_
          refine g_ev (e_ne rfl rfl) ?_
          refine g_ev (e_pk rfl) ?_
          refine g_ev (e_mv) ?_
          first | refine g_dec 33 rfl (fun c33 => ?_) (fun c33 => ?_) | refine g_ndec 33 rfl (fun c33 => ?_) (fun c33 => ?_) | refine g_bool 33 rfl (fun c33 => ?_) (fun c33 => ?_)
          · skip
            refine g_not ?_
            refine g_not ?_
            refine g_not ?_
            refine g_not ?_
            refine g_not ?_
            refine g_ev (e_pk rfl) ?_
            refine g_nil ?_
            exact ⟨(by (conv => lhs; whnf); try first | rfl | (refine congrArg Value.bool ?_; simp_all) | simp_all), (by (conv => lhs; whnf); try first | rfl | (refine congrArg Value.bool ?_; simp_all) | simp_all), (by (conv => lhs; whnf); try first | rfl | (refine congrArg Value.bool ?_; simp_all) | simp_all), (by (conv => lhs; whnf); try first | rfl | (refine congrArg Value.bool ?_; simp_all) | simp_all), (by (conv => lhs; whnf); try first | rfl | (refine congrArg Value.bool ?_; simp_all) | simp_all), (by (conv => lhs; whnf); refine congrArg Value.bool ?_; rw [Bool.eq_iff_iff, decide_eq_true_iff]; unfold keeps; first | (simp_all; done) | (simp_all; omega) | (simp; omega)), (fun _ h => h.fin (L1 := [blk rj 48 [u0, .slice sa n sc, .slice (some p) sent.length tc, u3, u4, u5], factsM (some p) tc sent, sown 43 8 (.slice ka ((sent.take i).filter (kept f)).length kc) ((sent.take i).filter (kept f)).length (fcells ((sent.take i).filter (kept f))), sown 23 1 (.slice sa n sc) n (ses.map fun s : Nat => Value.int .u32 (s : Int)), blk b3 43 (f.cells (.slice a f.data.length c)), A, blk b6 43 x.cells]) (F := F) (by repeat ((conv => arg 1; whnf); (conv => arg 2; whnf); first | with_reducible exact .done | exact Fin.all _ | refine .cons (by repeat ((conv => arg 2; whnf); first | with_reducible exact .here | ((with_reducible refine Del.hereC ?_); rfl) | ((with_reducible refine Del.hereS ?_ ?_ ?_) <;> rfl) | exact .here | apply Del.there)) ?_ | refine .drop ?_)))⟩
          · skip
            refine g_ev (e_fa Try.underlying43 rfl rfl Try.sizeOf23) ?_
            refine g_ev (e_ld Try.underlying23 rfl (by repeat ((conv => arg 2; whnf); first | with_reducible exact .here | ((with_reducible refine Del.hereC ?_); rfl) | ((with_reducible refine Del.hereS ?_ ?_ ?_) <;> rfl) | exact .here | apply Del.there)) rfl) ?_
            refine g_ev (e_fa Try.underlying43 rfl rfl Try.sizeOf23) ?_
            refine g_ev (e_ld Try.underlying23 rfl (by repeat ((conv => arg 2; whnf); first | with_reducible exact .here | ((with_reducible refine Del.hereC ?_); rfl) | ((with_reducible refine Del.hereS ?_ ?_ ?_) <;> rfl) | exact .here | apply Del.there)) rfl) ?_
            refine g_ev (e_ne rfl rfl) ?_
            refine g_ev (e_pk rfl) ?_
            refine g_nil ?_
            exact ⟨(by (conv => lhs; whnf); try first | rfl | (refine congrArg Value.bool ?_; simp_all) | simp_all), (by (conv => lhs; whnf); try first | rfl | (refine congrArg Value.bool ?_; simp_all) | simp_all), (by (conv => lhs; whnf); try first | rfl | (refine congrArg Value.bool ?_; simp_all) | simp_all), (by (conv => lhs; whnf); try first | rfl | (refine congrArg Value.bool ?_; simp_all) | simp_all), (by (conv => lhs; whnf); try first | rfl | (refine congrArg Value.bool ?_; simp_all) | simp_all), (by (conv => lhs; whnf); refine congrArg Value.bool ?_; rw [Bool.eq_iff_iff, decide_eq_true_iff]; unfold keeps; first | (simp_all; done) | (simp_all; omega) | (simp; omega)), (fun _ h => h.fin (L1 := [blk rj 48 [u0, .slice sa n sc, .slice (some p) sent.length tc, u3, u4, u5], factsM (some p) tc sent, sown 43 8 (.slice ka ((sent.take i).filter (kept f)).length kc) ((sent.take i).filter (kept f)).length (fcells ((sent.take i).filter (kept f))), sown 23 1 (.slice sa n sc) n (ses.map fun s : Nat => Value.int .u32 (s : Int)), blk b3 43 (f.cells (.slice a f.data.length c)), A, blk b6 43 x.cells]) (F := F) (by repeat ((conv => arg 1; whnf); (conv => arg 2; whnf); first | with_reducible exact .done | exact Fin.all _ | refine .cons (by repeat ((conv => arg 2; whnf); first | with_reducible exact .here | ((with_reducible refine Del.hereC ?_); rfl) | ((with_reducible refine Del.hereS ?_ ?_ ?_) <;> rfl) | exact .here | apply Del.there)) ?_ | refine .drop ?_)))⟩
      · rintro E L ⟨s0, s3, s4, s5, s6, s39, hL⟩
        refine gc_imp hL ?_
        refine gc_slot 0 _ ?_ s0
        refine gc_slot 3 _ ?_ s3
        refine gc_slot 4 _ ?_ s4
        refine gc_slot 5 _ ?_ s5
        refine gc_slot 6 _ ?_ s6
        refine gc_slot 39 _ ?_ s39
        clear hL s0 s3 s4 s5 s6 s39
        first | refine gc_dec rfl (fun c39 => ?_) (fun c39 => ?_) | refine gc_ndec rfl (fun c39 => ?_) (fun c39 => ?_) | refine gc_cond rfl (fun c39 => ?_) (fun c39 => ?_)
        · skip
          refine gc_region ?_
          refine g_ev (e_mv) ?_
          refine g_ev (e_ldA Try.underlying43 rfl (by repeat ((conv => arg 2; whnf); first | with_reducible exact .here | ((with_reducible refine Del.hereC ?_); rfl) | ((with_reducible refine Del.hereS ?_ ?_ ?_) <;> rfl) | exact .here | apply Del.there)) Try.sizeOf43 (by simp)) ?_
          refine g_eff (s_bs1 (us := x.cells) Try.underlying26 Try.sizeOf43 Try.zeroValue43 rfl) ?_
          rintro _ _ ⟨b42, rfl, rfl⟩
          refine g_eff (s_ap (bytes := 72) (k := 8) Try.underlying26 info43 rfl rfl rfl rfl (by decide) rfl rfl (by repeat ((conv => arg 2; whnf); first | with_reducible exact .here | ((with_reducible refine Del.hereC ?_); rfl) | ((with_reducible refine Del.hereS ?_ ?_ ?_) <;> rfl) | exact .here | apply Del.there)) (fun B w h => h.rdsk0 (by repeat ((conv => arg 2; whnf); first | with_reducible exact .here | ((with_reducible refine Del.hereC ?_); rfl) | ((with_reducible refine Del.hereS ?_ ?_ ?_) <;> rfl) | exact .here | apply Del.there)) rfl) (fun u hu => fcells_one [x] u (by simpa [fcells] using hu)) (by have h0 := List.length_filter_le (kept f) (sent.take i); rw [List.length_take] at h0; omega) (by have h0 := List.length_filter_le (kept f) (sent.take i); rw [List.length_take] at h0; unfold maxLen; omega)) ?_
          rintro _ _ ⟨ka2, kc2, rfl, rfl, hn2⟩
          refine g_ev (e_as) ?_
          refine g_nil ?_
          refine gc_region ?_
          refine g_ev (e_mv) ?_
          refine g_ev ((e_addw rfl rfl).to (v' := .int .i64 ((i + 1 : Nat) : Int)) (congrArg _ (wrapN (by omega) (by omega)))) ?_
          refine g_ev (e_as) ?_
          refine g_nil ?_
          have hk1 : (sent.take (i + 1)).filter (kept f) = ((sent.take i).filter (kept f)) ++ [x] := by rw [List.take_add_one, hx, List.filter_append]; simp [kept, c39]
          refine Exists.intro ((i + 1, ka2, kc2)) (And.intro ⟨(by show i + 1 ≤ _; omega), (by (conv => lhs; whnf); try rfl), (by (conv => lhs; whnf); try rfl), (by (conv => lhs; whnf); first | rfl | (dsimp only; rw [hk1, List.length_append]; rfl) | (dsimp only; rw [hk1])), (by (conv => lhs; whnf); try rfl), (fun w h => by show Sat B w (blk rj 48 [u0, .slice sa n sc, .slice (some p) sent.length tc, u3, u4, u5] :: factsM (some p) tc sent :: sown 43 8 (.slice ka2 ((sent.take (i + 1)).filter (kept f)).length kc2) ((sent.take (i + 1)).filter (kept f)).length (fcells ((sent.take (i + 1)).filter (kept f))) :: sown 23 1 (.slice sa n sc) n (ses.map fun s : Nat => Value.int .u32 (s : Int)) :: blk b3 43 (f.cells (.slice a f.data.length c)) :: A :: F); rw [hk1, List.length_append, fcells_snoc]; exact h.fin (L1 := [blk rj 48 [u0, .slice sa n sc, .slice (some p) sent.length tc, u3, u4, u5], factsM (some p) tc sent, sown 43 8 (.slice ka2 (((sent.take i).filter (kept f)).length + 1) kc2) (((sent.take i).filter (kept f)).length + 1) (fcells ((sent.take i).filter (kept f)) ++ x.cells), sown 23 1 (.slice sa n sc) n (ses.map fun s : Nat => Value.int .u32 (s : Int)), blk b3 43 (f.cells (.slice a f.data.length c)), A]) (F := F) (by repeat ((conv => arg 1; whnf); (conv => arg 2; whnf); first | with_reducible exact .done | exact Fin.all _ | refine .cons (by repeat ((conv => arg 2; whnf); first | with_reducible exact .here | ((with_reducible refine Del.hereC ?_); rfl) | ((with_reducible refine Del.hereS ?_ ?_ ?_) <;> rfl) | exact .here | apply Del.there)) ?_ | refine .drop ?_)))⟩ (by show _ - (i + 1) < _ - i; omega))
        · skip
          refine gc_skip ?_
          refine gc_region ?_
          refine g_ev (e_mv) ?_
          refine g_ev ((e_addw rfl rfl).to (v' := .int .i64 ((i + 1 : Nat) : Int)) (congrArg _ (wrapN (by omega) (by omega)))) ?_
          refine g_ev (e_as) ?_
          refine g_nil ?_
          have hk1 : (sent.take (i + 1)).filter (kept f) = ((sent.take i).filter (kept f)) := by rw [List.take_add_one, hx, List.filter_append]; simp [kept, c39]
          refine Exists.intro ((i + 1, ka, kc)) (And.intro ⟨(by show i + 1 ≤ _; omega), (by (conv => lhs; whnf); try rfl), (by (conv => lhs; whnf); try rfl), (by (conv => lhs; whnf); first | rfl | (dsimp only; rw [hk1, List.length_append]; rfl) | (dsimp only; rw [hk1])), (by (conv => lhs; whnf); try rfl), (fun w h => by show Sat B w (blk rj 48 [u0, .slice sa n sc, .slice (some p) sent.length tc, u3, u4, u5] :: factsM (some p) tc sent :: sown 43 8 (.slice ka ((sent.take (i + 1)).filter (kept f)).length kc) ((sent.take (i + 1)).filter (kept f)).length (fcells ((sent.take (i + 1)).filter (kept f))) :: sown 23 1 (.slice sa n sc) n (ses.map fun s : Nat => Value.int .u32 (s : Int)) :: blk b3 43 (f.cells (.slice a f.data.length c)) :: A :: F); rw [hk1]; exact h.fin (L1 := [blk rj 48 [u0, .slice sa n sc, .slice (some p) sent.length tc, u3, u4, u5], factsM (some p) tc sent, sown 43 8 (.slice ka ((sent.take i).filter (kept f)).length kc) ((sent.take i).filter (kept f)).length (fcells ((sent.take i).filter (kept f))), sown 23 1 (.slice sa n sc) n (ses.map fun s : Nat => Value.int .u32 (s : Int)), blk b3 43 (f.cells (.slice a f.data.length c)), A]) (F := F) (by repeat ((conv => arg 1; whnf); (conv => arg 2; whnf); first | with_reducible exact .done | exact Fin.all _ | refine .cons (by repeat ((conv => arg 2; whnf); first | with_reducible exact .here | ((with_reducible refine Del.hereC ?_); rfl) | ((with_reducible refine Del.hereS ?_ ?_ ?_) <;> rfl) | exact .here | apply Del.there)) ?_ | refine .drop ?_)))⟩ (by show _ - (i + 1) < _ - i; omega))
    · skip
      refine gc_exit ?_
      refine gc_seq ?_
      refine gc_region ?_
      refine g_ev (e_mv) ?_
      refine g_ev (e_mv) ?_
      refine g_ev (e_nc rfl) ?_
      refine g_ev (e_fa Try.underlying48 rfl rfl Try.sizeOf26) ?_
      refine g_eff (s_st Try.sizeOf26 rfl (by repeat ((conv => arg 3; whnf); first | with_reducible exact .here | apply Turn.there))) ?_
      rintro _ _ ⟨rfl, rfl⟩
      refine g_nil ?_
      refine gc_own (m := n) (by omega) (by repeat ((conv => arg 2; whnf); first | with_reducible exact .here | ((with_reducible refine Del.hereC ?_); rfl) | ((with_reducible refine Del.hereS ?_ ?_ ?_) <;> rfl) | exact .here | apply Del.there)) fun bs cap rest hv hle hmax hlen hrest => ?_
      injection hv with hv1 hv2 hv3
      subst hv1; subst hv3
      refine gc_draw (D := [blk bs 23 ((ses.map fun s : Nat => Value.int .u32 (s : Int)) ++ rest)]) (fin := none) (plan := [(true, 0), (true, 1), (true, 2), (true, 3), (true, 4), (true, 5), (true, 6), (true, 7), (true, 8), (false, 9)]) rfl (by kernel_rfl) (by kernel_rfl) rfl (.cons (by repeat ((conv => arg 2; whnf); first | with_reducible exact .here | ((with_reducible refine Del.hereC ?_); rfl) | ((with_reducible refine Del.hereS ?_ ?_ ?_) <;> rfl) | exact .here | apply Del.there)) .nil) ?_
      refine gp_ev rfl (e_mv) ?_
      refine gp_ev rfl (e_nc rfl) ?_
      refine gp_ev rfl (e_fa Try.underlying48 rfl rfl Try.sizeOf46) ?_
      refine gp_ev rfl (e_ld Try.underlying46 rfl (by repeat ((conv => arg 2; whnf); first | with_reducible exact .here | ((with_reducible refine Del.hereC ?_); rfl) | ((with_reducible refine Del.hereS ?_ ?_ ?_) <;> rfl) | exact .here | apply Del.there)) rfl) ?_
      refine gp_ev rfl (e_fa Try.underlying43 rfl rfl Try.sizeOf3) ?_
      refine gp_ev rfl (e_ld Try.underlying3 rfl (by repeat ((conv => arg 2; whnf); first | with_reducible exact .here | ((with_reducible refine Del.hereC ?_); rfl) | ((with_reducible refine Del.hereS ?_ ?_ ?_) <;> rfl) | exact .here | apply Del.there)) rfl) ?_
      refine gp_ev rfl (e_fa Try.underlying43 rfl rfl Try.sizeOf23) ?_
      refine gp_ev rfl (e_ld Try.underlying23 rfl (by repeat ((conv => arg 2; whnf); first | with_reducible exact .here | ((with_reducible refine Del.hereC ?_); rfl) | ((with_reducible refine Del.hereS ?_ ?_ ?_) <;> rfl) | exact .here | apply Del.there)) rfl) ?_
      refine gp_ev rfl (e_ia (o := k) (q := k) Try.underlying46 Try.sizeOf23 rfl rfl hk hks (by omega)) ?_
      refine gp_eff rfl (s_st (u := .int .u32 (f.sess : Int)) Try.sizeOf23 rfl (by repeat ((conv => arg 3; whnf); first | with_reducible exact .here | apply Turn.there)) rfl (by simp; omega)) ?_
      rintro _ _ ⟨rfl, rfl⟩
      refine gp_nil ?_
      have hti : (sent.take i).filter (kept f) = sent.filter (kept f) := by rw [List.take_of_length_le (by omega)]
      rw [hti]
      exact end0 (L1 := [blk rj 48 [u0, .slice (some ⟨bs, 0, none⟩) n sc, .slice ka (sent.filter (kept f)).length kc, u3, u4, u5], factsM ka kc (sent.filter (kept f)), sown 23 1 (.slice (some ⟨bs, 0, none⟩) n sc) n ((ses.map fun s : Nat => Value.int .u32 (s : Int)).set k (.int .u32 (f.sess : Int))), A]) rfl ⟨ka, kc, rfl, by rw [List.map_set]⟩ (fun w h => begin_shut List.filter_sublist hlen hle hmax hrest (by simp; omega) rfl (h.fin (L1 := [factsM ta tc sent, blk rj 48 [u0, .slice (some ⟨bs, 0, none⟩) n sc, .slice ka (sent.filter (kept f)).length kc, u3, u4, u5], sown 43 8 (.slice ka (sent.filter (kept f)).length kc) (sent.filter (kept f)).length (fcells (sent.filter (kept f))), blk bs 23 (((ses.map fun s : Nat => Value.int .u32 (s : Int)) ++ rest).set k (.int .u32 (f.sess : Int))), A]) (F := F) (by repeat ((conv => arg 1; whnf); (conv => arg 2; whnf); first | with_reducible exact .done | exact Fin.all _ | refine .cons (by repeat ((conv => arg 2; whnf); first | with_reducible exact .here | ((with_reducible refine Del.hereC ?_); rfl) | ((with_reducible refine Del.hereS ?_ ?_ ?_) <;> rfl) | exact .here | apply Del.there)) ?_ | refine .drop ?_))))

end Go.Proofs.Ythjimddhnlmlhaa
