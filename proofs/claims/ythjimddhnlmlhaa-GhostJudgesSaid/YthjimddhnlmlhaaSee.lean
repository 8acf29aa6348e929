/- The walks of See, Verdict and the small nets; no conditions. -/
import Derived.Test.YthjimddhnlmlhaaAbs
namespace Go.Proofs.Ythjimddhnlmlhaa
open Go.Vc
theorem pl25 : plOK Try.prog 25 #[(0, 1), (1, 1), (2, 1)] := by intro fs h w; rw [Try.underlying25] at h; cases h; simp
theorem pl34 : plOK Try.prog 34 #[(0, 1), (1, 1)] := by intro fs h w; rw [Try.underlying34] at h; cases h; simp
theorem pl58 : plOK Try.prog 58 #[(0, 1), (1, 1), (2, 2)] := by intro fs h w; rw [Try.underlying58] at h; cases h; simp
theorem pl64 : plOK Try.prog 64 #[(0, 20), (20, 1), (21, 1)] := by intro fs h w; rw [Try.underlying64] at h; cases h; simp
theorem pl66 : plOK Try.prog 66 #[(0, 1), (1, 1), (2, 1), (3, 1), (4, 1)] := by intro fs h w; rw [Try.underlying66] at h; cases h; simp
theorem see_t {bj : Nat} (D : JudD) (f : FactS) {a : Option Addr} {c : Nat} {A : HProp} (hr : ∀ B w, Sat B w [A] → Rds w 1 (.slice a f.data.length c) f.data.length (bv f.data)) (hf : f.ok) (hat : D.at_ < 4611686018427387904) : Tri Try.prog 13 #[.pointer (some ⟨bj, 0, none⟩), .agg ⟨f.cells (.slice a f.data.length c)⟩] [jud bj D, A] (isR (.agg ⟨[.int .i64 (D.see f).r, .int .i64 (D.see f).ra]⟩) [jud bj (D.see f), A]) := by
  refine tri_of Try.call13 Try.func13 rfl fun B F => ?_
  refine gc_jud .here fun ls la lc hls hok => ?_
  refine gc_seq ?_
  refine gc_region ?_
  refine g_eff (s_bx) ?_
  rintro _ _ ⟨b3, rfl, rfl⟩
  refine g_eff (s_al Try.zeroValue34) ?_
  rintro _ _ ⟨b4, rfl, rfl⟩
  refine g_nil ?_
  refine gc_seq ?_
  refine gc_seq ?_
  refine gc_region ?_
  refine g_ev (e_mv) ?_
  refine g_ev (e_eqp Try.underlying28 rfl rfl) ?_
  refine g_nil ?_
  refine gc_false ?_
  refine gc_skip ?_
  refine gc_seq ?_
  refine gc_seq ?_
  refine gc_region ?_
  refine g_ev (e_mv) ?_
  refine g_ev (e_nc rfl) ?_
  refine g_ev (e_fa Try.underlying58 rfl rfl Try.sizeOf34) ?_
  refine g_ev (e_fa Try.underlying34 rfl rfl Try.sizeOf3) ?_
  refine g_ev (e_ld Try.underlying3 rfl (by repeat ((conv => arg 2; whnf); first | with_reducible exact .here | ((with_reducible refine Del.hereC ?_); rfl) | ((with_reducible refine Del.hereS ?_ ?_ ?_) <;> rfl) | exact .here | apply Del.there)) rfl) ?_
  refine g_ev (e_eq rfl rfl) ?_
  refine g_nil ?_
  first | refine gc_dec rfl (fun c14 => ?_) (fun c14 => ?_) | refine gc_ndec rfl (fun c14 => ?_) (fun c14 => ?_) | refine gc_cond rfl (fun c14 => ?_) (fun c14 => ?_)
  · skip
    refine gc_seq ?_
    refine gc_region ?_
    refine g_ev (e_mv) ?_
    refine g_ev (e_ldA Try.underlying43 rfl (by repeat ((conv => arg 2; whnf); first | with_reducible exact .here | ((with_reducible refine Del.hereC ?_); rfl) | ((with_reducible refine Del.hereS ?_ ?_ ?_) <;> rfl) | exact .here | apply Del.there)) Try.sizeOf43 (by first | exact Nat.le_of_ble_eq_true rfl | simp)) ?_
    refine g_eff (s_call (rule_t (at_ := (D.at_ : Int)) f hr hf.1 hf.2 hok) (.cons (by repeat ((conv => arg 2; whnf); first | with_reducible exact .here | ((with_reducible refine Del.hereC ?_); rfl) | ((with_reducible refine Del.hereS ?_ ?_ ?_) <;> rfl) | exact .here | apply Del.there)) (.cons (by repeat ((conv => arg 2; whnf); first | with_reducible exact .here | ((with_reducible refine Del.hereC ?_); rfl) | ((with_reducible refine Del.hereS ?_ ?_ ?_) <;> rfl) | exact .here | apply Del.there)) (.cons (by repeat ((conv => arg 2; whnf); first | with_reducible exact .here | ((with_reducible refine Del.hereC ?_); rfl) | ((with_reducible refine Del.hereS ?_ ?_ ?_) <;> rfl) | exact .here | apply Del.there)) (.cons (by repeat ((conv => arg 2; whnf); first | with_reducible exact .here | ((with_reducible refine Del.hereC ?_); rfl) | ((with_reducible refine Del.hereS ?_ ?_ ?_) <;> rfl) | exact .here | apply Del.there)) (.nil)))))) ?_
    rintro _ _ ⟨_, ⟨va, vc, rfl, rfl⟩, rfl⟩
    refine g_ev (e_as) ?_
    refine g_nil ?_
    refine gc_seq ?_
    refine gc_region ?_
    refine g_ev (e_mv) ?_
    refine g_ev (e_ne rfl rfl) ?_
    refine g_nil ?_
    first | refine gc_dec rfl (fun c19 => ?_) (fun c19 => ?_) | refine gc_ndec rfl (fun c19 => ?_) (fun c19 => ?_) | refine gc_cond rfl (fun c19 => ?_) (fun c19 => ?_)
    · skip
      refine gc_region ?_
      refine g_ev (e_mv) ?_
      refine g_ev (e_mv) ?_
      refine g_ev (e_mv) ?_
      refine g_ev (e_nc rfl) ?_
      refine g_ev (e_fa Try.underlying58 rfl rfl Try.sizeOf3) ?_
      refine g_ev (e_ld Try.underlying3 rfl (by repeat ((conv => arg 2; whnf); first | with_reducible exact .here | ((with_reducible refine Del.hereC ?_); rfl) | ((with_reducible refine Del.hereS ?_ ?_ ?_) <;> rfl) | exact .here | apply Del.there)) rfl) ?_
      refine g_ev ((e_bd Try.underlying34 Try.zeroValue34 pl34 rfl).to (v' := .agg ⟨[.int .i64 (ruleJ ls f va vc).1, .int .i64 (D.at_ : Int)]⟩) rfl) ?_
      refine g_ev (e_nc rfl) ?_
      refine g_ev (e_fa Try.underlying58 rfl rfl Try.sizeOf34) ?_
      refine g_eff (s_stA Try.sizeOf34 rfl rfl (by repeat ((conv => arg 3; whnf); first | with_reducible exact .here | apply Turn.there))) ?_
      rintro _ _ ⟨rfl, rfl⟩
      refine g_nil ?_
      refine gc_seq ?_
      refine gc_region ?_
      refine g_ev (e_mv) ?_
      refine g_ev (e_nc rfl) ?_
      refine g_ev (e_fa Try.underlying58 rfl rfl Try.sizeOf3) ?_
      refine g_ev (e_ld Try.underlying3 rfl (by repeat ((conv => arg 2; whnf); first | with_reducible exact .here | ((with_reducible refine Del.hereC ?_); rfl) | ((with_reducible refine Del.hereS ?_ ?_ ?_) <;> rfl) | exact .here | apply Del.there)) rfl) ?_
      refine g_ev ((e_addw rfl rfl).to (v' := .int .i64 ((D.at_ + 1 : Nat) : Int)) (congrArg _ (wrapN (by omega) (by omega)))) ?_
      refine g_ev (e_nc rfl) ?_
      refine g_ev (e_fa Try.underlying58 rfl rfl Try.sizeOf3) ?_
      refine g_eff (s_st Try.sizeOf3 rfl (by repeat ((conv => arg 3; whnf); first | with_reducible exact .here | apply Turn.there))) ?_
      rintro _ _ ⟨rfl, rfl⟩
      refine g_nil ?_
      refine gc_seq ?_
      refine gc_region ?_
      refine g_ev (e_mv) ?_
      refine g_ev (e_nc rfl) ?_
      refine g_ev (e_fa Try.underlying58 rfl rfl Try.sizeOf34) ?_
      refine g_ev (e_ldA Try.underlying34 rfl (by repeat ((conv => arg 2; whnf); first | with_reducible exact .here | ((with_reducible refine Del.hereC ?_); rfl) | ((with_reducible refine Del.hereS ?_ ?_ ?_) <;> rfl) | exact .here | apply Del.there)) Try.sizeOf34 (by first | exact Nat.le_of_ble_eq_true rfl | simp)) ?_
      refine g_eff (s_stA Try.sizeOf34 rfl rfl (by repeat ((conv => arg 3; whnf); first | with_reducible exact .here | apply Turn.there))) ?_
      rintro _ _ ⟨rfl, rfl⟩
      refine g_nil ?_
      refine gc_ret ?_
      have h1 := ruleJ_abs hls f va vc
      have h2 := ruleJ_ok hok f va vc
      have h3 := ruleJ_len ls f va vc
      have hD : D.see f = ⟨(ruleA D.ls f).2, D.at_ + 1, (ruleJ ls f va vc).1, D.at_⟩ := by unfold JudD.see; rw [if_pos (show D.r = 0 from c14), if_neg (h1.1 ▸ c19), h1.1]
      exact retc (L1 := [jud bj (D.see f), A]) rfl (by (conv => lhs; whnf)) Try.underlying34 (by repeat ((conv => arg 2; whnf); first | with_reducible exact .here | ((with_reducible refine Del.hereC ?_); rfl) | ((with_reducible refine Del.hereS ?_ ?_ ?_) <;> rfl) | exact .here | apply Del.there)) Try.sizeOf34 rfl rfl ⟨(by rw [hD]; rfl), rfl⟩ (fun _ h => h.fin (.fold (M := [blk bj 58 [.slice la ls.length lc, .int .i64 (D.at_ + 1 : Nat), .int .i64 (ruleJ ls f va vc).1, .int .i64 (D.at_ : Int)], sown 64 22 (.slice la ls.length lc) ls.length (lcells (ruleJ ls f va vc).2), ownLs (ruleJ ls f va vc).2]) (jud_fold (by rw [hD]; exact h1.2) h2 h3 (by rw [hD]) (by rw [hD]) (by rw [hD])) (by repeat ((conv => arg 1; whnf); (conv => arg 2; whnf); first | with_reducible exact .done | exact Fin.all _ | refine .cons (by repeat ((conv => arg 2; whnf); first | with_reducible exact .here | ((with_reducible refine Del.hereC ?_); rfl) | ((with_reducible refine Del.hereS ?_ ?_ ?_) <;> rfl) | exact .here | apply Del.there)) ?_ | refine .drop ?_))))
    · skip
      refine gc_skip ?_
      refine gc_seq ?_
      refine gc_region ?_
      refine g_ev (e_mv) ?_
      refine g_ev (e_nc rfl) ?_
      refine g_ev (e_fa Try.underlying58 rfl rfl Try.sizeOf3) ?_
      refine g_ev (e_ld Try.underlying3 rfl (by repeat ((conv => arg 2; whnf); first | with_reducible exact .here | ((with_reducible refine Del.hereC ?_); rfl) | ((with_reducible refine Del.hereS ?_ ?_ ?_) <;> rfl) | exact .here | apply Del.there)) rfl) ?_
      refine g_ev ((e_addw rfl rfl).to (v' := .int .i64 ((D.at_ + 1 : Nat) : Int)) (congrArg _ (wrapN (by omega) (by omega)))) ?_
      refine g_ev (e_nc rfl) ?_
      refine g_ev (e_fa Try.underlying58 rfl rfl Try.sizeOf3) ?_
      refine g_eff (s_st Try.sizeOf3 rfl (by repeat ((conv => arg 3; whnf); first | with_reducible exact .here | apply Turn.there))) ?_
      rintro _ _ ⟨rfl, rfl⟩
      refine g_nil ?_
      refine gc_seq ?_
      refine gc_region ?_
      refine g_ev (e_mv) ?_
      refine g_ev (e_nc rfl) ?_
      refine g_ev (e_fa Try.underlying58 rfl rfl Try.sizeOf34) ?_
      refine g_ev (e_ldA Try.underlying34 rfl (by repeat ((conv => arg 2; whnf); first | with_reducible exact .here | ((with_reducible refine Del.hereC ?_); rfl) | ((with_reducible refine Del.hereS ?_ ?_ ?_) <;> rfl) | exact .here | apply Del.there)) Try.sizeOf34 (by first | exact Nat.le_of_ble_eq_true rfl | simp)) ?_
      refine g_eff (s_stA Try.sizeOf34 rfl rfl (by repeat ((conv => arg 3; whnf); first | with_reducible exact .here | apply Turn.there))) ?_
      rintro _ _ ⟨rfl, rfl⟩
      refine g_nil ?_
      refine gc_ret ?_
      have h1 := ruleJ_abs hls f va vc
      have h2 := ruleJ_ok hok f va vc
      have h3 := ruleJ_len ls f va vc
      have h4 : (ruleJ ls f va vc).1 = 0 := by simpa using c19
      have hD : D.see f = ⟨(ruleA D.ls f).2, D.at_ + 1, D.r, D.ra⟩ := by unfold JudD.see; rw [if_pos (show D.r = 0 from c14), if_pos (h1.1 ▸ h4)]
      exact retc (L1 := [jud bj (D.see f), A]) rfl (by (conv => lhs; whnf)) Try.underlying34 (by repeat ((conv => arg 2; whnf); first | with_reducible exact .here | ((with_reducible refine Del.hereC ?_); rfl) | ((with_reducible refine Del.hereS ?_ ?_ ?_) <;> rfl) | exact .here | apply Del.there)) Try.sizeOf34 rfl rfl ⟨(by rw [hD]; rfl), rfl⟩ (fun _ h => h.fin (.fold (M := [blk bj 58 [.slice la ls.length lc, .int .i64 (D.at_ + 1 : Nat), .int .i64 D.r, .int .i64 D.ra], sown 64 22 (.slice la ls.length lc) ls.length (lcells (ruleJ ls f va vc).2), ownLs (ruleJ ls f va vc).2]) (jud_fold (by rw [hD]; exact h1.2) h2 h3 (by rw [hD]) (by rw [hD]) (by rw [hD])) (by repeat ((conv => arg 1; whnf); (conv => arg 2; whnf); first | with_reducible exact .done | exact Fin.all _ | refine .cons (by repeat ((conv => arg 2; whnf); first | with_reducible exact .here | ((with_reducible refine Del.hereC ?_); rfl) | ((with_reducible refine Del.hereS ?_ ?_ ?_) <;> rfl) | exact .here | apply Del.there)) ?_ | refine .drop ?_))))
  · skip
    refine gc_skip ?_
    refine gc_seq ?_
    refine gc_region ?_
    refine g_ev (e_mv) ?_
    refine g_ev (e_nc rfl) ?_
    refine g_ev (e_fa Try.underlying58 rfl rfl Try.sizeOf3) ?_
    refine g_ev (e_ld Try.underlying3 rfl (by repeat ((conv => arg 2; whnf); first | with_reducible exact .here | ((with_reducible refine Del.hereC ?_); rfl) | ((with_reducible refine Del.hereS ?_ ?_ ?_) <;> rfl) | exact .here | apply Del.there)) rfl) ?_
    refine g_ev ((e_addw rfl rfl).to (v' := .int .i64 ((D.at_ + 1 : Nat) : Int)) (congrArg _ (wrapN (by omega) (by omega)))) ?_
    refine g_ev (e_nc rfl) ?_
    refine g_ev (e_fa Try.underlying58 rfl rfl Try.sizeOf3) ?_
    refine g_eff (s_st Try.sizeOf3 rfl (by repeat ((conv => arg 3; whnf); first | with_reducible exact .here | apply Turn.there))) ?_
    rintro _ _ ⟨rfl, rfl⟩
    refine g_nil ?_
    refine gc_seq ?_
    refine gc_region ?_
    refine g_ev (e_mv) ?_
    refine g_ev (e_nc rfl) ?_
    refine g_ev (e_fa Try.underlying58 rfl rfl Try.sizeOf34) ?_
    refine g_ev (e_ldA Try.underlying34 rfl (by repeat ((conv => arg 2; whnf); first | with_reducible exact .here | ((with_reducible refine Del.hereC ?_); rfl) | ((with_reducible refine Del.hereS ?_ ?_ ?_) <;> rfl) | exact .here | apply Del.there)) Try.sizeOf34 (by first | exact Nat.le_of_ble_eq_true rfl | simp)) ?_
    refine g_eff (s_stA Try.sizeOf34 rfl rfl (by repeat ((conv => arg 3; whnf); first | with_reducible exact .here | apply Turn.there))) ?_
    rintro _ _ ⟨rfl, rfl⟩
    refine g_nil ?_
    refine gc_ret ?_
    have hD : D.see f = ⟨D.ls, D.at_ + 1, D.r, D.ra⟩ := by unfold JudD.see; rw [if_neg (show ¬ D.r = 0 from c14)]
    exact retc (L1 := [jud bj (D.see f), A]) rfl (by (conv => lhs; whnf)) Try.underlying34 (by repeat ((conv => arg 2; whnf); first | with_reducible exact .here | ((with_reducible refine Del.hereC ?_); rfl) | ((with_reducible refine Del.hereS ?_ ?_ ?_) <;> rfl) | exact .here | apply Del.there)) Try.sizeOf34 rfl rfl ⟨(by rw [hD]; rfl), rfl⟩ (fun _ h => h.fin (.fold (M := [blk bj 58 [.slice la ls.length lc, .int .i64 (D.at_ + 1 : Nat), .int .i64 D.r, .int .i64 D.ra], sown 64 22 (.slice la ls.length lc) ls.length (lcells ls), ownLs ls]) (jud_fold (by rw [hD]; exact hls) hok rfl (by rw [hD]) (by rw [hD]) (by rw [hD])) (by repeat ((conv => arg 1; whnf); (conv => arg 2; whnf); first | with_reducible exact .done | exact Fin.all _ | refine .cons (by repeat ((conv => arg 2; whnf); first | with_reducible exact .here | ((with_reducible refine Del.hereC ?_); rfl) | ((with_reducible refine Del.hereS ?_ ?_ ?_) <;> rfl) | exact .here | apply Del.there)) ?_ | refine .drop ?_))))

theorem see_nil (cs : List Value) : Tri Try.prog 13 #[.pointer none, .agg ⟨cs⟩] [] (isR (.agg ⟨[.int .i64 0, .int .i64 0]⟩) []) := by
  refine tri_of Try.call13 Try.func13 rfl fun B F => ?_
  refine gc_seq ?_
  refine gc_region ?_
  refine g_eff (s_bx) ?_
  rintro _ _ ⟨b3, rfl, rfl⟩
  refine g_eff (s_al Try.zeroValue34) ?_
  rintro _ _ ⟨b4, rfl, rfl⟩
  refine g_nil ?_
  refine gc_seq ?_
  refine gc_seq ?_
  refine gc_region ?_
  refine g_ev (e_mv) ?_
  refine g_ev (e_eqp Try.underlying28 rfl rfl) ?_
  refine g_nil ?_
  refine gc_true ?_
  refine gc_seq ?_
  refine gc_region ?_
  refine g_ev ((e_bd Try.underlying34 Try.zeroValue34 pl34 rfl).to (v' := .agg ⟨[.int .i64 0, .int .i64 0]⟩) rfl) ?_
  refine g_eff (s_stA Try.sizeOf34 rfl rfl (by repeat ((conv => arg 3; whnf); first | with_reducible exact .here | apply Turn.there))) ?_
  rintro _ _ ⟨rfl, rfl⟩
  refine g_nil ?_
  refine gc_ret ?_
  exact retc (L1 := []) rfl (by (conv => lhs; whnf)) Try.underlying34 (by repeat ((conv => arg 2; whnf); first | with_reducible exact .here | ((with_reducible refine Del.hereC ?_); rfl) | ((with_reducible refine Del.hereS ?_ ?_ ?_) <;> rfl) | exact .here | apply Del.there)) Try.sizeOf34 rfl rfl ⟨rfl, rfl⟩ (fun _ h => h.fin (by repeat ((conv => arg 1; whnf); (conv => arg 2; whnf); first | with_reducible exact .done | exact Fin.all _ | refine .cons (by repeat ((conv => arg 2; whnf); first | with_reducible exact .here | ((with_reducible refine Del.hereC ?_); rfl) | ((with_reducible refine Del.hereS ?_ ?_ ?_) <;> rfl) | exact .here | apply Del.there)) ?_ | refine .drop ?_)))

theorem verdict_nil  : Tri Try.prog 11 #[.pointer none] [] (isR (.agg ⟨[.int .i64 0, .int .i64 0]⟩) []) := by
  refine tri_of Try.call11 Try.func11 rfl fun B F => ?_
  refine gc_seq ?_
  refine gc_region ?_
  refine g_eff (s_al Try.zeroValue34) ?_
  rintro _ _ ⟨b2, rfl, rfl⟩
  refine g_nil ?_
  refine gc_seq ?_
  refine gc_seq ?_
  refine gc_region ?_
  refine g_ev (e_mv) ?_
  refine g_ev (e_eqp Try.underlying28 rfl rfl) ?_
  refine g_nil ?_
  refine gc_true ?_
  refine gc_seq ?_
  refine gc_region ?_
  refine g_ev ((e_bd Try.underlying34 Try.zeroValue34 pl34 rfl).to (v' := .agg ⟨[.int .i64 0, .int .i64 0]⟩) rfl) ?_
  refine g_eff (s_stA Try.sizeOf34 rfl rfl (by repeat ((conv => arg 3; whnf); first | with_reducible exact .here | apply Turn.there))) ?_
  rintro _ _ ⟨rfl, rfl⟩
  refine g_nil ?_
  refine gc_ret ?_
  exact retc (L1 := []) rfl (by (conv => lhs; whnf)) Try.underlying34 (by repeat ((conv => arg 2; whnf); first | with_reducible exact .here | ((with_reducible refine Del.hereC ?_); rfl) | ((with_reducible refine Del.hereS ?_ ?_ ?_) <;> rfl) | exact .here | apply Del.there)) Try.sizeOf34 rfl rfl ⟨rfl, rfl⟩ (fun _ h => h.fin (by repeat ((conv => arg 1; whnf); (conv => arg 2; whnf); first | with_reducible exact .done | exact Fin.all _ | refine .cons (by repeat ((conv => arg 2; whnf); first | with_reducible exact .here | ((with_reducible refine Del.hereC ?_); rfl) | ((with_reducible refine Del.hereS ?_ ?_ ?_) <;> rfl) | exact .here | apply Del.there)) ?_ | refine .drop ?_)))

theorem verdict_t {bj : Nat} (D : JudD) : Tri Try.prog 11 #[.pointer (some ⟨bj, 0, none⟩)] [jud bj D] (isR (.agg ⟨[.int .i64 D.r, .int .i64 D.ra]⟩) [jud bj D]) := by
  refine tri_of Try.call11 Try.func11 rfl fun B F => ?_
  refine gc_jud .here fun ls la lc hls hok => ?_
  refine gc_seq ?_
  refine gc_region ?_
  refine g_eff (s_al Try.zeroValue34) ?_
  rintro _ _ ⟨b2, rfl, rfl⟩
  refine g_nil ?_
  refine gc_seq ?_
  refine gc_seq ?_
  refine gc_region ?_
  refine g_ev (e_mv) ?_
  refine g_ev (e_eqp Try.underlying28 rfl rfl) ?_
  refine g_nil ?_
  refine gc_false ?_
  refine gc_skip ?_
  refine gc_seq ?_
  refine gc_region ?_
  refine g_ev (e_mv) ?_
  refine g_ev (e_nc rfl) ?_
  refine g_ev (e_fa Try.underlying58 rfl rfl Try.sizeOf34) ?_
  refine g_ev (e_ldA Try.underlying34 rfl (by repeat ((conv => arg 2; whnf); first | with_reducible exact .here | ((with_reducible refine Del.hereC ?_); rfl) | ((with_reducible refine Del.hereS ?_ ?_ ?_) <;> rfl) | exact .here | apply Del.there)) Try.sizeOf34 (by first | exact Nat.le_of_ble_eq_true rfl | simp)) ?_
  refine g_eff (s_stA Try.sizeOf34 rfl rfl (by repeat ((conv => arg 3; whnf); first | with_reducible exact .here | apply Turn.there))) ?_
  rintro _ _ ⟨rfl, rfl⟩
  refine g_nil ?_
  refine gc_ret ?_
  exact retc (L1 := [jud bj D]) rfl (by (conv => lhs; whnf)) Try.underlying34 (by repeat ((conv => arg 2; whnf); first | with_reducible exact .here | ((with_reducible refine Del.hereC ?_); rfl) | ((with_reducible refine Del.hereS ?_ ?_ ?_) <;> rfl) | exact .here | apply Del.there)) Try.sizeOf34 rfl rfl ⟨rfl, rfl⟩ (fun _ h => h.fin (.fold (M := [blk bj 58 [.slice la ls.length lc, .int .i64 D.at_, .int .i64 D.r, .int .i64 D.ra], sown 64 22 (.slice la ls.length lc) ls.length (lcells ls), ownLs ls]) (jud_fold hls hok rfl rfl rfl rfl) (by repeat ((conv => arg 1; whnf); (conv => arg 2; whnf); first | with_reducible exact .done | exact Fin.all _ | refine .cons (by repeat ((conv => arg 2; whnf); first | with_reducible exact .here | ((with_reducible refine Del.hereC ?_); rfl) | ((with_reducible refine Del.hereS ?_ ?_ ?_) <;> rfl) | exact .here | apply Del.there)) ?_ | refine .drop ?_))))

theorem small_t  : Tri Try.prog 20 #[] [] (isR (.agg ⟨[.int .u32 7, .int .i64 2, .int .i64 1, .int .i64 10, .int .u32 9]⟩) []) := by
  refine tri_of Try.call20 Try.func20 rfl fun B F => ?_
  refine gc_seq ?_
  refine gc_region ?_
  refine g_eff (s_al Try.zeroValue66) ?_
  rintro _ _ ⟨b0, rfl, rfl⟩
  refine g_nil ?_
  refine gc_seq ?_
  refine gc_region ?_
  refine g_ev ((e_bd Try.underlying66 Try.zeroValue66 pl66 rfl).to (v' := .agg ⟨[.int .u32 7, .int .i64 2, .int .i64 1, .int .i64 10, .int .u32 9]⟩) rfl) ?_
  refine g_eff (s_stA Try.sizeOf66 rfl rfl (by repeat ((conv => arg 3; whnf); first | with_reducible exact .here | apply Turn.there))) ?_
  rintro _ _ ⟨rfl, rfl⟩
  refine g_nil ?_
  refine gc_ret ?_
  exact retc (L1 := []) rfl (by (conv => lhs; whnf)) Try.underlying66 (by repeat ((conv => arg 2; whnf); first | with_reducible exact .here | ((with_reducible refine Del.hereC ?_); rfl) | ((with_reducible refine Del.hereS ?_ ?_ ?_) <;> rfl) | exact .here | apply Del.there)) Try.sizeOf66 rfl rfl ⟨rfl, rfl⟩ (fun _ h => h.fin (by repeat ((conv => arg 1; whnf); (conv => arg 2; whnf); first | with_reducible exact .done | exact Fin.all _ | refine .cons (by repeat ((conv => arg 2; whnf); first | with_reducible exact .here | ((with_reducible refine Del.hereC ?_); rfl) | ((with_reducible refine Del.hereS ?_ ?_ ?_) <;> rfl) | exact .here | apply Del.there)) ?_ | refine .drop ?_)))


theorem rdsW_of {w : World} {b e : Nat} {cs : List Value} {ws : List Int} (h : w.heap[b]? = some (.cells ⟨cs⟩ e (0, 0))) (hc : ∀ i x, ws[i]? = some x → cs[i * 5 + 3]? = some (.int .i64 x)) : RdsW w (some ⟨b, 0, none⟩) ws :=
  ⟨fun h => (by cases h), fun ad had i x hx => by cases had; rw [add_lit, add_lit, cell_blk h, Nat.zero_add]; exact hc i x hx⟩
theorem net_two {b1 b2 c1 c2 mx : Nat} {hs ds : List Int} {cs1 cs2 : List Value} (h1 : ∀ i x, hs[i]? = some x → cs1[i * 5 + 3]? = some (.int .i64 x)) (h2 : ∀ i x, ds[i]? = some x → cs2[i * 5 + 3]? = some (.int .i64 x)) :
    IsNet (allP [blk b1 66 cs1, blk b2 66 cs2]) (.agg ⟨[.slice (some ⟨b1, 0, none⟩) hs.length c1, .slice (some ⟨b2, 0, none⟩) ds.length c2, .int .u32 mx]⟩) hs ds :=
  ⟨_, _, _, _, _, rfl, fun B w s => by
    have s2 := Sat.unpack (F := []) s
    exact ⟨rdsW_of (s2.read .here) h1, rdsW_of (s2.read (.there .here)) h2⟩⟩
theorem own_net {n cap : Nat} {a : Option Addr} {xs : List Value} {ws : List Int} {B w : World} {L L' : List HProp} (hn : n = ws.length) (h : Sat B w L) (hd : Del (sown 66 5 (.slice a n cap) n xs) L L') (hx : ∀ i x, ws[i]? = some x → xs[i * 5 + 3]? = some (.int .i64 x)) : RdsW w a ws := by
  obtain ⟨_, a', c', h1, h2, h3⟩ := h.rds hd
  cases h1
  refine ⟨fun ha => List.eq_nil_of_length_eq_zero (by rw [← hn]; exact (h2 ha).1), fun ad had i x hi => ?_⟩
  have := h3 ad had _ _ (hx i x hi)
  have e : ad.add (i * 5 + 3) = (ad.add (i * 5)).add 3 := (Addr.add_add ad _ _).symm
  rw [← e]; exact this

theorem lone_t  : Tri Try.prog 17 #[] [] (fun v L => ∃ N, L = [N] ∧ IsNet N v [10] [10]) := by
  refine tri_of Try.call17 Try.func17 rfl fun B F => ?_
  refine gc_seq ?_
  refine gc_region ?_
  refine g_eff (s_al Try.zeroValue25) ?_
  rintro _ _ ⟨b0, rfl, rfl⟩
  refine g_nil ?_
  refine gc_seq ?_
  refine gc_region ?_
  refine g_eff (s_call (small_t) .nil) ?_
  rintro _ _ ⟨_, ⟨rfl, rfl⟩, rfl⟩
  refine g_eff (s_al Try.zeroValue66) ?_
  rintro _ _ ⟨b1, rfl, rfl⟩
  refine g_eff (s_stA Try.sizeOf66 rfl rfl (by repeat ((conv => arg 3; whnf); first | with_reducible exact .here | apply Turn.there))) ?_
  rintro _ _ ⟨rfl, rfl⟩
  refine g_nil ?_
  refine gc_seq ?_
  refine gc_region ?_
  refine g_ev (e_ldA Try.underlying66 rfl (by repeat ((conv => arg 2; whnf); first | with_reducible exact .here | ((with_reducible refine Del.hereC ?_); rfl) | ((with_reducible refine Del.hereS ?_ ?_ ?_) <;> rfl) | exact .here | apply Del.there)) Try.sizeOf66 (by simp)) ?_
  refine g_eff (s_bs Try.underlying22 Try.sizeOf66 Try.zeroValue66 rfl) ?_
  rintro _ _ ⟨b4, rfl, rfl⟩
  refine g_ev (e_ldA Try.underlying66 rfl (by repeat ((conv => arg 2; whnf); first | with_reducible exact .here | ((with_reducible refine Del.hereC ?_); rfl) | ((with_reducible refine Del.hereS ?_ ?_ ?_) <;> rfl) | exact .here | apply Del.there)) Try.sizeOf66 (by simp)) ?_
  refine g_eff (s_bs Try.underlying22 Try.sizeOf66 Try.zeroValue66 rfl) ?_
  rintro _ _ ⟨b6, rfl, rfl⟩
  refine g_ev ((e_bd Try.underlying25 Try.zeroValue25 pl25 rfl).to (v' := .agg ⟨[.slice (some ⟨b4, 0, none⟩) 1 1, .slice (some ⟨b6, 0, none⟩) 1 1, .int .u32 50]⟩) rfl) ?_
  refine g_eff (s_stA Try.sizeOf25 rfl rfl (by repeat ((conv => arg 3; whnf); first | with_reducible exact .here | apply Turn.there))) ?_
  rintro _ _ ⟨rfl, rfl⟩
  refine g_nil ?_
  refine gc_ret ?_
  exact retc (L1 := [allP [blk b4 66 [.int .u32 7, .int .i64 2, .int .i64 1, .int .i64 10, .int .u32 9], blk b6 66 [.int .u32 7, .int .i64 2, .int .i64 1, .int .i64 10, .int .u32 9]]]) rfl (by (conv => lhs; whnf)) Try.underlying25 (by repeat ((conv => arg 2; whnf); first | with_reducible exact .here | ((with_reducible refine Del.hereC ?_); rfl) | ((with_reducible refine Del.hereS ?_ ?_ ?_) <;> rfl) | exact .here | apply Del.there)) Try.sizeOf25 rfl rfl ⟨_, rfl, net_two (hs := [10]) (ds := [10]) (by intro i x h; match i, h with | 0, h => (cases h; rfl)) (by intro i x h; match i, h with | 0, h => (cases h; rfl))⟩ (fun w h => (Sat.pack (M := [blk b4 66 [.int .u32 7, .int .i64 2, .int .i64 1, .int .i64 10, .int .u32 9], blk b6 66 [.int .u32 7, .int .i64 2, .int .i64 1, .int .i64 10, .int .u32 9]]) (F := F) (h.fin (L1 := [blk b4 66 [.int .u32 7, .int .i64 2, .int .i64 1, .int .i64 10, .int .u32 9], blk b6 66 [.int .u32 7, .int .i64 2, .int .i64 1, .int .i64 10, .int .u32 9]]) (F := F) (by repeat ((conv => arg 1; whnf); (conv => arg 2; whnf); first | with_reducible exact .done | exact Fin.all _ | refine .cons (by repeat ((conv => arg 2; whnf); first | with_reducible exact .here | ((with_reducible refine Del.hereC ?_); rfl) | ((with_reducible refine Del.hereS ?_ ?_ ?_) <;> rfl) | exact .here | apply Del.there)) ?_ | refine .drop ?_)))))


theorem info66 : Try.prog.info? 66 = some Try.t66 := by kernel_rfl
theorem info64 : Try.prog.info? 64 = some Try.t64 := by kernel_rfl

set_option maxHeartbeats 1000000 in
theorem pair1_t  : Tri Try.prog 16 #[.int .i64 1] [] (fun v L => ∃ N, L = [N] ∧ IsNet N v [10, 11] [10, 11]) := by
  refine tri_of Try.call16 Try.func16 rfl fun B F => ?_
  refine gc_seq ?_
  refine gc_region ?_
  refine g_eff (s_al Try.zeroValue25) ?_
  rintro _ _ ⟨b2, rfl, rfl⟩
  refine g_nil ?_
  refine gc_seq ?_
  refine gc_region ?_
  refine g_ev ((e_bd Try.underlying25 Try.zeroValue25 pl25 rfl).to (v' := .agg ⟨[.slice none 0 0, .slice none 0 0, .int .u32 50]⟩) rfl) ?_
  refine g_eff (s_al Try.zeroValue25) ?_
  rintro _ _ ⟨b3, rfl, rfl⟩
  refine g_eff (s_stA Try.sizeOf25 rfl rfl (by repeat ((conv => arg 3; whnf); first | with_reducible exact .here | apply Turn.there))) ?_
  rintro _ _ ⟨rfl, rfl⟩
  refine g_nil ?_
  refine gc_seq ?_
  refine gc_seq ?_
  refine gc_region ?_
  refine g_ev (e_as) ?_
  refine g_nil ?_
  refine gc_block ?_
  refine gl_start ?_
  refine gl_round ?_
  refine gc_seq ?_
  refine gc_seq ?_
  refine gc_region ?_
  refine g_ev (e_mv) ?_
  refine g_ev (e_mv) ?_
  refine g_ev (e_cv Try.underlying3 Try.underlying51 rfl) ?_
  refine g_ev (e_rem rfl rfl (by decide)) ?_
  refine g_ev (e_cv Try.underlying51 Try.underlying3 rfl) ?_
  refine g_ev (e_le rfl rfl) ?_
  refine g_nil ?_
  refine gc_true ?_ (hc := by first | ((conv => lhs; whnf); done) | ((conv => lhs; whnf); rfl))
  refine gc_skip ?_
  refine gc_seq ?_
  refine gc_block ?_
  refine gc_seq ?_
  refine gc_region ?_
  refine g_eff (s_call (small_t) .nil) ?_
  rintro _ _ ⟨_, ⟨rfl, rfl⟩, rfl⟩
  refine g_eff (s_al Try.zeroValue66) ?_
  rintro _ _ ⟨b5, rfl, rfl⟩
  refine g_eff (s_stA Try.sizeOf66 rfl rfl (by repeat ((conv => arg 3; whnf); first | with_reducible exact .here | apply Turn.there))) ?_
  rintro _ _ ⟨rfl, rfl⟩
  refine g_nil ?_
  refine gc_seq ?_
  refine gc_region ?_
  refine g_ev (e_mv) ?_
  refine g_ev (e_addw rfl rfl) ?_
  refine g_ev (e_cv Try.underlying3 Try.underlying23 rfl) ?_
  refine g_ev (e_fa Try.underlying66 rfl rfl Try.sizeOf23) ?_
  refine g_eff (s_st Try.sizeOf23 rfl (by repeat ((conv => arg 3; whnf); first | with_reducible exact .here | apply Turn.there))) ?_
  rintro _ _ ⟨rfl, rfl⟩
  refine g_nil ?_
  refine gc_seq ?_
  refine gc_region ?_
  refine g_ev (e_mv) ?_
  refine g_ev (e_addw rfl rfl) ?_
  refine g_ev (e_fa Try.underlying66 rfl rfl Try.sizeOf3) ?_
  refine g_eff (s_st Try.sizeOf3 rfl (by repeat ((conv => arg 3; whnf); first | with_reducible exact .here | apply Turn.there))) ?_
  rintro _ _ ⟨rfl, rfl⟩
  refine g_nil ?_
  refine gc_seq ?_
  refine gc_region ?_
  refine g_ev (e_fa Try.underlying25 rfl rfl Try.sizeOf22) ?_
  refine g_ev (e_ld Try.underlying22 rfl (by repeat ((conv => arg 2; whnf); first | with_reducible exact .here | ((with_reducible refine Del.hereC ?_); rfl) | ((with_reducible refine Del.hereS ?_ ?_ ?_) <;> rfl) | exact .here | apply Del.there)) rfl) ?_
  refine g_ev (e_ldA Try.underlying66 rfl (by repeat ((conv => arg 2; whnf); first | with_reducible exact .here | ((with_reducible refine Del.hereC ?_); rfl) | ((with_reducible refine Del.hereS ?_ ?_ ?_) <;> rfl) | exact .here | apply Del.there)) Try.sizeOf66 (by simp)) ?_
  refine g_eff (s_bs (cs := [.int .u32 7, .int .i64 2, .int .i64 1, .int .i64 10, .int .u32 9]) Try.underlying22 Try.sizeOf66 Try.zeroValue66 rfl) ?_
  rintro _ _ ⟨b8_0, rfl, rfl⟩
  refine g_eff (s_apn (bytes := 40) (k := 5) Try.underlying22 info66 rfl rfl rfl rfl (by decide) rfl rfl (fun B w h => h.rdsk0 (by repeat ((conv => arg 2; whnf); first | with_reducible exact .here | ((with_reducible refine Del.hereC ?_); rfl) | ((with_reducible refine Del.hereS ?_ ?_ ?_) <;> rfl) | exact .here | apply Del.there)) rfl) (by simp [Value.oneCell']) (by decide) (by decide)) ?_
  rintro _ _ ⟨a8_0, c8_0, rfl, rfl, hn8_0⟩
  refine g_ev (e_fa Try.underlying25 rfl rfl Try.sizeOf22) ?_
  refine g_eff (s_st Try.sizeOf22 rfl (by repeat ((conv => arg 3; whnf); first | with_reducible exact .here | apply Turn.there))) ?_
  rintro _ _ ⟨rfl, rfl⟩
  refine g_nil ?_
  refine gc_region ?_
  refine g_ev (e_fa Try.underlying25 rfl rfl Try.sizeOf22) ?_
  refine g_ev (e_ld Try.underlying22 rfl (by repeat ((conv => arg 2; whnf); first | with_reducible exact .here | ((with_reducible refine Del.hereC ?_); rfl) | ((with_reducible refine Del.hereS ?_ ?_ ?_) <;> rfl) | exact .here | apply Del.there)) rfl) ?_
  refine g_ev (e_ldA Try.underlying66 rfl (by repeat ((conv => arg 2; whnf); first | with_reducible exact .here | ((with_reducible refine Del.hereC ?_); rfl) | ((with_reducible refine Del.hereS ?_ ?_ ?_) <;> rfl) | exact .here | apply Del.there)) Try.sizeOf66 (by simp)) ?_
  refine g_eff (s_bs (cs := [.int .u32 7, .int .i64 2, .int .i64 1, .int .i64 10, .int .u32 9]) Try.underlying22 Try.sizeOf66 Try.zeroValue66 rfl) ?_
  rintro _ _ ⟨b9_0, rfl, rfl⟩
  refine g_eff (s_apn (bytes := 40) (k := 5) Try.underlying22 info66 rfl rfl rfl rfl (by decide) rfl rfl (fun B w h => h.rdsk0 (by repeat ((conv => arg 2; whnf); first | with_reducible exact .here | ((with_reducible refine Del.hereC ?_); rfl) | ((with_reducible refine Del.hereS ?_ ?_ ?_) <;> rfl) | exact .here | apply Del.there)) rfl) (by simp [Value.oneCell']) (by decide) (by decide)) ?_
  rintro _ _ ⟨a9_0, c9_0, rfl, rfl, hn9_0⟩
  refine g_ev (e_fa Try.underlying25 rfl rfl Try.sizeOf22) ?_
  refine g_eff (s_st Try.sizeOf22 rfl (by repeat ((conv => arg 3; whnf); first | with_reducible exact .here | apply Turn.there))) ?_
  rintro _ _ ⟨rfl, rfl⟩
  refine g_nil ?_
  refine gc_region ?_
  refine g_ev (e_mv) ?_
  refine g_ev (e_addw rfl rfl) ?_
  refine g_ev (e_as) ?_
  refine g_nil ?_
  refine gl_round ?_
  refine gc_seq ?_
  refine gc_seq ?_
  refine gc_region ?_
  refine g_ev (e_mv) ?_
  refine g_ev (e_mv) ?_
  refine g_ev (e_cv Try.underlying3 Try.underlying51 rfl) ?_
  refine g_ev (e_rem rfl rfl (by decide)) ?_
  refine g_ev (e_cv Try.underlying51 Try.underlying3 rfl) ?_
  refine g_ev (e_le rfl rfl) ?_
  refine g_nil ?_
  refine gc_true ?_ (hc := by first | ((conv => lhs; whnf); done) | ((conv => lhs; whnf); rfl))
  refine gc_skip ?_
  refine gc_seq ?_
  refine gc_block ?_
  refine gc_seq ?_
  refine gc_region ?_
  refine g_eff (s_call (small_t) .nil) ?_
  rintro _ _ ⟨_, ⟨rfl, rfl⟩, rfl⟩
  refine g_eff (s_al Try.zeroValue66) ?_
  rintro _ _ ⟨b5, rfl, rfl⟩
  refine g_eff (s_stA Try.sizeOf66 rfl rfl (by repeat ((conv => arg 3; whnf); first | with_reducible exact .here | apply Turn.there))) ?_
  rintro _ _ ⟨rfl, rfl⟩
  refine g_nil ?_
  refine gc_seq ?_
  refine gc_region ?_
  refine g_ev (e_mv) ?_
  refine g_ev (e_addw rfl rfl) ?_
  refine g_ev (e_cv Try.underlying3 Try.underlying23 rfl) ?_
  refine g_ev (e_fa Try.underlying66 rfl rfl Try.sizeOf23) ?_
  refine g_eff (s_st Try.sizeOf23 rfl (by repeat ((conv => arg 3; whnf); first | with_reducible exact .here | apply Turn.there))) ?_
  rintro _ _ ⟨rfl, rfl⟩
  refine g_nil ?_
  refine gc_seq ?_
  refine gc_region ?_
  refine g_ev (e_mv) ?_
  refine g_ev (e_addw rfl rfl) ?_
  refine g_ev (e_fa Try.underlying66 rfl rfl Try.sizeOf3) ?_
  refine g_eff (s_st Try.sizeOf3 rfl (by repeat ((conv => arg 3; whnf); first | with_reducible exact .here | apply Turn.there))) ?_
  rintro _ _ ⟨rfl, rfl⟩
  refine g_nil ?_
  refine gc_seq ?_
  refine gc_region ?_
  refine g_ev (e_fa Try.underlying25 rfl rfl Try.sizeOf22) ?_
  refine g_ev (e_ld Try.underlying22 rfl (by repeat ((conv => arg 2; whnf); first | with_reducible exact .here | ((with_reducible refine Del.hereC ?_); rfl) | ((with_reducible refine Del.hereS ?_ ?_ ?_) <;> rfl) | exact .here | apply Del.there)) rfl) ?_
  refine g_ev (e_ldA Try.underlying66 rfl (by repeat ((conv => arg 2; whnf); first | with_reducible exact .here | ((with_reducible refine Del.hereC ?_); rfl) | ((with_reducible refine Del.hereS ?_ ?_ ?_) <;> rfl) | exact .here | apply Del.there)) Try.sizeOf66 (by simp)) ?_
  refine g_eff (s_bs (cs := [.int .u32 8, .int .i64 2, .int .i64 1, .int .i64 11, .int .u32 9]) Try.underlying22 Try.sizeOf66 Try.zeroValue66 rfl) ?_
  rintro _ _ ⟨b8_1, rfl, rfl⟩
  refine g_eff (s_ap (bytes := 40) (k := 5) Try.underlying22 info66 rfl rfl rfl rfl (by decide) rfl rfl (by repeat ((conv => arg 2; whnf); first | with_reducible exact .here | ((with_reducible refine Del.hereC ?_); rfl) | ((with_reducible refine Del.hereS ?_ ?_ ?_) <;> rfl) | exact .here | apply Del.there)) (fun B w h => h.rdsk0 (by repeat ((conv => arg 2; whnf); first | with_reducible exact .here | ((with_reducible refine Del.hereC ?_); rfl) | ((with_reducible refine Del.hereS ?_ ?_ ?_) <;> rfl) | exact .here | apply Del.there)) rfl) (by simp [Value.oneCell']) (by decide) (by decide)) ?_
  rintro _ _ ⟨a8_1, c8_1, rfl, rfl, hn8_1⟩
  refine g_ev (e_fa Try.underlying25 rfl rfl Try.sizeOf22) ?_
  refine g_eff (s_st Try.sizeOf22 rfl (by repeat ((conv => arg 3; whnf); first | with_reducible exact .here | apply Turn.there))) ?_
  rintro _ _ ⟨rfl, rfl⟩
  refine g_nil ?_
  refine gc_region ?_
  refine g_ev (e_fa Try.underlying25 rfl rfl Try.sizeOf22) ?_
  refine g_ev (e_ld Try.underlying22 rfl (by repeat ((conv => arg 2; whnf); first | with_reducible exact .here | ((with_reducible refine Del.hereC ?_); rfl) | ((with_reducible refine Del.hereS ?_ ?_ ?_) <;> rfl) | exact .here | apply Del.there)) rfl) ?_
  refine g_ev (e_ldA Try.underlying66 rfl (by repeat ((conv => arg 2; whnf); first | with_reducible exact .here | ((with_reducible refine Del.hereC ?_); rfl) | ((with_reducible refine Del.hereS ?_ ?_ ?_) <;> rfl) | exact .here | apply Del.there)) Try.sizeOf66 (by simp)) ?_
  refine g_eff (s_bs (cs := [.int .u32 8, .int .i64 2, .int .i64 1, .int .i64 11, .int .u32 9]) Try.underlying22 Try.sizeOf66 Try.zeroValue66 rfl) ?_
  rintro _ _ ⟨b9_1, rfl, rfl⟩
  refine g_eff (s_ap (bytes := 40) (k := 5) Try.underlying22 info66 rfl rfl rfl rfl (by decide) rfl rfl (by repeat ((conv => arg 2; whnf); first | with_reducible exact .here | ((with_reducible refine Del.hereC ?_); rfl) | ((with_reducible refine Del.hereS ?_ ?_ ?_) <;> rfl) | exact .here | apply Del.there)) (fun B w h => h.rdsk0 (by repeat ((conv => arg 2; whnf); first | with_reducible exact .here | ((with_reducible refine Del.hereC ?_); rfl) | ((with_reducible refine Del.hereS ?_ ?_ ?_) <;> rfl) | exact .here | apply Del.there)) rfl) (by simp [Value.oneCell']) (by decide) (by decide)) ?_
  rintro _ _ ⟨a9_1, c9_1, rfl, rfl, hn9_1⟩
  refine g_ev (e_fa Try.underlying25 rfl rfl Try.sizeOf22) ?_
  refine g_eff (s_st Try.sizeOf22 rfl (by repeat ((conv => arg 3; whnf); first | with_reducible exact .here | apply Turn.there))) ?_
  rintro _ _ ⟨rfl, rfl⟩
  refine g_nil ?_
  refine gc_region ?_
  refine g_ev (e_mv) ?_
  refine g_ev (e_addw rfl rfl) ?_
  refine g_ev (e_as) ?_
  refine g_nil ?_
  refine gl_round ?_
  refine gc_seq ?_
  refine gc_seq ?_
  refine gc_region ?_
  refine g_ev (e_mv) ?_
  refine g_ev (e_mv) ?_
  refine g_ev (e_cv Try.underlying3 Try.underlying51 rfl) ?_
  refine g_ev (e_rem rfl rfl (by decide)) ?_
  refine g_ev (e_cv Try.underlying51 Try.underlying3 rfl) ?_
  refine g_ev (e_le rfl rfl) ?_
  refine g_nil ?_
  refine gc_false ?_ (hc := by first | ((conv => lhs; whnf); done) | ((conv => lhs; whnf); rfl))
  refine gc_exit ?_
  refine gc_seq ?_
  refine gc_region ?_
  refine g_ev (e_ldA Try.underlying25 rfl (by repeat ((conv => arg 2; whnf); first | with_reducible exact .here | ((with_reducible refine Del.hereC ?_); rfl) | ((with_reducible refine Del.hereS ?_ ?_ ?_) <;> rfl) | exact .here | apply Del.there)) Try.sizeOf25 (by simp)) ?_
  refine g_eff (s_stA Try.sizeOf25 rfl rfl (by repeat ((conv => arg 3; whnf); first | with_reducible exact .here | apply Turn.there))) ?_
  rintro _ _ ⟨rfl, rfl⟩
  refine g_nil ?_
  refine gc_ret ?_
  exact retc (L1 := [allP [sown 66 5 (.slice a8_1 2 c8_1) 2 ([.int .u32 7, .int .i64 2, .int .i64 1, .int .i64 10, .int .u32 9] ++ [.int .u32 8, .int .i64 2, .int .i64 1, .int .i64 11, .int .u32 9]), sown 66 5 (.slice a9_1 2 c9_1) 2 ([.int .u32 7, .int .i64 2, .int .i64 1, .int .i64 10, .int .u32 9] ++ [.int .u32 8, .int .i64 2, .int .i64 1, .int .i64 11, .int .u32 9])]]) rfl (by (conv => lhs; whnf)) Try.underlying25 (by repeat ((conv => arg 2; whnf); first | with_reducible exact .here | ((with_reducible refine Del.hereC ?_); rfl) | ((with_reducible refine Del.hereS ?_ ?_ ?_) <;> rfl) | exact .here | apply Del.there)) Try.sizeOf25 rfl rfl ⟨_, rfl, _, _, _, _, _, rfl, fun B w s => (by have s2 := Sat.unpack (F := []) s; exact ⟨own_net (ws := [10, 11]) rfl s2 .here (by intro i x h; match i, h with | 0, h => (cases h; rfl) | 1, h => (cases h; rfl)), own_net (ws := [10, 11]) rfl s2 (.there .here) (by intro i x h; match i, h with | 0, h => (cases h; rfl) | 1, h => (cases h; rfl))⟩)⟩ (fun w h => (Sat.pack (M := [sown 66 5 (.slice a8_1 2 c8_1) 2 ([.int .u32 7, .int .i64 2, .int .i64 1, .int .i64 10, .int .u32 9] ++ [.int .u32 8, .int .i64 2, .int .i64 1, .int .i64 11, .int .u32 9]), sown 66 5 (.slice a9_1 2 c9_1) 2 ([.int .u32 7, .int .i64 2, .int .i64 1, .int .i64 10, .int .u32 9] ++ [.int .u32 8, .int .i64 2, .int .i64 1, .int .i64 11, .int .u32 9])]) (F := F) (h.fin (L1 := [sown 66 5 (.slice a8_1 2 c8_1) 2 ([.int .u32 7, .int .i64 2, .int .i64 1, .int .i64 10, .int .u32 9] ++ [.int .u32 8, .int .i64 2, .int .i64 1, .int .i64 11, .int .u32 9]), sown 66 5 (.slice a9_1 2 c9_1) 2 ([.int .u32 7, .int .i64 2, .int .i64 1, .int .i64 10, .int .u32 9] ++ [.int .u32 8, .int .i64 2, .int .i64 1, .int .i64 11, .int .u32 9])]) (F := F) (by repeat ((conv => arg 1; whnf); (conv => arg 2; whnf); first | with_reducible exact .done | exact Fin.all _ | refine .cons (by repeat ((conv => arg 2; whnf); first | with_reducible exact .here | ((with_reducible refine Del.hereC ?_); rfl) | ((with_reducible refine Del.hereS ?_ ?_ ?_) <;> rfl) | exact .here | apply Del.there)) ?_ | refine .drop ?_)))))

end Go.Proofs.Ythjimddhnlmlhaa
