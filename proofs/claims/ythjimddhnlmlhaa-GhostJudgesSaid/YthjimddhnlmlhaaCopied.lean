/- The walk of Copied, and verdicts compared; no conditions. -/
import Derived.Test.YthjimddhnlmlhaaCheck
namespace Go.Proofs.Ythjimddhnlmlhaa
open Go.Vc
theorem pl134 : plOK Try.prog 34 #[(0, 1), (1, 1)] := by intro fs h w; rw [Try.underlying34] at h; cases h; simp
theorem pl143 : plOK Try.prog 43 #[(0, 1), (1, 1), (2, 1), (3, 1), (4, 1), (5, 1), (6, 1), (7, 1)] := by intro fs h w; rw [Try.underlying43] at h; cases h; simp

theorem info43 : Try.prog.info? 43 = some Try.t43 := by kernel_rfl
theorem info26 : Try.prog.info? 26 = some Try.t26 := by kernel_rfl
theorem fcells_one (fs : List FactV) : ∀ u ∈ fcells fs, u.oneCell' = true := by
  intro u hu
  obtain ⟨x, _, hx⟩ := List.mem_flatMap.1 hu
  simp only [FactV.cells, FactS.cells, List.mem_cons, List.not_mem_nil, or_false] at hx
  rcases hx with rfl | rfl | rfl | rfl | rfl | rfl | rfl | rfl <;> rfl
theorem copied_shut {B w : World} {b cap m : Nat} {gs fs : List FactV} {y : FactV} {rest : List Value} {A : HProp} {F : List HProp} (hm : (gs ++ [y] ++ fs).length = m) (hle : m ≤ cap) (hmax : cap ≤ maxLen) (hrest : m * 8 + rest.length = cap * 8)
    (h : Sat B w (ownD gs :: y.part :: blk b 43 (fcells gs ++ (y.cells ++ (fcells fs ++ rest))) :: A :: F)) : Sat B w (sown 43 8 (.slice (some ⟨b, 0, none⟩) m cap) m (fcells (gs ++ [y] ++ fs)) :: ownD (gs ++ [y]) :: A :: F) := by
  have e : fcells (gs ++ [y] ++ fs) ++ rest = fcells gs ++ (y.cells ++ (fcells fs ++ rest)) := by rw [List.append_assoc]; exact fcells_mid gs fs y rest
  rw [← e] at h
  have h2 := ownD_snoc h
  have hl : (fcells (gs ++ [y] ++ fs)).length = m * 8 := by rw [fcells_len, hm]
  exact h2.fin (L1 := [sown 43 8 _ m (fcells (gs ++ [y] ++ fs)), ownD (gs ++ [y]), A]) (F := F) (.fold (M := [blk b 43 (fcells (gs ++ [y] ++ fs) ++ rest)]) (own_fold rfl hl hle hmax (by omega)) (.cons (.there .here) (.cons .here (.cons .here .done))))
theorem run_eqV {a b c e : Int} (w : World) : (Op.equalIn 10000 34 (.agg ⟨[.int .i64 a, .int .i64 b]⟩) (.agg ⟨[.int .i64 c, .int .i64 e]⟩)).run Try.prog w = .ok (decide (a = c ∧ b = e)) w := by
  have h := run_equalIn_struct (P := Try.prog) w 9999 34 ⟨[.int .i64 a, .int .i64 b]⟩ ⟨[.int .i64 c, .int .i64 e]⟩ (by kernel_rfl) (by kernel_rfl)
  rw [show (Op.equalIn 10000 34 _ _).run Try.prog w = _ from h]
  unfold Program.fieldsOf
  rw [Try.underlying34]
  have p0 : ∀ x y : Int, (part 3 ⟨[.int .i64 x, .int .i64 y]⟩ 0).run Try.prog w = .ok (.int .i64 x) w := fun x y => run_part1 Try.underlying3 rfl rfl w
  have p1 : ∀ x y : Int, (part 3 ⟨[.int .i64 x, .int .i64 y]⟩ 1).run Try.prog w = .ok (.int .i64 y) w := fun x y => run_part1 Try.underlying3 rfl rfl w
  have q : ∀ x y : Int, (Op.equalIn 9999 3 (.int .i64 x) (.int .i64 y)).run Try.prog w = .ok (x == y) w := fun x y => run_equalIn_int (P := Try.prog) w 9998 3 .i64 .i64 x y Try.underlying3
  simp only [Op.eqFields, Sem.run_bind, Sem.run_ite, p0, p1, Result.andThen_ok, q, Sem.run_pure]
  by_cases h1 : a = c <;> by_cases h2 : b = e <;> simp [h1, h2]
section
variable {E : Env} {L : List HProp} {d : Option Tmp} {t U : TypeId} {ps : String} {af : Array Edge} {gd : Option (Nat × Bool)} {x y : Operand} {a b c e : Int} (hx : ev E x = .agg ⟨[.int .i64 a, .int .i64 b]⟩) (hy : ev E y = .agg ⟨[.int .i64 c, .int .i64 e]⟩)
include hx hy
theorem e_eqV : Ev Try.prog E L ⟨d, .binOp .eql 34 x y U, t, ps, af, gd⟩ (.bool (decide (a = c ∧ b = e))) := fun _ w _ => by
  have hg : ∀ o, (eqGuard o 34 x y (.agg ⟨[.int .i64 a, .int .i64 b]⟩) (.agg ⟨[.int .i64 c, .int .i64 e]⟩)).run Try.prog w = .ok () w := fun o => run_eqGuard_agg w o 34 x y _ _ (by kernel_rfl)
  have hq := run_eql_struct (P := Try.prog) w 34 ⟨[.int .i64 a, .int .i64 b]⟩ ⟨[.int .i64 c, .int .i64 e]⟩
  rw [run_eqV] at hq
  simp only [execOp, hx, hy, Sem.run_bind, hg, Result.andThen_ok, hq, Sem.run_pure]
theorem e_neV : Ev Try.prog E L ⟨d, .binOp .neq 34 x y U, t, ps, af, gd⟩ (.bool (!decide (a = c ∧ b = e))) := fun _ w _ => by
  have hg : ∀ o, (eqGuard o 34 x y (.agg ⟨[.int .i64 a, .int .i64 b]⟩) (.agg ⟨[.int .i64 c, .int .i64 e]⟩)).run Try.prog w = .ok () w := fun o => run_eqGuard_agg w o 34 x y _ _ (by kernel_rfl)
  have hq := run_neq_struct (P := Try.prog) w 34 ⟨[.int .i64 a, .int .i64 b]⟩ ⟨[.int .i64 c, .int .i64 e]⟩
  rw [run_eqV] at hq
  simp only [execOp, hx, hy, Sem.run_bind, hg, Result.andThen_ok, hq, Sem.run_pure]
end
theorem fs_of_blk {B w : World} {L L' : List HProp} {b off c : Nat} {fs : List FactV} {cs : List Value} (s : Sat B w L) (hd : Del (blk b 43 cs) L L') (h : ∀ j u, (fcells fs)[j]? = some u → cs[off + j]? = some u) (hr : ∀ x ∈ fs, x.rds w) : RdFs w (some ⟨b, off, none⟩) fs :=
  fs_of_rds (sc := c) ⟨fcells_len fs, _, _, rfl, (fun h => by cases h), fun ad had j u hj => by cases had; rw [add_lit, cell_blk (s.read hd)]; exact h j u hj⟩ hr

theorem copied_t {A : HProp} {sa : Option Addr} {sc : Nat} {fs : List FactV} (hfs : ∀ B w, Sat B w [A] → RdFs w sa fs) (hsc : sa = none → sc = 0) (hok : ∀ x ∈ fs, x.f.ok) (hn : fs.length * 72 ≤ 140737488355328) : Tri Try.prog 12 #[.slice sa fs.length sc] [A] (fun v L => ∃ la lc fs2, v = .slice la fs2.length lc ∧ L = [factsM la lc fs2, A] ∧ fs2.map (·.f) = fs.map (·.f)) := by
  refine tri_of Try.call12 Try.func12 rfl fun B F => ?_
  refine gc_seq ?_
  refine gc_region ?_
  refine g_ev (e_as) ?_
  refine g_nil ?_
  refine gc_seq ?_
  refine gc_region ?_
  refine g_eff (s_bs0 Try.underlying26 Try.sizeOf43) ?_
  rintro _ _ ⟨b5, rfl, rfl⟩
  refine g_ev (e_mv) ?_
  refine g_eff (s_ap0 (bytes := 72) (k := 8) Try.underlying26 info43 rfl rfl rfl rfl (by decide) rfl rfl (by repeat ((conv => arg 2; whnf); first | with_reducible exact .here | ((with_reducible refine Del.hereC ?_); rfl) | ((with_reducible refine Del.hereS ?_ ?_ ?_) <;> rfl) | exact .here | apply Del.there)) (fun B w h => rds_of_fs (hfs B w ((h.fin (L1 := [A]) (F := F) (by repeat ((conv => arg 1; whnf); (conv => arg 2; whnf); first | with_reducible exact .done | exact Fin.all _ | refine .cons (by repeat ((conv => arg 2; whnf); first | with_reducible exact .here | ((with_reducible refine Del.hereC ?_); rfl) | ((with_reducible refine Del.hereS ?_ ?_ ?_) <;> rfl) | exact .here | apply Del.there)) ?_ | refine .drop ?_))).left (L1 := [A]))) hsc) (fcells_one fs) hn (by unfold maxLen; omega)) ?_
  rintro _ _ ⟨la, lc, rfl, rfl, hla⟩
  refine g_ev (e_as) ?_
  refine g_nil ?_
  refine gc_seq ?_
  refine gc_seq ?_
  refine gc_region ?_
  refine g_ev (e_mv) ?_
  refine g_ev (e_len Try.underlying26 rfl) ?_
  refine g_ev (e_mv) ?_
  refine g_nil ?_
  refine gc_block ?_
  refine gc_loop (α := Nat × List FactV) (fun x E L => (x.1 ≤ fs.length) ∧ (x.2.map (·.f) = (fs.take x.1).map (·.f)) ∧ E 3 = .slice la fs.length lc ∧ E 9 = .int .i64 (fs.length : Int) ∧ E 10 = .int .i64 (x.1 : Int) ∧ ∀ w, Sat B w L → Sat B w (sown 43 8 (.slice la fs.length lc) fs.length (fcells (x.2 ++ fs.drop x.1)) :: ownD x.2 :: A :: F)) (fun x => fs.length - x.1) ((0, [])) ?_ ?_
  · exact ⟨Nat.zero_le _, rfl, (by (conv => lhs; whnf); try rfl), (by (conv => lhs; whnf); try rfl), (by (conv => lhs; whnf); try rfl), (fun _ h => h.fin (L1 := [sown 43 8 (.slice la fs.length lc) fs.length (fcells fs), ownD [], A]) (F := F) (.cons (by repeat ((conv => arg 2; whnf); first | with_reducible exact .here | ((with_reducible refine Del.hereC ?_); rfl) | ((with_reducible refine Del.hereS ?_ ?_ ?_) <;> rfl) | exact .here | apply Del.there)) (.fold (M := []) ownD_nil (by repeat ((conv => arg 1; whnf); (conv => arg 2; whnf); first | with_reducible exact .done | exact Fin.all _ | refine .cons (by repeat ((conv => arg 2; whnf); first | with_reducible exact .here | ((with_reducible refine Del.hereC ?_); rfl) | ((with_reducible refine Del.hereS ?_ ?_ ?_) <;> rfl) | exact .here | apply Del.there)) ?_ | refine .drop ?_)))))⟩
  · rintro ⟨i, gs⟩ E L ⟨hi, hgs, s3, s9, s10, hL⟩
    dsimp only at hi hgs s3 s9 s10 hL
    refine gc_imp hL ?_
    refine gc_slot 3 _ ?_ s3
    refine gc_slot 9 _ ?_ s9
    refine gc_slot 10 _ ?_ s10
    clear hL s3 s9 s10
    refine gc_seq ?_
    refine gc_region ?_
    refine g_ev (e_lt rfl rfl) ?_
    refine g_nil ?_
    refine gc_seq ?_
    first | refine gc_dec rfl (fun c11 => ?_) (fun c11 => ?_) | refine gc_ndec rfl (fun c11 => ?_) (fun c11 => ?_) | refine gc_cond rfl (fun c11 => ?_) (fun c11 => ?_)
    · skip
      refine gc_skip ?_
      refine gc_seq ?_
      refine gc_block ?_
      refine gc_seq ?_
      refine gc_region ?_
      refine g_ev (e_mv) ?_
      refine g_ev (e_as) ?_
      refine g_nil ?_
      refine gc_region ?_
      obtain ⟨y, hy⟩ : ∃ y, fs[i]? = some y := ⟨_, List.getElem?_eq_getElem (by omega)⟩
      have hyk : y.f.data.length ≤ 140737488355328 := (hok y (List.mem_of_getElem? hy)).1
      have hg : gs.length = i := by have h0 := congrArg List.length hgs; rw [List.length_map, List.length_map, List.length_take] at h0; omega
      have hdr : fs.drop i = y :: fs.drop (i + 1) := by rw [List.drop_eq_getElem_cons (by omega)]; congr 1; rw [List.getElem?_eq_getElem (by omega)] at hy; exact Option.some.inj hy
      rw [hdr]
      refine g_own (m := fs.length) (by omega) (by repeat ((conv => arg 2; whnf); first | with_reducible exact .here | ((with_reducible refine Del.hereC ?_); rfl) | ((with_reducible refine Del.hereS ?_ ?_ ?_) <;> rfl) | exact .here | apply Del.there)) fun b cap rest hv hle hmax hlen hrest => ?_
      injection hv with hv1 hv2 hv3
      subst hv1; subst hv3
      rw [fcells_mid]
      refine g_ev (e_mv) ?_
      refine g_ev (e_mv) ?_
      refine g_eff (s_bs0 Try.underlying41 Try.sizeOf5) ?_
      rintro _ _ ⟨b15, rfl, rfl⟩
      refine g_ev (e_mv) ?_
      refine g_ev (e_mv) ?_
      refine g_ev (e_ia (o := (fcells gs).length) (q := i) Try.underlying26 Try.sizeOf43 rfl rfl rfl (by omega) (by rw [fcells_len, hg]; omega)) ?_
      refine g_ev (e_fa Try.underlying43 rfl rfl Try.sizeOf41) ?_
      refine g_ev (e_ldm 7 Try.underlying41 rfl (by repeat ((conv => arg 2; whnf); first | with_reducible exact .here | ((with_reducible refine Del.hereC ?_); rfl) | ((with_reducible refine Del.hereS ?_ ?_ ?_) <;> rfl) | exact .here | apply Del.there)) rfl) ?_
      refine g_eff (s_ap0 (bytes := 1) (k := 1) Try.underlying41 info5 rfl rfl rfl rfl (by decide) rfl rfl (by repeat ((conv => arg 2; whnf); first | with_reducible exact .here | ((with_reducible refine Del.hereC ?_); rfl) | ((with_reducible refine Del.hereS ?_ ?_ ?_) <;> rfl) | exact .here | apply Del.there)) (fun B w h => (hfs B w ((h.fin (L1 := [A]) (F := F) (by repeat ((conv => arg 1; whnf); (conv => arg 2; whnf); first | with_reducible exact .done | exact Fin.all _ | refine .cons (by repeat ((conv => arg 2; whnf); first | with_reducible exact .here | ((with_reducible refine Del.hereC ?_); rfl) | ((with_reducible refine Del.hereS ?_ ?_ ?_) <;> rfl) | exact .here | apply Del.there)) ?_ | refine .drop ?_))).left (L1 := [A]))).2.2 y (List.mem_of_getElem? hy)) (bv_one _) (by omega) (by unfold maxLen; omega)) ?_
      rintro _ _ ⟨a2, c2, rfl, rfl, hna⟩
      refine g_ev (e_ia (o := (fcells gs).length) (q := i) Try.underlying26 Try.sizeOf43 rfl rfl rfl (by omega) (by rw [fcells_len, hg]; omega)) ?_
      refine g_ev (e_fa Try.underlying43 rfl rfl Try.sizeOf41) ?_
      refine g_eff (s_stm 7 Try.sizeOf41 rfl (by repeat ((conv => arg 3; whnf); first | with_reducible exact .here | apply Turn.there))) ?_
      rintro _ _ ⟨rfl, rfl⟩
      refine g_nil ?_
      refine gc_region ?_
      refine g_ev ((e_addw rfl rfl).to (v' := .int .i64 ((i + 1 : Nat) : Int)) (congrArg _ (wrapN (by omega) (by omega)))) ?_
      refine g_ev (e_mv) ?_
      refine g_nil ?_
      rw [fcells_len] at hrest
      refine Exists.intro ((i + 1, gs ++ [(⟨y.f, a2, c2⟩ : FactV)])) (And.intro ⟨(by show i + 1 ≤ _; omega), (by show (gs ++ [_]).map _ = (fs.take (i + 1)).map _; rw [List.take_add_one, hy, List.map_append, List.map_append, hgs]; rfl), (by (conv => lhs; whnf); try rfl), (by (conv => lhs; whnf); try rfl), (by (conv => lhs; whnf); try rfl), (fun w h => copied_shut (by rw [List.length_append, List.length_append, hg, List.length_drop]; show i + 1 + _ = _; omega) hle hmax (by rw [List.length_append, List.length_cons, List.length_drop, hg] at hrest; omega) (h.fin (L1 := [ownD gs, (⟨y.f, a2, c2⟩ : FactV).part, blk b 43 (fcells gs ++ ((⟨y.f, a2, c2⟩ : FactV).cells ++ (fcells (fs.drop (i + 1)) ++ rest))), A]) (F := F) (by repeat ((conv => arg 1; whnf); (conv => arg 2; whnf); first | with_reducible exact .done | exact Fin.all _ | refine .cons (by repeat ((conv => arg 2; whnf); first | with_reducible exact .here | ((with_reducible refine Del.hereC ?_); rfl) | ((with_reducible refine Del.hereS ?_ ?_ ?_) <;> rfl) | exact .here | apply Del.there)) ?_ | refine .drop ?_))))⟩ (by show _ - (i + 1) < _ - i; omega))
    · skip
      refine gc_exit ?_
      refine gc_seq ?_
      refine gc_region ?_
      refine g_ev (e_mv) ?_
      refine g_ev (e_as) ?_
      refine g_nil ?_
      refine gc_ret ?_
      have hfin : gs.map (·.f) = fs.map (·.f) := by rw [hgs, List.take_of_length_le (by omega)]
      have hgl : gs.length = fs.length := by simpa using congrArg List.length hfin
      have hdr : gs ++ fs.drop i = gs := by rw [List.drop_eq_nil_of_le (by omega), List.append_nil]
      rw [hdr, ← hgl]
      exact ret1 (v := .slice la gs.length lc) (L1 := [factsM la lc gs, A]) rfl (by (conv => lhs; whnf); try rfl) ⟨la, lc, gs, rfl, rfl, hfin⟩ (fun w h => Sat.pack (M := [sown 43 8 (.slice la gs.length lc) gs.length (fcells gs), ownD gs]) (h.fin (L1 := [sown 43 8 (.slice la gs.length lc) gs.length (fcells gs), ownD gs, A]) (F := F) (by repeat ((conv => arg 1; whnf); (conv => arg 2; whnf); first | with_reducible exact .done | exact Fin.all _ | refine .cons (by repeat ((conv => arg 2; whnf); first | with_reducible exact .here | ((with_reducible refine Del.hereC ?_); rfl) | ((with_reducible refine Del.hereS ?_ ?_ ?_) <;> rfl) | exact .here | apply Del.there)) ?_ | refine .drop ?_))))

end Go.Proofs.Ythjimddhnlmlhaa
